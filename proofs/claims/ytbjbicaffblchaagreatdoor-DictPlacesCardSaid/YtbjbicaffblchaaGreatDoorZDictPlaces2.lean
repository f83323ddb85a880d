import Derived.Test.YtbjbicaffblchaaGreatDoorZDictPlaces1
import Derived.ArgAppend
import Derived.Below
import Derived.BigQuiet
import Derived.BigRegion
import Derived.Carry
import Derived.Deep.AppendLies
import Derived.Deep.CutBlock
import Derived.Deep.DeepCutAuto
import Derived.Deep.Draws
import Derived.Deep.LoopGhost
import Derived.Deep.OwnRows
import Derived.Deep.QuietTactic
import Derived.Deep.RegionHeld3
import Derived.Deep.RegionWith
import Derived.KernelRfl
import Derived.LaidEql
import Derived.Laws.BitsLemmas
import Derived.Laws.BytesArg
import Derived.Laws.EntriesVeiled
import Derived.Laws.IdiomCopy
import Derived.Laws.MakeOwn
import Derived.Laws.OwnMore
import Derived.Laws.RangeAny
import Derived.Laws.RangeString
import Derived.Laws.Rows
import Derived.Laws.Slices
import Derived.Lib.AppendStr
import Derived.Lib.ConvBytes
import Derived.Lib.Hide
import Derived.Lib.ItoaLen
import Derived.Lib.OthersKept
import Derived.Maps.AppendAt
import Derived.OrdersHeld
import Derived.Outline
import Derived.OwnWalk
import Derived.RangeFuncRecord
import Derived.RangeFuncStops
import Derived.RowKit
import Derived.RowKit3
import Derived.Shelf.Abstract
import Derived.Shelf.LaysC
import Derived.Shelf.LaysM
import Derived.Shelf.Strconv.Atoi
import Derived.Shelf.Strconv.AtoiAll
import Derived.Shelf.Strconv.AtoiErrFast
import Derived.Shelf.Strconv.AtoiFail
import Derived.Shelf.Strconv.AtoiInnerAll
import Derived.Shelf.Strconv.AtoiLong
import Derived.Shelf.Strconv.Clone
import Derived.Shelf.Strconv.ErrVarAll
import Derived.Shelf.Strconv.Itoa0
import Derived.Shelf.Strconv.Itoa1
import Derived.Shelf.Strconv.Itoa2
import Derived.Shelf.Strconv.Itoa3
import Derived.Shelf.Strconv.Lower
import Derived.Shelf.Strconv.ParseInt10
import Derived.Shelf.Strconv.ParseIntEmpty
import Derived.Shelf.Strconv.ParseUint10
import Derived.Shelf.Strconv.ParseUint10Any
import Derived.Shelf.Strconv.ParseUint10Empty
import Derived.Shelf.Strconv.RangeError
import Derived.Shelf.Strconv.SyntaxError
import Derived.Shelf.Strconv.ToError
import Derived.Shelf.Strconv.ToErrorRange
import Derived.Shelf.Strings.Cut
import Derived.Shelf.Strings.Prefix
import Derived.Shelf.Strings.Search1
import Derived.Shelf.Strings.Search2
import Derived.Shelf.Strings.Shaped
import Derived.Stop.Asserts
import Derived.Tactics
import Derived.Test.YtbjbicaffblchaaGreatDoorProg
import Derived.WalkKit
import Derived.WalkLawsBesides
import Derived.WalkSmall
import Derived.WalkSpells
import Derived.WideLaws
section
namespace Go.Proofs.YtbjbicaffblchaaGreatDoor.Hand
open Go.RowKit
theorem isEmpty_ne (l : List UInt8) : (!l.isEmpty) = (l != []) := by cases l <;> rfl
theorem isEmpty_eq (l : List UInt8) : l.isEmpty = (l == []) := by cases l <;> rfl
theorem below_run {w0 w w' : World} (h : Below w0.heap.size w0 w) (hb : Below w.heap.size w w') : Below w0.heap.size w0 w' := h.trans (hb.mono h.size)
theorem b_alloc {w W : World} (h : Below w.heap.size w W) (o : Obj) : Below w.heap.size w (W.alloc o) := h.alloc h.size o
theorem cell_blk {w : World} {b : Nat} {cs : Array Value} {t : TypeId} {fr : Nat × Nat} (h : w.heap[b]? = some (.cells cs t fr)) (j : Nat) : w.cell? ⟨b, j, none⟩ = cs[j]? := by
  simp [World.cell?, h]
theorem frozen_blk {w : World} {b : Nat} {cs : Array Value} {t : TypeId} (h : w.heap[b]? = some (.cells cs t)) (j : Nat) : w.frozen? ⟨b, j, none⟩ = false := by
  simp [World.frozen?, h]
end Go.Proofs.YtbjbicaffblchaaGreatDoor.Hand
end
section
namespace Go.Proofs
open Go.Shelf
def Tryz.lays244_ren : Go.Shelf.Ren := ⟨fun | 244 => 77 | 247 => 88 | 287 => 100 | 321 => 105 | 322 => 106 | n => n, fun | 9 => 9 | 3 => 3 | 75 => 51 | 4 => 4 | 5 => 5 | 167 => 138 | 37 => 59 | 0 => 0 | 85 => 139 | 2 => 2 | 53 => 133 | 175 => 152 | 46 => 131 | 21 => 21 | 80 => 165 | n => n, fun | n => n⟩
theorem Tryz.lays244 : Go.Proofs.Lays.n244 Tryz.prog Tryz.lays244_ren := {
  mixed := by kernel_rfl
  f244 := Tryz.func77.trans (congrArg some (by kernel_rfl))
  f247 := Tryz.func88.trans (congrArg some (by kernel_rfl))
  f287 := Tryz.func100.trans (congrArg some (by kernel_rfl))
  f321 := Tryz.func105.trans (congrArg some (by kernel_rfl))
  f322 := Tryz.func106.trans (congrArg some (by kernel_rfl))
  t0 := Tryz.underlying0
  a0 := Tryz.isAgg0
  z0 := Tryz.sizeOf0
  v0 := Tryz.zeroValue0
  t2 := Tryz.underlying2
  a2 := Tryz.isAgg2
  z2 := Tryz.sizeOf2
  v2 := Tryz.zeroValue2
  t3 := Tryz.underlying3
  a3 := Tryz.isAgg3
  z3 := Tryz.sizeOf3
  v3 := Tryz.zeroValue3
  t4 := Tryz.underlying4
  a4 := Tryz.isAgg4
  z4 := Tryz.sizeOf4
  v4 := Tryz.zeroValue4
  t5 := Tryz.underlying5
  a5 := Tryz.isAgg5
  z5 := Tryz.sizeOf5
  v5 := Tryz.zeroValue5
  t9 := Tryz.underlying9
  a9 := Tryz.isAgg9
  z9 := Tryz.sizeOf9
  v9 := Tryz.zeroValue9
  t21 := Tryz.underlying21
  a21 := Tryz.isAgg21
  z21 := Tryz.sizeOf21
  v21 := Tryz.zeroValue21
  t37 := Tryz.underlying59
  a37 := Tryz.isAgg59
  z37 := Tryz.sizeOf59
  v37 := Tryz.zeroValue59
  t46 := Tryz.underlying131
  a46 := Tryz.isAgg131
  z46 := Tryz.sizeOf131
  v46 := Tryz.zeroValue131
  t53 := Tryz.underlying133
  a53 := Tryz.isAgg133
  z53 := Tryz.sizeOf133
  v53 := Tryz.zeroValue133
  t75 := Tryz.underlying51
  a75 := Tryz.isAgg51
  z75 := Tryz.sizeOf51
  v75 := Tryz.zeroValue51
  t85 := Tryz.underlying139
  a85 := Tryz.isAgg139
  z85 := Tryz.sizeOf139
  v85 := Tryz.zeroValue139
  t167 := Tryz.underlying138
  a167 := Tryz.isAgg138
  z167 := Tryz.sizeOf138
  v167 := Tryz.zeroValue138
  t175 := Tryz.underlying152
  a175 := Tryz.isAgg152
  z175 := Tryz.sizeOf152
  v175 := Tryz.zeroValue152 }
open Go.RowKit in
theorem Tryz.internal_strconv_Atoi (s : ByteArray) (n : Int) (hl : s.size ≤ 18) (h : Lib.atoi s.data.toList = some n) (w : World) :
    Calls Tryz.prog 77 #[.string s] w fun e w' => e = .returned (.tuple #[.int .i64 n, .nilIface]) ∧ ∃ t, w' = Lib.bytesWorld w 5 t := Any.internal_strconv_Atoi Tryz.lays244 s n hl h w
def Tryz.lays172_ren : Go.Shelf.Ren := ⟨fun | 172 => 71 | 244 => 77 | 245 => 78 | 247 => 88 | 279 => 89 | 280 => 90 | 281 => 91 | 282 => 92 | 287 => 100 | 316 => 101 | 171 => 58 | 205 => 102 | 321 => 105 | 322 => 106 | 243 => 70 | 246 => 76 | 283 => 84 | 284 => 85 | 285 => 86 | 286 => 87 | 129 => 96 | 317 => 95 | 318 => 97 | 319 => 98 | 320 => 99 | 337 => 103 | 338 => 104 | n => n, fun | 9 => 9 | 3 => 3 | 75 => 51 | 76 => 111 | 4 => 4 | 5 => 5 | 167 => 138 | 37 => 59 | 0 => 0 | 85 => 139 | 2 => 2 | 168 => 141 | 53 => 133 | 175 => 152 | 46 => 131 | 210 => 155 | 127 => 159 | 145 => 162 | 143 => 160 | 21 => 21 | 171 => 132 | 173 => 136 | 212 => 148 | 51 => 144 | 20 => 20 | 213 => 149 | 232 => 163 | 233 => 164 | 80 => 165 | n => n, fun | 15 => 5 | 16 => 6 | 17 => 4 | 18 => 7 | 19 => 8 | n => n⟩
theorem Tryz.lays172 : Go.Proofs.Lays.n172 Tryz.prog Tryz.lays172_ren := {
  mixed := by kernel_rfl
  f129 := Tryz.func96.trans (congrArg some (by kernel_rfl))
  f171 := Tryz.func58.trans (congrArg some (by kernel_rfl))
  f172 := Tryz.func71.trans (congrArg some (by kernel_rfl))
  f205 := Tryz.func102.trans (congrArg some (by kernel_rfl))
  f243 := Tryz.func70.trans (congrArg some (by kernel_rfl))
  f244 := Tryz.func77.trans (congrArg some (by kernel_rfl))
  f245 := Tryz.func78.trans (congrArg some (by kernel_rfl))
  f246 := Tryz.func76.trans (congrArg some (by kernel_rfl))
  f247 := Tryz.func88.trans (congrArg some (by kernel_rfl))
  f279 := Tryz.func89.trans (congrArg some (by kernel_rfl))
  f280 := Tryz.func90.trans (congrArg some (by kernel_rfl))
  f281 := Tryz.func91.trans (congrArg some (by kernel_rfl))
  f282 := Tryz.func92.trans (congrArg some (by kernel_rfl))
  f283 := Tryz.func84.trans (congrArg some (by kernel_rfl))
  f284 := Tryz.func85.trans (congrArg some (by kernel_rfl))
  f285 := Tryz.func86.trans (congrArg some (by kernel_rfl))
  f286 := Tryz.func87.trans (congrArg some (by kernel_rfl))
  f287 := Tryz.func100.trans (congrArg some (by kernel_rfl))
  f316 := Tryz.func101.trans (congrArg some (by kernel_rfl))
  f317 := Tryz.func95.trans (congrArg some (by kernel_rfl))
  f318 := Tryz.func97.trans (congrArg some (by kernel_rfl))
  f319 := Tryz.func98.trans (congrArg some (by kernel_rfl))
  f320 := Tryz.func99.trans (congrArg some (by kernel_rfl))
  f321 := Tryz.func105.trans (congrArg some (by kernel_rfl))
  f322 := Tryz.func106.trans (congrArg some (by kernel_rfl))
  f337 := Tryz.func103.trans (congrArg some (by kernel_rfl))
  f338 := Tryz.func104.trans (congrArg some (by kernel_rfl))
  t0 := Tryz.underlying0
  a0 := Tryz.isAgg0
  z0 := Tryz.sizeOf0
  v0 := Tryz.zeroValue0
  t2 := Tryz.underlying2
  a2 := Tryz.isAgg2
  z2 := Tryz.sizeOf2
  v2 := Tryz.zeroValue2
  t3 := Tryz.underlying3
  a3 := Tryz.isAgg3
  z3 := Tryz.sizeOf3
  v3 := Tryz.zeroValue3
  t4 := Tryz.underlying4
  a4 := Tryz.isAgg4
  z4 := Tryz.sizeOf4
  v4 := Tryz.zeroValue4
  t5 := Tryz.underlying5
  a5 := Tryz.isAgg5
  z5 := Tryz.sizeOf5
  v5 := Tryz.zeroValue5
  t9 := Tryz.underlying9
  a9 := Tryz.isAgg9
  z9 := Tryz.sizeOf9
  v9 := Tryz.zeroValue9
  t20 := Tryz.underlying20
  a20 := Tryz.isAgg20
  z20 := Tryz.sizeOf20
  v20 := Tryz.zeroValue20
  t21 := Tryz.underlying21
  a21 := Tryz.isAgg21
  z21 := Tryz.sizeOf21
  v21 := Tryz.zeroValue21
  t37 := Tryz.underlying59
  a37 := Tryz.isAgg59
  z37 := Tryz.sizeOf59
  v37 := Tryz.zeroValue59
  t46 := Tryz.underlying131
  a46 := Tryz.isAgg131
  z46 := Tryz.sizeOf131
  v46 := Tryz.zeroValue131
  t51 := Tryz.underlying144
  a51 := Tryz.isAgg144
  z51 := Tryz.sizeOf144
  v51 := Tryz.zeroValue144
  t53 := Tryz.underlying133
  a53 := Tryz.isAgg133
  z53 := Tryz.sizeOf133
  v53 := Tryz.zeroValue133
  t75 := Tryz.underlying51
  a75 := Tryz.isAgg51
  z75 := Tryz.sizeOf51
  v75 := Tryz.zeroValue51
  t76 := Tryz.underlying111
  a76 := Tryz.isAgg111
  z76 := Tryz.sizeOf111
  v76 := Tryz.zeroValue111
  t85 := Tryz.underlying139
  a85 := Tryz.isAgg139
  z85 := Tryz.sizeOf139
  v85 := Tryz.zeroValue139
  t127 := Tryz.underlying159
  a127 := Tryz.isAgg159
  z127 := Tryz.sizeOf159
  v127 := Tryz.zeroValue159
  t143 := Tryz.underlying160
  a143 := Tryz.isAgg160
  z143 := Tryz.sizeOf160
  v143 := Tryz.zeroValue160
  t145 := Tryz.underlying162
  a145 := Tryz.isAgg162
  z145 := Tryz.sizeOf162
  v145 := Tryz.zeroValue162
  t167 := Tryz.underlying138
  a167 := Tryz.isAgg138
  z167 := Tryz.sizeOf138
  v167 := Tryz.zeroValue138
  t168 := Tryz.underlying141
  a168 := Tryz.isAgg141
  z168 := Tryz.sizeOf141
  v168 := Tryz.zeroValue141
  t171 := Tryz.underlying132
  a171 := Tryz.isAgg132
  z171 := Tryz.sizeOf132
  v171 := Tryz.zeroValue132
  t173 := Tryz.underlying136
  a173 := Tryz.isAgg136
  z173 := Tryz.sizeOf136
  v173 := Tryz.zeroValue136
  t175 := Tryz.underlying152
  a175 := Tryz.isAgg152
  z175 := Tryz.sizeOf152
  v175 := Tryz.zeroValue152
  t210 := Tryz.underlying155
  a210 := Tryz.isAgg155
  z210 := Tryz.sizeOf155
  v210 := Tryz.zeroValue155
  t212 := Tryz.underlying148
  a212 := Tryz.isAgg148
  z212 := Tryz.sizeOf148
  v212 := Tryz.zeroValue148
  t213 := Tryz.underlying149
  a213 := Tryz.isAgg149
  z213 := Tryz.sizeOf149
  t232 := Tryz.underlying163
  a232 := Tryz.isAgg163
  z232 := Tryz.sizeOf163
  v232 := Tryz.zeroValue163
  t233 := Tryz.underlying164
  a233 := Tryz.isAgg164
  z233 := Tryz.sizeOf164
  v233 := Tryz.zeroValue164
  g15 := by kernel_rfl
  g16 := by kernel_rfl
  g17 := by kernel_rfl
  g18 := by kernel_rfl
  g19 := by kernel_rfl }
open Go.RowKit in
theorem Tryz.strconv_Atoi (s : ByteArray) (n : Int) (hl : s.size ≤ 18) (h : Lib.atoi s.data.toList = some n) (w : World) :
    Calls Tryz.prog 71 #[.string s] w fun e w' => e = .returned (.tuple #[.int .i64 n, .nilIface]) ∧ ∃ t, w' = Lib.bytesWorld w 5 t := Any.strconv_Atoi Tryz.lays172 s n hl h w
def Tryz.lays129_ren : Go.Shelf.Ren := ⟨fun | 129 => 96 | n => n, fun | 53 => 133 | 3 => 3 | 4 => 4 | 46 => 131 | 5 => 5 | 9 => 9 | n => n, fun | n => n⟩
theorem Tryz.lays129 : Go.Proofs.Lays.n129 Tryz.prog Tryz.lays129_ren := {
  mixed := by kernel_rfl
  f129 := Tryz.func96.trans (congrArg some (by kernel_rfl))
  t3 := Tryz.underlying3
  a3 := Tryz.isAgg3
  z3 := Tryz.sizeOf3
  v3 := Tryz.zeroValue3
  t4 := Tryz.underlying4
  a4 := Tryz.isAgg4
  z4 := Tryz.sizeOf4
  v4 := Tryz.zeroValue4
  t5 := Tryz.underlying5
  a5 := Tryz.isAgg5
  z5 := Tryz.sizeOf5
  v5 := Tryz.zeroValue5
  t9 := Tryz.underlying9
  a9 := Tryz.isAgg9
  z9 := Tryz.sizeOf9
  v9 := Tryz.zeroValue9
  t46 := Tryz.underlying131
  a46 := Tryz.isAgg131
  z46 := Tryz.sizeOf131
  v46 := Tryz.zeroValue131
  t53 := Tryz.underlying133
  a53 := Tryz.isAgg133
  z53 := Tryz.sizeOf133
  v53 := Tryz.zeroValue133 }
theorem Tryz.bits_Len64 (x : Int) (w : World) (h0 : 0 ≤ x) (h1 : x ≤ 18446744073709551615) :
    Calls Tryz.prog 96 #[.int .u64 x] w fun e w' => e = .returned (.int .i64 (Lib.bitLen x.toNat)) ∧ w' = w := Any.bits_Len64 Tryz.lays129 x w h0 h1
def Tryz.lays317_ren : Go.Shelf.Ren := ⟨fun | 317 => 95 | n => n, fun | 3 => 3 | 46 => 131 | n => n, fun | n => n⟩
theorem Tryz.lays317 : Go.Proofs.Lays.n317 Tryz.prog Tryz.lays317_ren := {
  mixed := by kernel_rfl
  f317 := Tryz.func95.trans (congrArg some (by kernel_rfl))
  t3 := Tryz.underlying3
  a3 := Tryz.isAgg3
  z3 := Tryz.sizeOf3
  v3 := Tryz.zeroValue3
  t46 := Tryz.underlying131
  a46 := Tryz.isAgg131
  z46 := Tryz.sizeOf131
  v46 := Tryz.zeroValue131 }
open Go.Lib in
theorem Tryz.internal_strconv_log10Pow2 (x : Nat) (h : x ≤ 64) (w : World) :
    Calls Tryz.prog 95 #[.int .i64 x] w fun e w' => e = .returned (.int .i64 (Lib.l10 x)) ∧ w' = w := Any.internal_strconv_log10Pow2 Tryz.lays317 x h w
def Tryz.lays318_ren : Go.Shelf.Ren := ⟨fun | 318 => 97 | n => n, fun | 3 => 3 | 4 => 4 | n => n, fun | n => n⟩
theorem Tryz.lays318 : Go.Proofs.Lays.n318 Tryz.prog Tryz.lays318_ren := {
  mixed := by kernel_rfl
  f318 := Tryz.func97.trans (congrArg some (by kernel_rfl))
  t3 := Tryz.underlying3
  a3 := Tryz.isAgg3
  z3 := Tryz.sizeOf3
  v3 := Tryz.zeroValue3
  t4 := Tryz.underlying4
  a4 := Tryz.isAgg4
  z4 := Tryz.sizeOf4
  v4 := Tryz.zeroValue4 }
open Go.Lib in
theorem Tryz.internal_strconv_bool2_int (b : Bool) (w : World) :
    Calls Tryz.prog 97 #[.bool b] w fun e w' => e = .returned (.int .i64 (if b then 1 else 0)) ∧ w' = w := Any.internal_strconv_bool2_int Tryz.lays318 b w
def Tryz.lays283_ren : Go.Shelf.Ren := ⟨fun | 283 => 84 | n => n, fun | 3 => 3 | 9 => 9 | 4 => 4 | n => n, fun | n => n⟩
theorem Tryz.lays283 : Go.Proofs.Lays.n283 Tryz.prog Tryz.lays283_ren := {
  mixed := by kernel_rfl
  f283 := Tryz.func84.trans (congrArg some (by kernel_rfl))
  t3 := Tryz.underlying3
  a3 := Tryz.isAgg3
  z3 := Tryz.sizeOf3
  v3 := Tryz.zeroValue3
  t4 := Tryz.underlying4
  a4 := Tryz.isAgg4
  z4 := Tryz.sizeOf4
  v4 := Tryz.zeroValue4
  t9 := Tryz.underlying9
  a9 := Tryz.isAgg9
  z9 := Tryz.sizeOf9
  v9 := Tryz.zeroValue9 }
open Go.Lib in
theorem Tryz.internal_strconv_small (i : Nat) (h : i < 100) (w : World) :
    Calls Tryz.prog 84 #[.int .i64 i] w fun e w' => e = .returned (.string ⟨(Lib.decDigits i).toArray⟩) ∧ w' = w := Any.internal_strconv_small Tryz.lays283 i h w
def Tryz.laysM284_ren : Go.Shelf.Ren := ⟨fun | 284 => 85 | 129 => 96 | 317 => 95 | 318 => 97 | n => n, fun | 53 => 133 | 3 => 3 | 212 => 148 | 0 => 0 | 4 => 4 | 46 => 131 | 5 => 5 | 9 => 9 | n => n, fun | 17 => 4 | n => n⟩
theorem Tryz.laysM284 : Go.Proofs.LaysM.n284 Tryz.prog Tryz.laysM284_ren := {
  mixed := by kernel_rfl
  f129 := Tryz.func96.trans (congrArg some (by kernel_rfl))
  f284 := Tryz.func85.trans (congrArg some (by kernel_rfl))
  f317 := Tryz.func95.trans (congrArg some (by kernel_rfl))
  f318 := Tryz.func97.trans (congrArg some (by kernel_rfl))
  t0 := Tryz.underlying0
  a0 := Tryz.isAgg0
  z0 := Tryz.sizeOf0
  v0 := Tryz.zeroValue0
  t3 := Tryz.underlying3
  a3 := Tryz.isAgg3
  z3 := Tryz.sizeOf3
  v3 := Tryz.zeroValue3
  t4 := Tryz.underlying4
  a4 := Tryz.isAgg4
  z4 := Tryz.sizeOf4
  v4 := Tryz.zeroValue4
  t5 := Tryz.underlying5
  a5 := Tryz.isAgg5
  z5 := Tryz.sizeOf5
  v5 := Tryz.zeroValue5
  t9 := Tryz.underlying9
  a9 := Tryz.isAgg9
  z9 := Tryz.sizeOf9
  v9 := Tryz.zeroValue9
  t46 := Tryz.underlying131
  a46 := Tryz.isAgg131
  z46 := Tryz.sizeOf131
  v46 := Tryz.zeroValue131
  t53 := Tryz.underlying133
  a53 := Tryz.isAgg133
  z53 := Tryz.sizeOf133
  v53 := Tryz.zeroValue133
  t212 := Tryz.underlying148
  a212 := Tryz.isAgg148
  z212 := Tryz.sizeOf148
  v212 := Tryz.zeroValue148
  g17 := by kernel_rfl
  i0 := by kernel_rfl
  i3 := by kernel_rfl
  i4 := by kernel_rfl
  i5 := by kernel_rfl
  i9 := by kernel_rfl
  i46 := by kernel_rfl
  i53 := by kernel_rfl
  i212 := by kernel_rfl
  m17 := by kernel_rfl }
open Go.Lib in
theorem Tryz.internal_strconv_numDigits (u : Nat) (h1 : 1 ≤ u) (h2 : u < 18446744073709551616) (w : World) (htab : Lib.TabIs Tryz.prog w "internal/strconv.uint64pow10" .u64 Lib.pow10Tab) :
    Calls Tryz.prog 85 #[.int .u64 u] w fun e w' => e = .returned (.int .i64 (Lib.nDigits u)) ∧ w' = w := Any.internal_strconv_numDigits Tryz.laysM284 u h1 h2 w htab
def Tryz.lays285_ren : Go.Shelf.Ren := ⟨fun | 285 => 86 | n => n, fun | 37 => 59 | 53 => 133 | 3 => 3 | 4 => 4 | 51 => 144 | 9 => 9 | 5 => 5 | 0 => 0 | n => n, fun | n => n⟩
theorem Tryz.lays285 : Go.Proofs.Lays.n285 Tryz.prog Tryz.lays285_ren := {
  mixed := by kernel_rfl
  f285 := Tryz.func86.trans (congrArg some (by kernel_rfl))
  t0 := Tryz.underlying0
  a0 := Tryz.isAgg0
  z0 := Tryz.sizeOf0
  v0 := Tryz.zeroValue0
  t3 := Tryz.underlying3
  a3 := Tryz.isAgg3
  z3 := Tryz.sizeOf3
  v3 := Tryz.zeroValue3
  t4 := Tryz.underlying4
  a4 := Tryz.isAgg4
  z4 := Tryz.sizeOf4
  v4 := Tryz.zeroValue4
  t5 := Tryz.underlying5
  a5 := Tryz.isAgg5
  z5 := Tryz.sizeOf5
  v5 := Tryz.zeroValue5
  t9 := Tryz.underlying9
  a9 := Tryz.isAgg9
  z9 := Tryz.sizeOf9
  v9 := Tryz.zeroValue9
  t37 := Tryz.underlying59
  a37 := Tryz.isAgg59
  z37 := Tryz.sizeOf59
  v37 := Tryz.zeroValue59
  t51 := Tryz.underlying144
  a51 := Tryz.isAgg144
  z51 := Tryz.sizeOf144
  v51 := Tryz.zeroValue144
  t53 := Tryz.underlying133
  a53 := Tryz.isAgg133
  z53 := Tryz.sizeOf133
  v53 := Tryz.zeroValue133 }
open Go.RowKit Go.Sort Go.Lib in
theorem Tryz.internal_strconv_formatBase10 (blk off cap : Nat) (u : Nat) (d : Array UInt8) (w : World) (hH : Holds (fun (b : UInt8) => Value.int .u8 (b.toNat : Int)) w blk off d) (hu : u < 10 ^ d.size) (hu64 : u < 18446744073709551616) (hsz : d.size < 4611686018427387904) :
    Calls Tryz.prog 86 #[.slice (some ⟨blk, off, none⟩) d.size cap, .int .u64 u] w fun e w' =>
      e = .returned (.tuple #[]) ∧ ∃ (n v' : Nat) (dk : Array UInt8), w' = (putRow (fun (b : UInt8) => Value.int .u8 (b.toNat : Int)) w blk off dk).drewN n ∧ FmtInv d.size u 0 v' dk := Any.internal_strconv_formatBase10 Tryz.lays285 blk off cap u d w hH hu hu64 hsz
def Tryz.laysM246_ren : Go.Shelf.Ren := ⟨fun | 246 => 76 | 283 => 84 | 284 => 85 | 285 => 86 | 286 => 87 | 129 => 96 | 317 => 95 | 318 => 97 | 319 => 98 | 320 => 99 | 337 => 103 | 338 => 104 | n => n, fun | 2 => 2 | 3 => 3 | 9 => 9 | 4 => 4 | 171 => 132 | 0 => 0 | 53 => 133 | 37 => 59 | 5 => 5 | 173 => 136 | 212 => 148 | 51 => 144 | 20 => 20 | 213 => 149 | 46 => 131 | 232 => 163 | 233 => 164 | n => n, fun | 17 => 4 | 18 => 7 | 19 => 8 | n => n⟩
theorem Tryz.laysM246 : Go.Proofs.LaysM.n246 Tryz.prog Tryz.laysM246_ren := {
  mixed := by kernel_rfl
  f129 := Tryz.func96.trans (congrArg some (by kernel_rfl))
  f246 := Tryz.func76.trans (congrArg some (by kernel_rfl))
  f283 := Tryz.func84.trans (congrArg some (by kernel_rfl))
  f284 := Tryz.func85.trans (congrArg some (by kernel_rfl))
  f285 := Tryz.func86.trans (congrArg some (by kernel_rfl))
  f286 := Tryz.func87.trans (congrArg some (by kernel_rfl))
  f317 := Tryz.func95.trans (congrArg some (by kernel_rfl))
  f318 := Tryz.func97.trans (congrArg some (by kernel_rfl))
  f319 := Tryz.func98.trans (congrArg some (by kernel_rfl))
  f320 := Tryz.func99.trans (congrArg some (by kernel_rfl))
  f337 := Tryz.func103.trans (congrArg some (by kernel_rfl))
  f338 := Tryz.func104.trans (congrArg some (by kernel_rfl))
  t0 := Tryz.underlying0
  a0 := Tryz.isAgg0
  z0 := Tryz.sizeOf0
  v0 := Tryz.zeroValue0
  t2 := Tryz.underlying2
  a2 := Tryz.isAgg2
  z2 := Tryz.sizeOf2
  v2 := Tryz.zeroValue2
  t3 := Tryz.underlying3
  a3 := Tryz.isAgg3
  z3 := Tryz.sizeOf3
  v3 := Tryz.zeroValue3
  t4 := Tryz.underlying4
  a4 := Tryz.isAgg4
  z4 := Tryz.sizeOf4
  v4 := Tryz.zeroValue4
  t5 := Tryz.underlying5
  a5 := Tryz.isAgg5
  z5 := Tryz.sizeOf5
  v5 := Tryz.zeroValue5
  t9 := Tryz.underlying9
  a9 := Tryz.isAgg9
  z9 := Tryz.sizeOf9
  v9 := Tryz.zeroValue9
  t20 := Tryz.underlying20
  a20 := Tryz.isAgg20
  z20 := Tryz.sizeOf20
  v20 := Tryz.zeroValue20
  t37 := Tryz.underlying59
  a37 := Tryz.isAgg59
  z37 := Tryz.sizeOf59
  v37 := Tryz.zeroValue59
  t46 := Tryz.underlying131
  a46 := Tryz.isAgg131
  z46 := Tryz.sizeOf131
  v46 := Tryz.zeroValue131
  t51 := Tryz.underlying144
  a51 := Tryz.isAgg144
  z51 := Tryz.sizeOf144
  v51 := Tryz.zeroValue144
  t53 := Tryz.underlying133
  a53 := Tryz.isAgg133
  z53 := Tryz.sizeOf133
  v53 := Tryz.zeroValue133
  t171 := Tryz.underlying132
  a171 := Tryz.isAgg132
  z171 := Tryz.sizeOf132
  v171 := Tryz.zeroValue132
  t173 := Tryz.underlying136
  a173 := Tryz.isAgg136
  z173 := Tryz.sizeOf136
  v173 := Tryz.zeroValue136
  t212 := Tryz.underlying148
  a212 := Tryz.isAgg148
  z212 := Tryz.sizeOf148
  v212 := Tryz.zeroValue148
  t213 := Tryz.underlying149
  a213 := Tryz.isAgg149
  z213 := Tryz.sizeOf149
  t232 := Tryz.underlying163
  a232 := Tryz.isAgg163
  z232 := Tryz.sizeOf163
  v232 := Tryz.zeroValue163
  t233 := Tryz.underlying164
  a233 := Tryz.isAgg164
  z233 := Tryz.sizeOf164
  v233 := Tryz.zeroValue164
  g17 := by kernel_rfl
  g18 := by kernel_rfl
  g19 := by kernel_rfl
  i0 := by kernel_rfl
  i2 := by kernel_rfl
  i3 := by kernel_rfl
  i4 := by kernel_rfl
  i5 := by kernel_rfl
  i9 := by kernel_rfl
  i20 := by kernel_rfl
  i37 := by kernel_rfl
  i46 := by kernel_rfl
  i51 := by kernel_rfl
  i53 := by kernel_rfl
  i171 := by kernel_rfl
  i173 := by kernel_rfl
  i212 := by kernel_rfl
  i232 := by kernel_rfl
  i233 := by kernel_rfl
  m17 := by kernel_rfl
  m18 := by kernel_rfl
  m19 := by kernel_rfl }
open Go.RowKit Go.Sort Go.Lib in
theorem Tryz.internal_strconv_FormatInt_10 (n : Int) (h0 : -9223372036854775808 ≤ n) (h1 : n ≤ 9223372036854775807) (w : World) (htab : Lib.TabIs Tryz.prog w "internal/strconv.uint64pow10" .u64 Lib.pow10Tab) :
    Calls Tryz.prog 76 #[.int .i64 n, .int .i64 10] w fun e w' => e = .returned (.string ⟨(Lib.itoa n).toArray⟩) ∧ ∃ k os, w' = grow (w.drewN k) os := Any.internal_strconv_FormatInt_10 Tryz.laysM246 n h0 h1 w htab
def Tryz.lays246_ren : Go.Shelf.Ren := ⟨fun | 246 => 76 | 283 => 84 | 284 => 85 | 285 => 86 | 286 => 87 | 129 => 96 | 317 => 95 | 318 => 97 | 319 => 98 | 320 => 99 | 337 => 103 | 338 => 104 | n => n, fun | 2 => 2 | 3 => 3 | 9 => 9 | 4 => 4 | 171 => 132 | 0 => 0 | 53 => 133 | 37 => 59 | 5 => 5 | 173 => 136 | 212 => 148 | 51 => 144 | 20 => 20 | 213 => 149 | 46 => 131 | 232 => 163 | 233 => 164 | n => n, fun | 17 => 4 | 18 => 7 | 19 => 8 | n => n⟩
theorem Tryz.lays246 : Go.Proofs.Lays.n246 Tryz.prog Tryz.lays246_ren := {
  mixed := by kernel_rfl
  f129 := Tryz.func96.trans (congrArg some (by kernel_rfl))
  f246 := Tryz.func76.trans (congrArg some (by kernel_rfl))
  f283 := Tryz.func84.trans (congrArg some (by kernel_rfl))
  f284 := Tryz.func85.trans (congrArg some (by kernel_rfl))
  f285 := Tryz.func86.trans (congrArg some (by kernel_rfl))
  f286 := Tryz.func87.trans (congrArg some (by kernel_rfl))
  f317 := Tryz.func95.trans (congrArg some (by kernel_rfl))
  f318 := Tryz.func97.trans (congrArg some (by kernel_rfl))
  f319 := Tryz.func98.trans (congrArg some (by kernel_rfl))
  f320 := Tryz.func99.trans (congrArg some (by kernel_rfl))
  f337 := Tryz.func103.trans (congrArg some (by kernel_rfl))
  f338 := Tryz.func104.trans (congrArg some (by kernel_rfl))
  t0 := Tryz.underlying0
  a0 := Tryz.isAgg0
  z0 := Tryz.sizeOf0
  v0 := Tryz.zeroValue0
  t2 := Tryz.underlying2
  a2 := Tryz.isAgg2
  z2 := Tryz.sizeOf2
  v2 := Tryz.zeroValue2
  t3 := Tryz.underlying3
  a3 := Tryz.isAgg3
  z3 := Tryz.sizeOf3
  v3 := Tryz.zeroValue3
  t4 := Tryz.underlying4
  a4 := Tryz.isAgg4
  z4 := Tryz.sizeOf4
  v4 := Tryz.zeroValue4
  t5 := Tryz.underlying5
  a5 := Tryz.isAgg5
  z5 := Tryz.sizeOf5
  v5 := Tryz.zeroValue5
  t9 := Tryz.underlying9
  a9 := Tryz.isAgg9
  z9 := Tryz.sizeOf9
  v9 := Tryz.zeroValue9
  t20 := Tryz.underlying20
  a20 := Tryz.isAgg20
  z20 := Tryz.sizeOf20
  v20 := Tryz.zeroValue20
  t37 := Tryz.underlying59
  a37 := Tryz.isAgg59
  z37 := Tryz.sizeOf59
  v37 := Tryz.zeroValue59
  t46 := Tryz.underlying131
  a46 := Tryz.isAgg131
  z46 := Tryz.sizeOf131
  v46 := Tryz.zeroValue131
  t51 := Tryz.underlying144
  a51 := Tryz.isAgg144
  z51 := Tryz.sizeOf144
  v51 := Tryz.zeroValue144
  t53 := Tryz.underlying133
  a53 := Tryz.isAgg133
  z53 := Tryz.sizeOf133
  v53 := Tryz.zeroValue133
  t171 := Tryz.underlying132
  a171 := Tryz.isAgg132
  z171 := Tryz.sizeOf132
  v171 := Tryz.zeroValue132
  t173 := Tryz.underlying136
  a173 := Tryz.isAgg136
  z173 := Tryz.sizeOf136
  v173 := Tryz.zeroValue136
  t212 := Tryz.underlying148
  a212 := Tryz.isAgg148
  z212 := Tryz.sizeOf148
  v212 := Tryz.zeroValue148
  t213 := Tryz.underlying149
  a213 := Tryz.isAgg149
  z213 := Tryz.sizeOf149
  t232 := Tryz.underlying163
  a232 := Tryz.isAgg163
  z232 := Tryz.sizeOf163
  v232 := Tryz.zeroValue163
  t233 := Tryz.underlying164
  a233 := Tryz.isAgg164
  z233 := Tryz.sizeOf164
  v233 := Tryz.zeroValue164
  g17 := by kernel_rfl
  g18 := by kernel_rfl
  g19 := by kernel_rfl }
open Go.RowKit Go.Sort Go.Lib in
theorem Tryz.internal_strconv_FormatInt_10_small (i : Nat) (hi : i < 100) (w : World) :
    Calls Tryz.prog 76 #[.int .i64 i, .int .i64 10] w fun e w' => e = .returned (.string ⟨(Lib.decDigits i).toArray⟩) ∧ w' = w := Any.internal_strconv_FormatInt_10_small Tryz.lays246 i hi w
def Tryz.laysM243_ren : Go.Shelf.Ren := ⟨fun | 243 => 70 | 246 => 76 | 283 => 84 | 284 => 85 | 285 => 86 | 286 => 87 | 129 => 96 | 317 => 95 | 318 => 97 | 319 => 98 | 320 => 99 | 337 => 103 | 338 => 104 | n => n, fun | 3 => 3 | 9 => 9 | 2 => 2 | 4 => 4 | 171 => 132 | 0 => 0 | 53 => 133 | 37 => 59 | 5 => 5 | 173 => 136 | 212 => 148 | 51 => 144 | 20 => 20 | 213 => 149 | 46 => 131 | 232 => 163 | 233 => 164 | n => n, fun | 17 => 4 | 18 => 7 | 19 => 8 | n => n⟩
theorem Tryz.laysM243 : Go.Proofs.LaysM.n243 Tryz.prog Tryz.laysM243_ren := {
  mixed := by kernel_rfl
  f129 := Tryz.func96.trans (congrArg some (by kernel_rfl))
  f243 := Tryz.func70.trans (congrArg some (by kernel_rfl))
  f246 := Tryz.func76.trans (congrArg some (by kernel_rfl))
  f283 := Tryz.func84.trans (congrArg some (by kernel_rfl))
  f284 := Tryz.func85.trans (congrArg some (by kernel_rfl))
  f285 := Tryz.func86.trans (congrArg some (by kernel_rfl))
  f286 := Tryz.func87.trans (congrArg some (by kernel_rfl))
  f317 := Tryz.func95.trans (congrArg some (by kernel_rfl))
  f318 := Tryz.func97.trans (congrArg some (by kernel_rfl))
  f319 := Tryz.func98.trans (congrArg some (by kernel_rfl))
  f320 := Tryz.func99.trans (congrArg some (by kernel_rfl))
  f337 := Tryz.func103.trans (congrArg some (by kernel_rfl))
  f338 := Tryz.func104.trans (congrArg some (by kernel_rfl))
  t0 := Tryz.underlying0
  a0 := Tryz.isAgg0
  z0 := Tryz.sizeOf0
  v0 := Tryz.zeroValue0
  t2 := Tryz.underlying2
  a2 := Tryz.isAgg2
  z2 := Tryz.sizeOf2
  v2 := Tryz.zeroValue2
  t3 := Tryz.underlying3
  a3 := Tryz.isAgg3
  z3 := Tryz.sizeOf3
  v3 := Tryz.zeroValue3
  t4 := Tryz.underlying4
  a4 := Tryz.isAgg4
  z4 := Tryz.sizeOf4
  v4 := Tryz.zeroValue4
  t5 := Tryz.underlying5
  a5 := Tryz.isAgg5
  z5 := Tryz.sizeOf5
  v5 := Tryz.zeroValue5
  t9 := Tryz.underlying9
  a9 := Tryz.isAgg9
  z9 := Tryz.sizeOf9
  v9 := Tryz.zeroValue9
  t20 := Tryz.underlying20
  a20 := Tryz.isAgg20
  z20 := Tryz.sizeOf20
  v20 := Tryz.zeroValue20
  t37 := Tryz.underlying59
  a37 := Tryz.isAgg59
  z37 := Tryz.sizeOf59
  v37 := Tryz.zeroValue59
  t46 := Tryz.underlying131
  a46 := Tryz.isAgg131
  z46 := Tryz.sizeOf131
  v46 := Tryz.zeroValue131
  t51 := Tryz.underlying144
  a51 := Tryz.isAgg144
  z51 := Tryz.sizeOf144
  v51 := Tryz.zeroValue144
  t53 := Tryz.underlying133
  a53 := Tryz.isAgg133
  z53 := Tryz.sizeOf133
  v53 := Tryz.zeroValue133
  t171 := Tryz.underlying132
  a171 := Tryz.isAgg132
  z171 := Tryz.sizeOf132
  v171 := Tryz.zeroValue132
  t173 := Tryz.underlying136
  a173 := Tryz.isAgg136
  z173 := Tryz.sizeOf136
  v173 := Tryz.zeroValue136
  t212 := Tryz.underlying148
  a212 := Tryz.isAgg148
  z212 := Tryz.sizeOf148
  v212 := Tryz.zeroValue148
  t213 := Tryz.underlying149
  a213 := Tryz.isAgg149
  z213 := Tryz.sizeOf149
  t232 := Tryz.underlying163
  a232 := Tryz.isAgg163
  z232 := Tryz.sizeOf163
  v232 := Tryz.zeroValue163
  t233 := Tryz.underlying164
  a233 := Tryz.isAgg164
  z233 := Tryz.sizeOf164
  v233 := Tryz.zeroValue164
  g17 := by kernel_rfl
  g18 := by kernel_rfl
  g19 := by kernel_rfl
  i0 := by kernel_rfl
  i2 := by kernel_rfl
  i3 := by kernel_rfl
  i4 := by kernel_rfl
  i5 := by kernel_rfl
  i9 := by kernel_rfl
  i20 := by kernel_rfl
  i37 := by kernel_rfl
  i46 := by kernel_rfl
  i51 := by kernel_rfl
  i53 := by kernel_rfl
  i171 := by kernel_rfl
  i173 := by kernel_rfl
  i212 := by kernel_rfl
  i232 := by kernel_rfl
  i233 := by kernel_rfl
  m17 := by kernel_rfl
  m18 := by kernel_rfl
  m19 := by kernel_rfl }
open Go.RowKit Go.Sort Go.Lib in
theorem Tryz.internal_strconv_Itoa (n : Int) (h0 : -9223372036854775808 ≤ n) (h1 : n ≤ 9223372036854775807) (w : World) (htab : Lib.TabIs Tryz.prog w "internal/strconv.uint64pow10" .u64 Lib.pow10Tab) :
    Calls Tryz.prog 70 #[.int .i64 n] w fun e w' => e = .returned (.string ⟨(Lib.itoa n).toArray⟩) ∧ ∃ k os, w' = grow (w.drewN k) os := Any.internal_strconv_Itoa Tryz.laysM243 n h0 h1 w htab
def Tryz.lays243_ren : Go.Shelf.Ren := ⟨fun | 243 => 70 | 246 => 76 | 283 => 84 | 284 => 85 | 285 => 86 | 286 => 87 | 129 => 96 | 317 => 95 | 318 => 97 | 319 => 98 | 320 => 99 | 337 => 103 | 338 => 104 | n => n, fun | 3 => 3 | 9 => 9 | 2 => 2 | 4 => 4 | 171 => 132 | 0 => 0 | 53 => 133 | 37 => 59 | 5 => 5 | 173 => 136 | 212 => 148 | 51 => 144 | 20 => 20 | 213 => 149 | 46 => 131 | 232 => 163 | 233 => 164 | n => n, fun | 17 => 4 | 18 => 7 | 19 => 8 | n => n⟩
theorem Tryz.lays243 : Go.Proofs.Lays.n243 Tryz.prog Tryz.lays243_ren := {
  mixed := by kernel_rfl
  f129 := Tryz.func96.trans (congrArg some (by kernel_rfl))
  f243 := Tryz.func70.trans (congrArg some (by kernel_rfl))
  f246 := Tryz.func76.trans (congrArg some (by kernel_rfl))
  f283 := Tryz.func84.trans (congrArg some (by kernel_rfl))
  f284 := Tryz.func85.trans (congrArg some (by kernel_rfl))
  f285 := Tryz.func86.trans (congrArg some (by kernel_rfl))
  f286 := Tryz.func87.trans (congrArg some (by kernel_rfl))
  f317 := Tryz.func95.trans (congrArg some (by kernel_rfl))
  f318 := Tryz.func97.trans (congrArg some (by kernel_rfl))
  f319 := Tryz.func98.trans (congrArg some (by kernel_rfl))
  f320 := Tryz.func99.trans (congrArg some (by kernel_rfl))
  f337 := Tryz.func103.trans (congrArg some (by kernel_rfl))
  f338 := Tryz.func104.trans (congrArg some (by kernel_rfl))
  t0 := Tryz.underlying0
  a0 := Tryz.isAgg0
  z0 := Tryz.sizeOf0
  v0 := Tryz.zeroValue0
  t2 := Tryz.underlying2
  a2 := Tryz.isAgg2
  z2 := Tryz.sizeOf2
  v2 := Tryz.zeroValue2
  t3 := Tryz.underlying3
  a3 := Tryz.isAgg3
  z3 := Tryz.sizeOf3
  v3 := Tryz.zeroValue3
  t4 := Tryz.underlying4
  a4 := Tryz.isAgg4
  z4 := Tryz.sizeOf4
  v4 := Tryz.zeroValue4
  t5 := Tryz.underlying5
  a5 := Tryz.isAgg5
  z5 := Tryz.sizeOf5
  v5 := Tryz.zeroValue5
  t9 := Tryz.underlying9
  a9 := Tryz.isAgg9
  z9 := Tryz.sizeOf9
  v9 := Tryz.zeroValue9
  t20 := Tryz.underlying20
  a20 := Tryz.isAgg20
  z20 := Tryz.sizeOf20
  v20 := Tryz.zeroValue20
  t37 := Tryz.underlying59
  a37 := Tryz.isAgg59
  z37 := Tryz.sizeOf59
  v37 := Tryz.zeroValue59
  t46 := Tryz.underlying131
  a46 := Tryz.isAgg131
  z46 := Tryz.sizeOf131
  v46 := Tryz.zeroValue131
  t51 := Tryz.underlying144
  a51 := Tryz.isAgg144
  z51 := Tryz.sizeOf144
  v51 := Tryz.zeroValue144
  t53 := Tryz.underlying133
  a53 := Tryz.isAgg133
  z53 := Tryz.sizeOf133
  v53 := Tryz.zeroValue133
  t171 := Tryz.underlying132
  a171 := Tryz.isAgg132
  z171 := Tryz.sizeOf132
  v171 := Tryz.zeroValue132
  t173 := Tryz.underlying136
  a173 := Tryz.isAgg136
  z173 := Tryz.sizeOf136
  v173 := Tryz.zeroValue136
  t212 := Tryz.underlying148
  a212 := Tryz.isAgg148
  z212 := Tryz.sizeOf148
  v212 := Tryz.zeroValue148
  t213 := Tryz.underlying149
  a213 := Tryz.isAgg149
  z213 := Tryz.sizeOf149
  t232 := Tryz.underlying163
  a232 := Tryz.isAgg163
  z232 := Tryz.sizeOf163
  v232 := Tryz.zeroValue163
  t233 := Tryz.underlying164
  a233 := Tryz.isAgg164
  z233 := Tryz.sizeOf164
  v233 := Tryz.zeroValue164
  g17 := by kernel_rfl
  g18 := by kernel_rfl
  g19 := by kernel_rfl }
open Go.RowKit Go.Sort Go.Lib in
theorem Tryz.internal_strconv_Itoa_small (i : Nat) (hi : i < 100) (w : World) :
    Calls Tryz.prog 70 #[.int .i64 i] w fun e w' => e = .returned (.string ⟨(Lib.decDigits i).toArray⟩) ∧ w' = w := Any.internal_strconv_Itoa_small Tryz.lays243 i hi w
def Tryz.laysM171_ren : Go.Shelf.Ren := ⟨fun | 171 => 58 | 243 => 70 | 246 => 76 | 283 => 84 | 284 => 85 | 285 => 86 | 286 => 87 | 129 => 96 | 317 => 95 | 318 => 97 | 319 => 98 | 320 => 99 | 337 => 103 | 338 => 104 | n => n, fun | 3 => 3 | 9 => 9 | 2 => 2 | 4 => 4 | 171 => 132 | 0 => 0 | 53 => 133 | 37 => 59 | 5 => 5 | 173 => 136 | 212 => 148 | 51 => 144 | 20 => 20 | 213 => 149 | 46 => 131 | 232 => 163 | 233 => 164 | n => n, fun | 17 => 4 | 18 => 7 | 19 => 8 | n => n⟩
theorem Tryz.laysM171 : Go.Proofs.LaysM.n171 Tryz.prog Tryz.laysM171_ren := {
  mixed := by kernel_rfl
  f129 := Tryz.func96.trans (congrArg some (by kernel_rfl))
  f171 := Tryz.func58.trans (congrArg some (by kernel_rfl))
  f243 := Tryz.func70.trans (congrArg some (by kernel_rfl))
  f246 := Tryz.func76.trans (congrArg some (by kernel_rfl))
  f283 := Tryz.func84.trans (congrArg some (by kernel_rfl))
  f284 := Tryz.func85.trans (congrArg some (by kernel_rfl))
  f285 := Tryz.func86.trans (congrArg some (by kernel_rfl))
  f286 := Tryz.func87.trans (congrArg some (by kernel_rfl))
  f317 := Tryz.func95.trans (congrArg some (by kernel_rfl))
  f318 := Tryz.func97.trans (congrArg some (by kernel_rfl))
  f319 := Tryz.func98.trans (congrArg some (by kernel_rfl))
  f320 := Tryz.func99.trans (congrArg some (by kernel_rfl))
  f337 := Tryz.func103.trans (congrArg some (by kernel_rfl))
  f338 := Tryz.func104.trans (congrArg some (by kernel_rfl))
  t0 := Tryz.underlying0
  a0 := Tryz.isAgg0
  z0 := Tryz.sizeOf0
  v0 := Tryz.zeroValue0
  t2 := Tryz.underlying2
  a2 := Tryz.isAgg2
  z2 := Tryz.sizeOf2
  v2 := Tryz.zeroValue2
  t3 := Tryz.underlying3
  a3 := Tryz.isAgg3
  z3 := Tryz.sizeOf3
  v3 := Tryz.zeroValue3
  t4 := Tryz.underlying4
  a4 := Tryz.isAgg4
  z4 := Tryz.sizeOf4
  v4 := Tryz.zeroValue4
  t5 := Tryz.underlying5
  a5 := Tryz.isAgg5
  z5 := Tryz.sizeOf5
  v5 := Tryz.zeroValue5
  t9 := Tryz.underlying9
  a9 := Tryz.isAgg9
  z9 := Tryz.sizeOf9
  v9 := Tryz.zeroValue9
  t20 := Tryz.underlying20
  a20 := Tryz.isAgg20
  z20 := Tryz.sizeOf20
  v20 := Tryz.zeroValue20
  t37 := Tryz.underlying59
  a37 := Tryz.isAgg59
  z37 := Tryz.sizeOf59
  v37 := Tryz.zeroValue59
  t46 := Tryz.underlying131
  a46 := Tryz.isAgg131
  z46 := Tryz.sizeOf131
  v46 := Tryz.zeroValue131
  t51 := Tryz.underlying144
  a51 := Tryz.isAgg144
  z51 := Tryz.sizeOf144
  v51 := Tryz.zeroValue144
  t53 := Tryz.underlying133
  a53 := Tryz.isAgg133
  z53 := Tryz.sizeOf133
  v53 := Tryz.zeroValue133
  t171 := Tryz.underlying132
  a171 := Tryz.isAgg132
  z171 := Tryz.sizeOf132
  v171 := Tryz.zeroValue132
  t173 := Tryz.underlying136
  a173 := Tryz.isAgg136
  z173 := Tryz.sizeOf136
  v173 := Tryz.zeroValue136
  t212 := Tryz.underlying148
  a212 := Tryz.isAgg148
  z212 := Tryz.sizeOf148
  v212 := Tryz.zeroValue148
  t213 := Tryz.underlying149
  a213 := Tryz.isAgg149
  z213 := Tryz.sizeOf149
  t232 := Tryz.underlying163
  a232 := Tryz.isAgg163
  z232 := Tryz.sizeOf163
  v232 := Tryz.zeroValue163
  t233 := Tryz.underlying164
  a233 := Tryz.isAgg164
  z233 := Tryz.sizeOf164
  v233 := Tryz.zeroValue164
  g17 := by kernel_rfl
  g18 := by kernel_rfl
  g19 := by kernel_rfl
  i0 := by kernel_rfl
  i2 := by kernel_rfl
  i3 := by kernel_rfl
  i4 := by kernel_rfl
  i5 := by kernel_rfl
  i9 := by kernel_rfl
  i20 := by kernel_rfl
  i37 := by kernel_rfl
  i46 := by kernel_rfl
  i51 := by kernel_rfl
  i53 := by kernel_rfl
  i171 := by kernel_rfl
  i173 := by kernel_rfl
  i212 := by kernel_rfl
  i232 := by kernel_rfl
  i233 := by kernel_rfl
  m17 := by kernel_rfl
  m18 := by kernel_rfl
  m19 := by kernel_rfl }
open Go.RowKit Go.Sort Go.Lib in
theorem Tryz.strconv_Itoa (n : Int) (h0 : -9223372036854775808 ≤ n) (h1 : n ≤ 9223372036854775807) (w : World) (htab : Lib.TabIs Tryz.prog w "internal/strconv.uint64pow10" .u64 Lib.pow10Tab) :
    Calls Tryz.prog 58 #[.int .i64 n] w fun e w' => e = .returned (.string ⟨(Lib.itoa n).toArray⟩) ∧ ∃ k os, w' = grow (w.drewN k) os := Any.strconv_Itoa Tryz.laysM171 n h0 h1 w htab
def Tryz.lays171_ren : Go.Shelf.Ren := ⟨fun | 171 => 58 | 243 => 70 | 246 => 76 | 283 => 84 | 284 => 85 | 285 => 86 | 286 => 87 | 129 => 96 | 317 => 95 | 318 => 97 | 319 => 98 | 320 => 99 | 337 => 103 | 338 => 104 | n => n, fun | 3 => 3 | 9 => 9 | 2 => 2 | 4 => 4 | 171 => 132 | 0 => 0 | 53 => 133 | 37 => 59 | 5 => 5 | 173 => 136 | 212 => 148 | 51 => 144 | 20 => 20 | 213 => 149 | 46 => 131 | 232 => 163 | 233 => 164 | n => n, fun | 17 => 4 | 18 => 7 | 19 => 8 | n => n⟩
theorem Tryz.lays171 : Go.Proofs.Lays.n171 Tryz.prog Tryz.lays171_ren := {
  mixed := by kernel_rfl
  f129 := Tryz.func96.trans (congrArg some (by kernel_rfl))
  f171 := Tryz.func58.trans (congrArg some (by kernel_rfl))
  f243 := Tryz.func70.trans (congrArg some (by kernel_rfl))
  f246 := Tryz.func76.trans (congrArg some (by kernel_rfl))
  f283 := Tryz.func84.trans (congrArg some (by kernel_rfl))
  f284 := Tryz.func85.trans (congrArg some (by kernel_rfl))
  f285 := Tryz.func86.trans (congrArg some (by kernel_rfl))
  f286 := Tryz.func87.trans (congrArg some (by kernel_rfl))
  f317 := Tryz.func95.trans (congrArg some (by kernel_rfl))
  f318 := Tryz.func97.trans (congrArg some (by kernel_rfl))
  f319 := Tryz.func98.trans (congrArg some (by kernel_rfl))
  f320 := Tryz.func99.trans (congrArg some (by kernel_rfl))
  f337 := Tryz.func103.trans (congrArg some (by kernel_rfl))
  f338 := Tryz.func104.trans (congrArg some (by kernel_rfl))
  t0 := Tryz.underlying0
  a0 := Tryz.isAgg0
  z0 := Tryz.sizeOf0
  v0 := Tryz.zeroValue0
  t2 := Tryz.underlying2
  a2 := Tryz.isAgg2
  z2 := Tryz.sizeOf2
  v2 := Tryz.zeroValue2
  t3 := Tryz.underlying3
  a3 := Tryz.isAgg3
  z3 := Tryz.sizeOf3
  v3 := Tryz.zeroValue3
  t4 := Tryz.underlying4
  a4 := Tryz.isAgg4
  z4 := Tryz.sizeOf4
  v4 := Tryz.zeroValue4
  t5 := Tryz.underlying5
  a5 := Tryz.isAgg5
  z5 := Tryz.sizeOf5
  v5 := Tryz.zeroValue5
  t9 := Tryz.underlying9
  a9 := Tryz.isAgg9
  z9 := Tryz.sizeOf9
  v9 := Tryz.zeroValue9
  t20 := Tryz.underlying20
  a20 := Tryz.isAgg20
  z20 := Tryz.sizeOf20
  v20 := Tryz.zeroValue20
  t37 := Tryz.underlying59
  a37 := Tryz.isAgg59
  z37 := Tryz.sizeOf59
  v37 := Tryz.zeroValue59
  t46 := Tryz.underlying131
  a46 := Tryz.isAgg131
  z46 := Tryz.sizeOf131
  v46 := Tryz.zeroValue131
  t51 := Tryz.underlying144
  a51 := Tryz.isAgg144
  z51 := Tryz.sizeOf144
  v51 := Tryz.zeroValue144
  t53 := Tryz.underlying133
  a53 := Tryz.isAgg133
  z53 := Tryz.sizeOf133
  v53 := Tryz.zeroValue133
  t171 := Tryz.underlying132
  a171 := Tryz.isAgg132
  z171 := Tryz.sizeOf132
  v171 := Tryz.zeroValue132
  t173 := Tryz.underlying136
  a173 := Tryz.isAgg136
  z173 := Tryz.sizeOf136
  v173 := Tryz.zeroValue136
  t212 := Tryz.underlying148
  a212 := Tryz.isAgg148
  z212 := Tryz.sizeOf148
  v212 := Tryz.zeroValue148
  t213 := Tryz.underlying149
  a213 := Tryz.isAgg149
  z213 := Tryz.sizeOf149
  t232 := Tryz.underlying163
  a232 := Tryz.isAgg163
  z232 := Tryz.sizeOf163
  v232 := Tryz.zeroValue163
  t233 := Tryz.underlying164
  a233 := Tryz.isAgg164
  z233 := Tryz.sizeOf164
  v233 := Tryz.zeroValue164
  g17 := by kernel_rfl
  g18 := by kernel_rfl
  g19 := by kernel_rfl }
open Go.RowKit Go.Sort Go.Lib in
theorem Tryz.strconv_Itoa_small (i : Nat) (hi : i < 100) (w : World) :
    Calls Tryz.prog 58 #[.int .i64 i] w fun e w' => e = .returned (.string ⟨(Lib.decDigits i).toArray⟩) ∧ w' = w := Any.strconv_Itoa_small Tryz.lays171 i hi w
open Go.RowKit in
theorem Tryz.internal_strconv_Atoi_err (s : ByteArray) (hl0 : 1 ≤ s.size) (hl : s.size ≤ 18) (h : Lib.atoi s.data.toList = none) (w : World) :
    Calls Tryz.prog 77 #[.string s] w fun e w' => e = .returned (.tuple #[.int .i64 0, (.iface 138 (.int .i64 2))]) ∧ (w' = w ∨ ∃ t, w' = Lib.bytesWorld w 5 t) := Any.internal_strconv_Atoi_err Tryz.lays244 s hl0 hl h w
def Tryz.lays247_ren : Go.Shelf.Ren := ⟨fun | 247 => 88 | 287 => 100 | 321 => 105 | 322 => 106 | n => n, fun | 9 => 9 | 3 => 3 | 2 => 2 | 75 => 51 | 4 => 4 | 167 => 138 | 5 => 5 | 53 => 133 | 175 => 152 | 46 => 131 | 37 => 59 | 0 => 0 | 21 => 21 | 80 => 165 | n => n, fun | n => n⟩
theorem Tryz.lays247 : Go.Proofs.Lays.n247 Tryz.prog Tryz.lays247_ren := {
  mixed := by kernel_rfl
  f247 := Tryz.func88.trans (congrArg some (by kernel_rfl))
  f287 := Tryz.func100.trans (congrArg some (by kernel_rfl))
  f321 := Tryz.func105.trans (congrArg some (by kernel_rfl))
  f322 := Tryz.func106.trans (congrArg some (by kernel_rfl))
  t0 := Tryz.underlying0
  a0 := Tryz.isAgg0
  z0 := Tryz.sizeOf0
  v0 := Tryz.zeroValue0
  t2 := Tryz.underlying2
  a2 := Tryz.isAgg2
  z2 := Tryz.sizeOf2
  v2 := Tryz.zeroValue2
  t3 := Tryz.underlying3
  a3 := Tryz.isAgg3
  z3 := Tryz.sizeOf3
  v3 := Tryz.zeroValue3
  t4 := Tryz.underlying4
  a4 := Tryz.isAgg4
  z4 := Tryz.sizeOf4
  v4 := Tryz.zeroValue4
  t5 := Tryz.underlying5
  a5 := Tryz.isAgg5
  z5 := Tryz.sizeOf5
  v5 := Tryz.zeroValue5
  t9 := Tryz.underlying9
  a9 := Tryz.isAgg9
  z9 := Tryz.sizeOf9
  v9 := Tryz.zeroValue9
  t21 := Tryz.underlying21
  a21 := Tryz.isAgg21
  z21 := Tryz.sizeOf21
  v21 := Tryz.zeroValue21
  t37 := Tryz.underlying59
  a37 := Tryz.isAgg59
  z37 := Tryz.sizeOf59
  v37 := Tryz.zeroValue59
  t46 := Tryz.underlying131
  a46 := Tryz.isAgg131
  z46 := Tryz.sizeOf131
  v46 := Tryz.zeroValue131
  t53 := Tryz.underlying133
  a53 := Tryz.isAgg133
  z53 := Tryz.sizeOf133
  v53 := Tryz.zeroValue133
  t75 := Tryz.underlying51
  a75 := Tryz.isAgg51
  z75 := Tryz.sizeOf51
  v75 := Tryz.zeroValue51
  t167 := Tryz.underlying138
  a167 := Tryz.isAgg138
  z167 := Tryz.sizeOf138
  v167 := Tryz.zeroValue138
  t175 := Tryz.underlying152
  a175 := Tryz.isAgg152
  z175 := Tryz.sizeOf152
  v175 := Tryz.zeroValue152 }
open Go.RowKit in
theorem Tryz.internal_strconv_ParseInt_empty (base bits : Int) (w : World) :
    Calls Tryz.prog 88 #[.string ⟨#[]⟩, .int .i64 base, .int .i64 bits] w fun e w' => e = .returned (.tuple #[.int .i64 0, (.iface 138 (.int .i64 2))]) ∧ w' = w := Any.internal_strconv_ParseInt_empty Tryz.lays247 base bits w
open Go.RowKit in
theorem Tryz.internal_strconv_Atoi_empty (w : World) :
    Calls Tryz.prog 77 #[.string ⟨#[]⟩] w fun e w' => e = .returned (.tuple #[.int .i64 0, (.iface 138 (.int .i64 2))]) ∧ w' = w := Any.internal_strconv_Atoi_empty Tryz.lays244 w
open Go.RowKit in
theorem Tryz.internal_strconv_Atoi_fail (s : ByteArray) (hl : s.size ≤ 18) (h : Lib.atoi s.data.toList = none) (w : World) :
    Calls Tryz.prog 77 #[.string s] w fun e w' => e = .returned (.tuple #[.int .i64 0, (.iface 138 (.int .i64 2))]) ∧ (w' = w ∨ ∃ t, w' = Lib.bytesWorld w 5 t) := Any.internal_strconv_Atoi_fail Tryz.lays244 s hl h w
def Tryz.laysM316_ren : Go.Shelf.Ren := ⟨fun | 316 => 101 | n => n, fun | 9 => 9 | 3 => 3 | 4 => 4 | 37 => 59 | 0 => 0 | 127 => 159 | 5 => 5 | n => n, fun | n => n⟩
theorem Tryz.laysM316 : Go.Proofs.LaysM.n316 Tryz.prog Tryz.laysM316_ren := {
  mixed := by kernel_rfl
  f316 := Tryz.func101.trans (congrArg some (by kernel_rfl))
  t0 := Tryz.underlying0
  a0 := Tryz.isAgg0
  z0 := Tryz.sizeOf0
  v0 := Tryz.zeroValue0
  t3 := Tryz.underlying3
  a3 := Tryz.isAgg3
  z3 := Tryz.sizeOf3
  v3 := Tryz.zeroValue3
  t4 := Tryz.underlying4
  a4 := Tryz.isAgg4
  z4 := Tryz.sizeOf4
  v4 := Tryz.zeroValue4
  t9 := Tryz.underlying9
  a9 := Tryz.isAgg9
  z9 := Tryz.sizeOf9
  v9 := Tryz.zeroValue9
  t37 := Tryz.underlying59
  a37 := Tryz.isAgg59
  z37 := Tryz.sizeOf59
  v37 := Tryz.zeroValue59
  t127 := Tryz.underlying159
  a127 := Tryz.isAgg159
  z127 := Tryz.sizeOf159
  v127 := Tryz.zeroValue159
  t5 := Tryz.underlying5
  a5 := Tryz.isAgg5
  z5 := Tryz.sizeOf5
  v5 := Tryz.zeroValue5
  i0 := by kernel_rfl
  i3 := by kernel_rfl
  i4 := by kernel_rfl
  i5 := by kernel_rfl
  i9 := by kernel_rfl
  i37 := by kernel_rfl
  i127 := by kernel_rfl }
open Go.RowKit in
theorem Tryz.stringslite_Clone (s : ByteArray) (w : World) (hlim : s.size ≤ 281474976710656) :
    Calls Tryz.prog 101 #[.string s] w fun e w' => e = .returned (.string s) ∧ Below w.heap.size w w' := Any.stringslite_Clone Tryz.laysM316 s w hlim
def Tryz.laysM279_ren : Go.Shelf.Ren := ⟨fun | 279 => 89 | 316 => 101 | n => n, fun | 9 => 9 | 168 => 141 | 75 => 51 | 210 => 155 | 3 => 3 | 4 => 4 | 37 => 59 | 0 => 0 | 127 => 159 | 80 => 165 | 5 => 5 | n => n, fun | 15 => 5 | n => n⟩
theorem Tryz.laysM279 : Go.Proofs.LaysM.n279 Tryz.prog Tryz.laysM279_ren := {
  mixed := by kernel_rfl
  f279 := Tryz.func89.trans (congrArg some (by kernel_rfl))
  f316 := Tryz.func101.trans (congrArg some (by kernel_rfl))
  t0 := Tryz.underlying0
  a0 := Tryz.isAgg0
  z0 := Tryz.sizeOf0
  v0 := Tryz.zeroValue0
  t3 := Tryz.underlying3
  a3 := Tryz.isAgg3
  z3 := Tryz.sizeOf3
  v3 := Tryz.zeroValue3
  t4 := Tryz.underlying4
  a4 := Tryz.isAgg4
  z4 := Tryz.sizeOf4
  v4 := Tryz.zeroValue4
  t9 := Tryz.underlying9
  a9 := Tryz.isAgg9
  z9 := Tryz.sizeOf9
  v9 := Tryz.zeroValue9
  t37 := Tryz.underlying59
  a37 := Tryz.isAgg59
  z37 := Tryz.sizeOf59
  v37 := Tryz.zeroValue59
  t75 := Tryz.underlying51
  a75 := Tryz.isAgg51
  z75 := Tryz.sizeOf51
  v75 := Tryz.zeroValue51
  t127 := Tryz.underlying159
  a127 := Tryz.isAgg159
  z127 := Tryz.sizeOf159
  v127 := Tryz.zeroValue159
  t168 := Tryz.underlying141
  a168 := Tryz.isAgg141
  z168 := Tryz.sizeOf141
  v168 := Tryz.zeroValue141
  t210 := Tryz.underlying155
  a210 := Tryz.isAgg155
  z210 := Tryz.sizeOf155
  v210 := Tryz.zeroValue155
  g15 := by kernel_rfl
  t5 := Tryz.underlying5
  a5 := Tryz.isAgg5
  z5 := Tryz.sizeOf5
  v5 := Tryz.zeroValue5
  t80 := Tryz.underlying165
  a80 := Tryz.isAgg165
  z80 := Tryz.sizeOf165
  v80 := Tryz.zeroValue165
  i0 := by kernel_rfl
  i3 := by kernel_rfl
  i4 := by kernel_rfl
  i5 := by kernel_rfl
  i9 := by kernel_rfl
  i37 := by kernel_rfl
  i75 := by kernel_rfl
  i80 := by kernel_rfl
  i127 := by kernel_rfl
  i168 := by kernel_rfl
  i210 := by kernel_rfl
  m15 := by kernel_rfl }
open Go.RowKit in
theorem Tryz.strconv_syntaxError (fn s : ByteArray) (ev : Value) (w : World) (hlim : s.size ≤ 281474976710656) (hv : w.cell? ⟨5, 0, none⟩ = some ev) (hev : ev = .nilIface ∨ ∃ te pe, ev = .iface te pe) :
    Calls Tryz.prog 89 #[.string fn, .string s] w fun e w' => ∃ N, e = .returned (.pointer (some ⟨N, 0, none⟩)) ∧ w.heap.size ≤ N ∧ w'.heap[N]? = some (.cells #[.string fn, .string s, ev] 155 (0, 0)) ∧ Below w.heap.size w w' := Any.strconv_syntaxError Tryz.laysM279 fn s ev w hlim hv hev
def Tryz.laysC245_ren : Go.Shelf.Ren := ⟨fun | 245 => 78 | 279 => 89 | 280 => 90 | 281 => 91 | 282 => 92 | 316 => 101 | 171 => 58 | 205 => 102 | 243 => 70 | 246 => 76 | 283 => 84 | 284 => 85 | 285 => 86 | 286 => 87 | 129 => 96 | 317 => 95 | 318 => 97 | 319 => 98 | 320 => 99 | 337 => 103 | 338 => 104 | n => n, fun | 9 => 9 | 3 => 3 | 75 => 51 | 167 => 138 | 4 => 4 | 168 => 141 | 210 => 155 | 37 => 59 | 0 => 0 | 127 => 159 | 145 => 162 | 143 => 160 | 2 => 2 | 171 => 132 | 53 => 133 | 5 => 5 | 173 => 136 | 212 => 148 | 51 => 144 | 20 => 20 | 213 => 149 | 46 => 131 | 232 => 163 | 233 => 164 | 80 => 165 | n => n, fun | 15 => 5 | 16 => 6 | 17 => 4 | 18 => 7 | 19 => 8 | n => n⟩
theorem Tryz.laysC245 : Go.Proofs.LaysC.n245 Tryz.prog Tryz.laysC245_ren := {
  mixed := by kernel_rfl
  f129 := Tryz.func96.trans (congrArg some (by kernel_rfl))
  f171 := Tryz.func58.trans (congrArg some (by kernel_rfl))
  f205 := Tryz.func102.trans (congrArg some (by kernel_rfl))
  f243 := Tryz.func70.trans (congrArg some (by kernel_rfl))
  f245 := Tryz.func78.trans (congrArg some (by kernel_rfl))
  f246 := Tryz.func76.trans (congrArg some (by kernel_rfl))
  f279 := Tryz.func89.trans (congrArg some (by kernel_rfl))
  f280 := Tryz.func90.trans (congrArg some (by kernel_rfl))
  f281 := Tryz.func91.trans (congrArg some (by kernel_rfl))
  f282 := Tryz.func92.trans (congrArg some (by kernel_rfl))
  f283 := Tryz.func84.trans (congrArg some (by kernel_rfl))
  f284 := Tryz.func85.trans (congrArg some (by kernel_rfl))
  f285 := Tryz.func86.trans (congrArg some (by kernel_rfl))
  f286 := Tryz.func87.trans (congrArg some (by kernel_rfl))
  f316 := Tryz.func101.trans (congrArg some (by kernel_rfl))
  f317 := Tryz.func95.trans (congrArg some (by kernel_rfl))
  f318 := Tryz.func97.trans (congrArg some (by kernel_rfl))
  f319 := Tryz.func98.trans (congrArg some (by kernel_rfl))
  f320 := Tryz.func99.trans (congrArg some (by kernel_rfl))
  f337 := Tryz.func103.trans (congrArg some (by kernel_rfl))
  f338 := Tryz.func104.trans (congrArg some (by kernel_rfl))
  t0 := Tryz.underlying0
  a0 := Tryz.isAgg0
  z0 := Tryz.sizeOf0
  v0 := Tryz.zeroValue0
  t2 := Tryz.underlying2
  a2 := Tryz.isAgg2
  z2 := Tryz.sizeOf2
  v2 := Tryz.zeroValue2
  t3 := Tryz.underlying3
  a3 := Tryz.isAgg3
  z3 := Tryz.sizeOf3
  v3 := Tryz.zeroValue3
  t4 := Tryz.underlying4
  a4 := Tryz.isAgg4
  z4 := Tryz.sizeOf4
  v4 := Tryz.zeroValue4
  t5 := Tryz.underlying5
  a5 := Tryz.isAgg5
  z5 := Tryz.sizeOf5
  v5 := Tryz.zeroValue5
  t9 := Tryz.underlying9
  a9 := Tryz.isAgg9
  z9 := Tryz.sizeOf9
  v9 := Tryz.zeroValue9
  t20 := Tryz.underlying20
  a20 := Tryz.isAgg20
  z20 := Tryz.sizeOf20
  v20 := Tryz.zeroValue20
  t37 := Tryz.underlying59
  a37 := Tryz.isAgg59
  z37 := Tryz.sizeOf59
  v37 := Tryz.zeroValue59
  t46 := Tryz.underlying131
  a46 := Tryz.isAgg131
  z46 := Tryz.sizeOf131
  v46 := Tryz.zeroValue131
  t51 := Tryz.underlying144
  a51 := Tryz.isAgg144
  z51 := Tryz.sizeOf144
  v51 := Tryz.zeroValue144
  t53 := Tryz.underlying133
  a53 := Tryz.isAgg133
  z53 := Tryz.sizeOf133
  v53 := Tryz.zeroValue133
  t75 := Tryz.underlying51
  a75 := Tryz.isAgg51
  z75 := Tryz.sizeOf51
  v75 := Tryz.zeroValue51
  t127 := Tryz.underlying159
  a127 := Tryz.isAgg159
  z127 := Tryz.sizeOf159
  v127 := Tryz.zeroValue159
  t143 := Tryz.underlying160
  a143 := Tryz.isAgg160
  z143 := Tryz.sizeOf160
  v143 := Tryz.zeroValue160
  t145 := Tryz.underlying162
  a145 := Tryz.isAgg162
  z145 := Tryz.sizeOf162
  v145 := Tryz.zeroValue162
  t167 := Tryz.underlying138
  a167 := Tryz.isAgg138
  z167 := Tryz.sizeOf138
  v167 := Tryz.zeroValue138
  t168 := Tryz.underlying141
  a168 := Tryz.isAgg141
  z168 := Tryz.sizeOf141
  v168 := Tryz.zeroValue141
  t171 := Tryz.underlying132
  a171 := Tryz.isAgg132
  z171 := Tryz.sizeOf132
  v171 := Tryz.zeroValue132
  t173 := Tryz.underlying136
  a173 := Tryz.isAgg136
  z173 := Tryz.sizeOf136
  v173 := Tryz.zeroValue136
  t210 := Tryz.underlying155
  a210 := Tryz.isAgg155
  z210 := Tryz.sizeOf155
  v210 := Tryz.zeroValue155
  t212 := Tryz.underlying148
  a212 := Tryz.isAgg148
  z212 := Tryz.sizeOf148
  v212 := Tryz.zeroValue148
  t213 := Tryz.underlying149
  a213 := Tryz.isAgg149
  z213 := Tryz.sizeOf149
  t232 := Tryz.underlying163
  a232 := Tryz.isAgg163
  z232 := Tryz.sizeOf163
  v232 := Tryz.zeroValue163
  t233 := Tryz.underlying164
  a233 := Tryz.isAgg164
  z233 := Tryz.sizeOf164
  v233 := Tryz.zeroValue164
  g15 := by kernel_rfl
  g16 := by kernel_rfl
  g17 := by kernel_rfl
  g18 := by kernel_rfl
  g19 := by kernel_rfl
  t80 := Tryz.underlying165
  a80 := Tryz.isAgg165
  z80 := Tryz.sizeOf165
  v80 := Tryz.zeroValue165
  i0 := by kernel_rfl
  i2 := by kernel_rfl
  i3 := by kernel_rfl
  i4 := by kernel_rfl
  i5 := by kernel_rfl
  i9 := by kernel_rfl
  i20 := by kernel_rfl
  i37 := by kernel_rfl
  i46 := by kernel_rfl
  i51 := by kernel_rfl
  i53 := by kernel_rfl
  i75 := by kernel_rfl
  i80 := by kernel_rfl
  i127 := by kernel_rfl
  i143 := by kernel_rfl
  i145 := by kernel_rfl
  i167 := by kernel_rfl
  i168 := by kernel_rfl
  i171 := by kernel_rfl
  i173 := by kernel_rfl
  i210 := by kernel_rfl
  i212 := by kernel_rfl
  i232 := by kernel_rfl
  i233 := by kernel_rfl
  m15 := by kernel_rfl
  m16 := by kernel_rfl
  m17 := by kernel_rfl
  m18 := by kernel_rfl
  m19 := by kernel_rfl
  c0 := by kernel_rfl
  c2 := by kernel_rfl
  c3 := by kernel_rfl
  c4 := by kernel_rfl
  c5 := by kernel_rfl
  c9 := by kernel_rfl
  c20 := by kernel_rfl
  c37 := by kernel_rfl
  c46 := by kernel_rfl
  c51 := by kernel_rfl
  c53 := by kernel_rfl
  c75 := by kernel_rfl
  c80 := by kernel_rfl
  c127 := by kernel_rfl
  c143 := by kernel_rfl
  c145 := by kernel_rfl
  c167 := by kernel_rfl
  c168 := by kernel_rfl
  c171 := by kernel_rfl
  c173 := by kernel_rfl
  c210 := by kernel_rfl
  c212 := by kernel_rfl
  c213 := by kernel_rfl
  c232 := by kernel_rfl
  c233 := by kernel_rfl }
open Go.RowKit in
theorem Tryz.strconv_toError_syntax (fn s : ByteArray) (base bits : Int) (ev : Value) (w : World) (hlim : s.size ≤ 281474976710656) (hv : w.cell? ⟨5, 0, none⟩ = some ev) (hev : ev = .nilIface ∨ ∃ te pe, ev = .iface te pe) :
    Calls Tryz.prog 78 #[.string fn, .string s, .int .i64 base, .int .i64 bits, .iface 138 (.int .i64 2)] w fun e w' => ∃ N, e = .returned (.iface 141 (.pointer (some ⟨N, 0, none⟩))) ∧ w.heap.size ≤ N ∧ w'.heap[N]? = some (.cells #[.string fn, .string s, ev] 155 (0, 0)) ∧ Below w.heap.size w w' := Any.strconv_toError_syntax Tryz.laysC245 fn s base bits ev w hlim hv hev
def Tryz.lays321_ren : Go.Shelf.Ren := ⟨fun | 321 => 105 | n => n, fun | 5 => 5 | n => n, fun | n => n⟩
theorem Tryz.lays321 : Go.Proofs.Lays.n321 Tryz.prog Tryz.lays321_ren := {
  mixed := by kernel_rfl
  f321 := Tryz.func105.trans (congrArg some (by kernel_rfl))
  t5 := Tryz.underlying5
  a5 := Tryz.isAgg5
  z5 := Tryz.sizeOf5
  v5 := Tryz.zeroValue5 }
open Go.RowKit in
theorem Tryz.internal_strconv_lower (c : Int) (w : World) :
    Calls Tryz.prog 105 #[.int .u8 c] w fun e w' => e = .returned (.int .u8 (bits .or .u8 c 32)) ∧ w' = w := Any.internal_strconv_lower Tryz.lays321 c w
def Tryz.lays287_ren : Go.Shelf.Ren := ⟨fun | 287 => 100 | 321 => 105 | 322 => 106 | n => n, fun | 9 => 9 | 3 => 3 | 53 => 133 | 75 => 51 | 4 => 4 | 167 => 138 | 5 => 5 | 46 => 131 | 37 => 59 | 0 => 0 | 21 => 21 | 80 => 165 | n => n, fun | n => n⟩
theorem Tryz.lays287 : Go.Proofs.Lays.n287 Tryz.prog Tryz.lays287_ren := {
  mixed := by kernel_rfl
  f287 := Tryz.func100.trans (congrArg some (by kernel_rfl))
  f321 := Tryz.func105.trans (congrArg some (by kernel_rfl))
  f322 := Tryz.func106.trans (congrArg some (by kernel_rfl))
  t0 := Tryz.underlying0
  a0 := Tryz.isAgg0
  z0 := Tryz.sizeOf0
  v0 := Tryz.zeroValue0
  t3 := Tryz.underlying3
  a3 := Tryz.isAgg3
  z3 := Tryz.sizeOf3
  v3 := Tryz.zeroValue3
  t4 := Tryz.underlying4
  a4 := Tryz.isAgg4
  z4 := Tryz.sizeOf4
  v4 := Tryz.zeroValue4
  t5 := Tryz.underlying5
  a5 := Tryz.isAgg5
  z5 := Tryz.sizeOf5
  v5 := Tryz.zeroValue5
  t9 := Tryz.underlying9
  a9 := Tryz.isAgg9
  z9 := Tryz.sizeOf9
  v9 := Tryz.zeroValue9
  t21 := Tryz.underlying21
  a21 := Tryz.isAgg21
  z21 := Tryz.sizeOf21
  v21 := Tryz.zeroValue21
  t37 := Tryz.underlying59
  a37 := Tryz.isAgg59
  z37 := Tryz.sizeOf59
  v37 := Tryz.zeroValue59
  t46 := Tryz.underlying131
  a46 := Tryz.isAgg131
  z46 := Tryz.sizeOf131
  v46 := Tryz.zeroValue131
  t53 := Tryz.underlying133
  a53 := Tryz.isAgg133
  z53 := Tryz.sizeOf133
  v53 := Tryz.zeroValue133
  t75 := Tryz.underlying51
  a75 := Tryz.isAgg51
  z75 := Tryz.sizeOf51
  v75 := Tryz.zeroValue51
  t167 := Tryz.underlying138
  a167 := Tryz.isAgg138
  z167 := Tryz.sizeOf138
  v167 := Tryz.zeroValue138 }
open Go.RowKit in
theorem Tryz.internal_strconv_ParseUint_10 (t : ByteArray) (hne : t.size ≠ 0) (hmax : t.size ≤ 9223372036854775806) (w : World) :
    Calls Tryz.prog 100 #[.string t, .int .i64 10, .int .i64 0] w fun e w' => e = .returned (Lib.uintTuple 138 (Lib.parseUint10 0 t.data.toList)) ∧ w' = Lib.bytesWorld w 5 t := Any.internal_strconv_ParseUint_10 Tryz.lays287 t hne hmax w
open Go.RowKit in
theorem Tryz.internal_strconv_ParseUint_10_empty (w : World) :
    Calls Tryz.prog 100 #[.string ⟨#[]⟩, .int .i64 10, .int .i64 0] w fun e w' => e = .returned (Lib.uintTuple 138 .syntax) ∧ w' = w := Any.internal_strconv_ParseUint_10_empty Tryz.lays287 w
open Go.RowKit in
theorem Tryz.internal_strconv_ParseUint_10_any (t : ByteArray) (hmax : t.size ≤ 9223372036854775806) (w : World) :
    Calls Tryz.prog 100 #[.string t, .int .i64 10, .int .i64 0] w fun e w' => e = .returned (Lib.uintTuple 138 (Lib.parseMag t.data.toList)) ∧ (w' = w ∨ w' = Lib.bytesWorld w 5 t) := Any.internal_strconv_ParseUint_10_any Tryz.lays287 t hmax w
def Tryz.laysC247_ren : Go.Shelf.Ren := ⟨fun | 247 => 88 | 287 => 100 | 321 => 105 | 322 => 106 | n => n, fun | 9 => 9 | 3 => 3 | 2 => 2 | 75 => 51 | 4 => 4 | 167 => 138 | 5 => 5 | 53 => 133 | 175 => 152 | 46 => 131 | 37 => 59 | 0 => 0 | 21 => 21 | 80 => 165 | n => n, fun | n => n⟩
theorem Tryz.laysC247 : Go.Proofs.LaysC.n247 Tryz.prog Tryz.laysC247_ren := {
  mixed := by kernel_rfl
  f247 := Tryz.func88.trans (congrArg some (by kernel_rfl))
  f287 := Tryz.func100.trans (congrArg some (by kernel_rfl))
  f321 := Tryz.func105.trans (congrArg some (by kernel_rfl))
  f322 := Tryz.func106.trans (congrArg some (by kernel_rfl))
  t0 := Tryz.underlying0
  a0 := Tryz.isAgg0
  z0 := Tryz.sizeOf0
  v0 := Tryz.zeroValue0
  t2 := Tryz.underlying2
  a2 := Tryz.isAgg2
  z2 := Tryz.sizeOf2
  v2 := Tryz.zeroValue2
  t3 := Tryz.underlying3
  a3 := Tryz.isAgg3
  z3 := Tryz.sizeOf3
  v3 := Tryz.zeroValue3
  t4 := Tryz.underlying4
  a4 := Tryz.isAgg4
  z4 := Tryz.sizeOf4
  v4 := Tryz.zeroValue4
  t5 := Tryz.underlying5
  a5 := Tryz.isAgg5
  z5 := Tryz.sizeOf5
  v5 := Tryz.zeroValue5
  t9 := Tryz.underlying9
  a9 := Tryz.isAgg9
  z9 := Tryz.sizeOf9
  v9 := Tryz.zeroValue9
  t21 := Tryz.underlying21
  a21 := Tryz.isAgg21
  z21 := Tryz.sizeOf21
  v21 := Tryz.zeroValue21
  t37 := Tryz.underlying59
  a37 := Tryz.isAgg59
  z37 := Tryz.sizeOf59
  v37 := Tryz.zeroValue59
  t46 := Tryz.underlying131
  a46 := Tryz.isAgg131
  z46 := Tryz.sizeOf131
  v46 := Tryz.zeroValue131
  t53 := Tryz.underlying133
  a53 := Tryz.isAgg133
  z53 := Tryz.sizeOf133
  v53 := Tryz.zeroValue133
  t75 := Tryz.underlying51
  a75 := Tryz.isAgg51
  z75 := Tryz.sizeOf51
  v75 := Tryz.zeroValue51
  t167 := Tryz.underlying138
  a167 := Tryz.isAgg138
  z167 := Tryz.sizeOf138
  v167 := Tryz.zeroValue138
  t175 := Tryz.underlying152
  a175 := Tryz.isAgg152
  z175 := Tryz.sizeOf152
  v175 := Tryz.zeroValue152
  t80 := Tryz.underlying165
  a80 := Tryz.isAgg165
  z80 := Tryz.sizeOf165
  v80 := Tryz.zeroValue165
  i0 := by kernel_rfl
  i2 := by kernel_rfl
  i3 := by kernel_rfl
  i4 := by kernel_rfl
  i5 := by kernel_rfl
  i9 := by kernel_rfl
  i21 := by kernel_rfl
  i37 := by kernel_rfl
  i46 := by kernel_rfl
  i53 := by kernel_rfl
  i75 := by kernel_rfl
  i80 := by kernel_rfl
  i167 := by kernel_rfl
  i175 := by kernel_rfl
  c0 := by kernel_rfl
  c2 := by kernel_rfl
  c3 := by kernel_rfl
  c4 := by kernel_rfl
  c5 := by kernel_rfl
  c9 := by kernel_rfl
  c21 := by kernel_rfl
  c37 := by kernel_rfl
  c46 := by kernel_rfl
  c53 := by kernel_rfl
  c75 := by kernel_rfl
  c80 := by kernel_rfl
  c167 := by kernel_rfl
  c175 := by kernel_rfl }
open Go.RowKit in
theorem Tryz.internal_strconv_ParseInt_10 (s : ByteArray) (hne : s.size ≠ 0) (hmax : s.size ≤ 9223372036854775806) (w : World) :
    Calls Tryz.prog 88 #[.string s, .int .i64 10, .int .i64 0] w fun e w' => e = .returned (Lib.intTuple 138 (Lib.atoiSat s.data.toList) (Lib.atoiAll s.data.toList)) ∧ (w' = w ∨ ∃ t, w' = Lib.bytesWorld w 5 t) := Any.internal_strconv_ParseInt_10 Tryz.laysC247 s hne hmax w
def Tryz.laysC244_ren : Go.Shelf.Ren := ⟨fun | 244 => 77 | 247 => 88 | 287 => 100 | 321 => 105 | 322 => 106 | n => n, fun | 9 => 9 | 3 => 3 | 75 => 51 | 4 => 4 | 5 => 5 | 167 => 138 | 37 => 59 | 0 => 0 | 85 => 139 | 2 => 2 | 53 => 133 | 175 => 152 | 46 => 131 | 21 => 21 | 80 => 165 | n => n, fun | n => n⟩
theorem Tryz.laysC244 : Go.Proofs.LaysC.n244 Tryz.prog Tryz.laysC244_ren := {
  mixed := by kernel_rfl
  f244 := Tryz.func77.trans (congrArg some (by kernel_rfl))
  f247 := Tryz.func88.trans (congrArg some (by kernel_rfl))
  f287 := Tryz.func100.trans (congrArg some (by kernel_rfl))
  f321 := Tryz.func105.trans (congrArg some (by kernel_rfl))
  f322 := Tryz.func106.trans (congrArg some (by kernel_rfl))
  t0 := Tryz.underlying0
  a0 := Tryz.isAgg0
  z0 := Tryz.sizeOf0
  v0 := Tryz.zeroValue0
  t2 := Tryz.underlying2
  a2 := Tryz.isAgg2
  z2 := Tryz.sizeOf2
  v2 := Tryz.zeroValue2
  t3 := Tryz.underlying3
  a3 := Tryz.isAgg3
  z3 := Tryz.sizeOf3
  v3 := Tryz.zeroValue3
  t4 := Tryz.underlying4
  a4 := Tryz.isAgg4
  z4 := Tryz.sizeOf4
  v4 := Tryz.zeroValue4
  t5 := Tryz.underlying5
  a5 := Tryz.isAgg5
  z5 := Tryz.sizeOf5
  v5 := Tryz.zeroValue5
  t9 := Tryz.underlying9
  a9 := Tryz.isAgg9
  z9 := Tryz.sizeOf9
  v9 := Tryz.zeroValue9
  t21 := Tryz.underlying21
  a21 := Tryz.isAgg21
  z21 := Tryz.sizeOf21
  v21 := Tryz.zeroValue21
  t37 := Tryz.underlying59
  a37 := Tryz.isAgg59
  z37 := Tryz.sizeOf59
  v37 := Tryz.zeroValue59
  t46 := Tryz.underlying131
  a46 := Tryz.isAgg131
  z46 := Tryz.sizeOf131
  v46 := Tryz.zeroValue131
  t53 := Tryz.underlying133
  a53 := Tryz.isAgg133
  z53 := Tryz.sizeOf133
  v53 := Tryz.zeroValue133
  t75 := Tryz.underlying51
  a75 := Tryz.isAgg51
  z75 := Tryz.sizeOf51
  v75 := Tryz.zeroValue51
  t85 := Tryz.underlying139
  a85 := Tryz.isAgg139
  z85 := Tryz.sizeOf139
  v85 := Tryz.zeroValue139
  t167 := Tryz.underlying138
  a167 := Tryz.isAgg138
  z167 := Tryz.sizeOf138
  v167 := Tryz.zeroValue138
  t175 := Tryz.underlying152
  a175 := Tryz.isAgg152
  z175 := Tryz.sizeOf152
  v175 := Tryz.zeroValue152
  t80 := Tryz.underlying165
  a80 := Tryz.isAgg165
  z80 := Tryz.sizeOf165
  v80 := Tryz.zeroValue165
  i0 := by kernel_rfl
  i2 := by kernel_rfl
  i3 := by kernel_rfl
  i4 := by kernel_rfl
  i5 := by kernel_rfl
  i9 := by kernel_rfl
  i21 := by kernel_rfl
  i37 := by kernel_rfl
  i46 := by kernel_rfl
  i53 := by kernel_rfl
  i75 := by kernel_rfl
  i80 := by kernel_rfl
  i85 := by kernel_rfl
  i167 := by kernel_rfl
  i175 := by kernel_rfl
  c0 := by kernel_rfl
  c2 := by kernel_rfl
  c3 := by kernel_rfl
  c4 := by kernel_rfl
  c5 := by kernel_rfl
  c9 := by kernel_rfl
  c21 := by kernel_rfl
  c37 := by kernel_rfl
  c46 := by kernel_rfl
  c53 := by kernel_rfl
  c75 := by kernel_rfl
  c80 := by kernel_rfl
  c85 := by kernel_rfl
  c167 := by kernel_rfl
  c175 := by kernel_rfl }
open Go.RowKit in
theorem Tryz.internal_strconv_Atoi_long (s : ByteArray) (h19 : 19 ≤ s.size) (hmax : s.size ≤ 9223372036854775806) (w : World) :
    Calls Tryz.prog 77 #[.string s] w fun e w' => e = .returned (Lib.intTuple 138 (Lib.atoiSat s.data.toList) (Lib.atoiAll s.data.toList)) ∧ (w' = w ∨ ∃ t, w' = Lib.bytesWorld w 5 t) := Any.internal_strconv_Atoi_long Tryz.laysC244 s h19 hmax w
open Go.RowKit in
theorem Tryz.internal_strconv_Atoi_all (s : ByteArray) (hmax : s.size ≤ 9223372036854775806) (w : World) :
    Calls Tryz.prog 77 #[.string s] w fun e w' => e = .returned (Lib.intTuple 138 (Lib.atoiSat s.data.toList) (Lib.atoiAll s.data.toList)) ∧ (w' = w ∨ ∃ t, w' = Lib.bytesWorld w 5 t) := Any.internal_strconv_Atoi_all Tryz.laysC244 s hmax w
def Tryz.laysM280_ren : Go.Shelf.Ren := ⟨fun | 280 => 90 | 316 => 101 | n => n, fun | 9 => 9 | 168 => 141 | 75 => 51 | 210 => 155 | 3 => 3 | 4 => 4 | 37 => 59 | 0 => 0 | 127 => 159 | 80 => 165 | 5 => 5 | n => n, fun | 16 => 6 | n => n⟩
theorem Tryz.laysM280 : Go.Proofs.LaysM.n280 Tryz.prog Tryz.laysM280_ren := {
  mixed := by kernel_rfl
  f280 := Tryz.func90.trans (congrArg some (by kernel_rfl))
  f316 := Tryz.func101.trans (congrArg some (by kernel_rfl))
  t0 := Tryz.underlying0
  a0 := Tryz.isAgg0
  z0 := Tryz.sizeOf0
  v0 := Tryz.zeroValue0
  t3 := Tryz.underlying3
  a3 := Tryz.isAgg3
  z3 := Tryz.sizeOf3
  v3 := Tryz.zeroValue3
  t4 := Tryz.underlying4
  a4 := Tryz.isAgg4
  z4 := Tryz.sizeOf4
  v4 := Tryz.zeroValue4
  t9 := Tryz.underlying9
  a9 := Tryz.isAgg9
  z9 := Tryz.sizeOf9
  v9 := Tryz.zeroValue9
  t37 := Tryz.underlying59
  a37 := Tryz.isAgg59
  z37 := Tryz.sizeOf59
  v37 := Tryz.zeroValue59
  t75 := Tryz.underlying51
  a75 := Tryz.isAgg51
  z75 := Tryz.sizeOf51
  v75 := Tryz.zeroValue51
  t127 := Tryz.underlying159
  a127 := Tryz.isAgg159
  z127 := Tryz.sizeOf159
  v127 := Tryz.zeroValue159
  t168 := Tryz.underlying141
  a168 := Tryz.isAgg141
  z168 := Tryz.sizeOf141
  v168 := Tryz.zeroValue141
  t210 := Tryz.underlying155
  a210 := Tryz.isAgg155
  z210 := Tryz.sizeOf155
  v210 := Tryz.zeroValue155
  g16 := by kernel_rfl
  t5 := Tryz.underlying5
  a5 := Tryz.isAgg5
  z5 := Tryz.sizeOf5
  v5 := Tryz.zeroValue5
  t80 := Tryz.underlying165
  a80 := Tryz.isAgg165
  z80 := Tryz.sizeOf165
  v80 := Tryz.zeroValue165
  i0 := by kernel_rfl
  i3 := by kernel_rfl
  i4 := by kernel_rfl
  i5 := by kernel_rfl
  i9 := by kernel_rfl
  i37 := by kernel_rfl
  i75 := by kernel_rfl
  i80 := by kernel_rfl
  i127 := by kernel_rfl
  i168 := by kernel_rfl
  i210 := by kernel_rfl
  m16 := by kernel_rfl }
open Go.RowKit in
theorem Tryz.strconv_rangeError (fn s : ByteArray) (ev : Value) (w : World) (hlim : s.size ≤ 281474976710656) (hv : w.cell? ⟨6, 0, none⟩ = some ev) (hev : ev = .nilIface ∨ ∃ te pe, ev = .iface te pe) :
    Calls Tryz.prog 90 #[.string fn, .string s] w fun e w' => ∃ N, e = .returned (.pointer (some ⟨N, 0, none⟩)) ∧ w.heap.size ≤ N ∧ w'.heap[N]? = some (.cells #[.string fn, .string s, ev] 155 (0, 0)) ∧ Below w.heap.size w w' := Any.strconv_rangeError Tryz.laysM280 fn s ev w hlim hv hev
open Go.RowKit in
theorem Tryz.strconv_toError_range (fn s : ByteArray) (base bits : Int) (ev : Value) (w : World) (hlim : s.size ≤ 281474976710656) (hv : w.cell? ⟨6, 0, none⟩ = some ev) (hev : ev = .nilIface ∨ ∃ te pe, ev = .iface te pe) :
    Calls Tryz.prog 78 #[.string fn, .string s, .int .i64 base, .int .i64 bits, .iface 138 (.int .i64 1)] w fun e w' => ∃ N, e = .returned (.iface 141 (.pointer (some ⟨N, 0, none⟩))) ∧ w.heap.size ≤ N ∧ w'.heap[N]? = some (.cells #[.string fn, .string s, ev] 155 (0, 0)) ∧ Below w.heap.size w w' := Any.strconv_toError_range Tryz.laysC245 fn s base bits ev w hlim hv hev
def Tryz.laysC172_ren : Go.Shelf.Ren := ⟨fun | 172 => 71 | 244 => 77 | 245 => 78 | 247 => 88 | 279 => 89 | 280 => 90 | 281 => 91 | 282 => 92 | 287 => 100 | 316 => 101 | 171 => 58 | 205 => 102 | 321 => 105 | 322 => 106 | 243 => 70 | 246 => 76 | 283 => 84 | 284 => 85 | 285 => 86 | 286 => 87 | 129 => 96 | 317 => 95 | 318 => 97 | 319 => 98 | 320 => 99 | 337 => 103 | 338 => 104 | n => n, fun | 9 => 9 | 3 => 3 | 75 => 51 | 76 => 111 | 4 => 4 | 5 => 5 | 167 => 138 | 37 => 59 | 0 => 0 | 85 => 139 | 2 => 2 | 168 => 141 | 53 => 133 | 175 => 152 | 46 => 131 | 210 => 155 | 127 => 159 | 145 => 162 | 143 => 160 | 21 => 21 | 171 => 132 | 173 => 136 | 212 => 148 | 51 => 144 | 20 => 20 | 213 => 149 | 232 => 163 | 233 => 164 | 80 => 165 | n => n, fun | 15 => 5 | 16 => 6 | 17 => 4 | 18 => 7 | 19 => 8 | n => n⟩
theorem Tryz.laysC172 : Go.Proofs.LaysC.n172 Tryz.prog Tryz.laysC172_ren := {
  mixed := by kernel_rfl
  f129 := Tryz.func96.trans (congrArg some (by kernel_rfl))
  f171 := Tryz.func58.trans (congrArg some (by kernel_rfl))
  f172 := Tryz.func71.trans (congrArg some (by kernel_rfl))
  f205 := Tryz.func102.trans (congrArg some (by kernel_rfl))
  f243 := Tryz.func70.trans (congrArg some (by kernel_rfl))
  f244 := Tryz.func77.trans (congrArg some (by kernel_rfl))
  f245 := Tryz.func78.trans (congrArg some (by kernel_rfl))
  f246 := Tryz.func76.trans (congrArg some (by kernel_rfl))
  f247 := Tryz.func88.trans (congrArg some (by kernel_rfl))
  f279 := Tryz.func89.trans (congrArg some (by kernel_rfl))
  f280 := Tryz.func90.trans (congrArg some (by kernel_rfl))
  f281 := Tryz.func91.trans (congrArg some (by kernel_rfl))
  f282 := Tryz.func92.trans (congrArg some (by kernel_rfl))
  f283 := Tryz.func84.trans (congrArg some (by kernel_rfl))
  f284 := Tryz.func85.trans (congrArg some (by kernel_rfl))
  f285 := Tryz.func86.trans (congrArg some (by kernel_rfl))
  f286 := Tryz.func87.trans (congrArg some (by kernel_rfl))
  f287 := Tryz.func100.trans (congrArg some (by kernel_rfl))
  f316 := Tryz.func101.trans (congrArg some (by kernel_rfl))
  f317 := Tryz.func95.trans (congrArg some (by kernel_rfl))
  f318 := Tryz.func97.trans (congrArg some (by kernel_rfl))
  f319 := Tryz.func98.trans (congrArg some (by kernel_rfl))
  f320 := Tryz.func99.trans (congrArg some (by kernel_rfl))
  f321 := Tryz.func105.trans (congrArg some (by kernel_rfl))
  f322 := Tryz.func106.trans (congrArg some (by kernel_rfl))
  f337 := Tryz.func103.trans (congrArg some (by kernel_rfl))
  f338 := Tryz.func104.trans (congrArg some (by kernel_rfl))
  t0 := Tryz.underlying0
  a0 := Tryz.isAgg0
  z0 := Tryz.sizeOf0
  v0 := Tryz.zeroValue0
  t2 := Tryz.underlying2
  a2 := Tryz.isAgg2
  z2 := Tryz.sizeOf2
  v2 := Tryz.zeroValue2
  t3 := Tryz.underlying3
  a3 := Tryz.isAgg3
  z3 := Tryz.sizeOf3
  v3 := Tryz.zeroValue3
  t4 := Tryz.underlying4
  a4 := Tryz.isAgg4
  z4 := Tryz.sizeOf4
  v4 := Tryz.zeroValue4
  t5 := Tryz.underlying5
  a5 := Tryz.isAgg5
  z5 := Tryz.sizeOf5
  v5 := Tryz.zeroValue5
  t9 := Tryz.underlying9
  a9 := Tryz.isAgg9
  z9 := Tryz.sizeOf9
  v9 := Tryz.zeroValue9
  t20 := Tryz.underlying20
  a20 := Tryz.isAgg20
  z20 := Tryz.sizeOf20
  v20 := Tryz.zeroValue20
  t21 := Tryz.underlying21
  a21 := Tryz.isAgg21
  z21 := Tryz.sizeOf21
  v21 := Tryz.zeroValue21
  t37 := Tryz.underlying59
  a37 := Tryz.isAgg59
  z37 := Tryz.sizeOf59
  v37 := Tryz.zeroValue59
  t46 := Tryz.underlying131
  a46 := Tryz.isAgg131
  z46 := Tryz.sizeOf131
  v46 := Tryz.zeroValue131
  t51 := Tryz.underlying144
  a51 := Tryz.isAgg144
  z51 := Tryz.sizeOf144
  v51 := Tryz.zeroValue144
  t53 := Tryz.underlying133
  a53 := Tryz.isAgg133
  z53 := Tryz.sizeOf133
  v53 := Tryz.zeroValue133
  t75 := Tryz.underlying51
  a75 := Tryz.isAgg51
  z75 := Tryz.sizeOf51
  v75 := Tryz.zeroValue51
  t76 := Tryz.underlying111
  a76 := Tryz.isAgg111
  z76 := Tryz.sizeOf111
  v76 := Tryz.zeroValue111
  t85 := Tryz.underlying139
  a85 := Tryz.isAgg139
  z85 := Tryz.sizeOf139
  v85 := Tryz.zeroValue139
  t127 := Tryz.underlying159
  a127 := Tryz.isAgg159
  z127 := Tryz.sizeOf159
  v127 := Tryz.zeroValue159
  t143 := Tryz.underlying160
  a143 := Tryz.isAgg160
  z143 := Tryz.sizeOf160
  v143 := Tryz.zeroValue160
  t145 := Tryz.underlying162
  a145 := Tryz.isAgg162
  z145 := Tryz.sizeOf162
  v145 := Tryz.zeroValue162
  t167 := Tryz.underlying138
  a167 := Tryz.isAgg138
  z167 := Tryz.sizeOf138
  v167 := Tryz.zeroValue138
  t168 := Tryz.underlying141
  a168 := Tryz.isAgg141
  z168 := Tryz.sizeOf141
  v168 := Tryz.zeroValue141
  t171 := Tryz.underlying132
  a171 := Tryz.isAgg132
  z171 := Tryz.sizeOf132
  v171 := Tryz.zeroValue132
  t173 := Tryz.underlying136
  a173 := Tryz.isAgg136
  z173 := Tryz.sizeOf136
  v173 := Tryz.zeroValue136
  t175 := Tryz.underlying152
  a175 := Tryz.isAgg152
  z175 := Tryz.sizeOf152
  v175 := Tryz.zeroValue152
  t210 := Tryz.underlying155
  a210 := Tryz.isAgg155
  z210 := Tryz.sizeOf155
  v210 := Tryz.zeroValue155
  t212 := Tryz.underlying148
  a212 := Tryz.isAgg148
  z212 := Tryz.sizeOf148
  v212 := Tryz.zeroValue148
  t213 := Tryz.underlying149
  a213 := Tryz.isAgg149
  z213 := Tryz.sizeOf149
  t232 := Tryz.underlying163
  a232 := Tryz.isAgg163
  z232 := Tryz.sizeOf163
  v232 := Tryz.zeroValue163
  t233 := Tryz.underlying164
  a233 := Tryz.isAgg164
  z233 := Tryz.sizeOf164
  v233 := Tryz.zeroValue164
  g15 := by kernel_rfl
  g16 := by kernel_rfl
  g17 := by kernel_rfl
  g18 := by kernel_rfl
  g19 := by kernel_rfl
  t80 := Tryz.underlying165
  a80 := Tryz.isAgg165
  z80 := Tryz.sizeOf165
  v80 := Tryz.zeroValue165
  i0 := by kernel_rfl
  i2 := by kernel_rfl
  i3 := by kernel_rfl
  i4 := by kernel_rfl
  i5 := by kernel_rfl
  i9 := by kernel_rfl
  i20 := by kernel_rfl
  i21 := by kernel_rfl
  i37 := by kernel_rfl
  i46 := by kernel_rfl
  i51 := by kernel_rfl
  i53 := by kernel_rfl
  i75 := by kernel_rfl
  i76 := by kernel_rfl
  i80 := by kernel_rfl
  i85 := by kernel_rfl
  i127 := by kernel_rfl
  i143 := by kernel_rfl
  i145 := by kernel_rfl
  i167 := by kernel_rfl
  i168 := by kernel_rfl
  i171 := by kernel_rfl
  i173 := by kernel_rfl
  i175 := by kernel_rfl
  i210 := by kernel_rfl
  i212 := by kernel_rfl
  i232 := by kernel_rfl
  i233 := by kernel_rfl
  m15 := by kernel_rfl
  m16 := by kernel_rfl
  m17 := by kernel_rfl
  m18 := by kernel_rfl
  m19 := by kernel_rfl
  c0 := by kernel_rfl
  c2 := by kernel_rfl
  c3 := by kernel_rfl
  c4 := by kernel_rfl
  c5 := by kernel_rfl
  c9 := by kernel_rfl
  c20 := by kernel_rfl
  c21 := by kernel_rfl
  c37 := by kernel_rfl
  c46 := by kernel_rfl
  c51 := by kernel_rfl
  c53 := by kernel_rfl
  c75 := by kernel_rfl
  c76 := by kernel_rfl
  c80 := by kernel_rfl
  c85 := by kernel_rfl
  c127 := by kernel_rfl
  c143 := by kernel_rfl
  c145 := by kernel_rfl
  c167 := by kernel_rfl
  c168 := by kernel_rfl
  c171 := by kernel_rfl
  c173 := by kernel_rfl
  c175 := by kernel_rfl
  c210 := by kernel_rfl
  c212 := by kernel_rfl
  c213 := by kernel_rfl
  c232 := by kernel_rfl
  c233 := by kernel_rfl }
open Go.RowKit in
theorem Tryz.strconv_Atoi_ok (s : ByteArray) (hmax : s.size ≤ 9223372036854775806) (v : Int) (h : Lib.atoiAll s.data.toList = .ok v) (w : World) :
    Calls Tryz.prog 71 #[.string s] w fun e w' => e = .returned (.tuple #[.int .i64 v, .nilIface]) ∧ (w' = w ∨ ∃ t, w' = Lib.bytesWorld w 5 t) := Any.strconv_Atoi_ok Tryz.laysC172 s hmax v h w
open Go.RowKit in
theorem Tryz.strconv_Atoi_syntax (s : ByteArray) (hlim : s.size ≤ 281474976710656) (h : Lib.atoiAll s.data.toList = Lib.atoiAll []) (ev : Value) (w : World) (hv : w.cell? ⟨5, 0, none⟩ = some ev) (hev : ev = .nilIface ∨ ∃ te pe, ev = .iface te pe) :
    Calls Tryz.prog 71 #[.string s] w fun e w' => ∃ N, e = .returned (.tuple #[.int .i64 (0), .iface 141 (.pointer (some ⟨N, 0, none⟩))]) ∧ w.heap.size ≤ N ∧ w'.heap[N]? = some (.cells #[.string ⟨#[65, 116, 111, 105]⟩, .string s, ev] 155 (0, 0)) ∧ Below w.heap.size w w' := Any.strconv_Atoi_syntax Tryz.laysC172 s hlim h ev w hv hev
open Go.RowKit in
theorem Tryz.strconv_Atoi_range (s : ByteArray) (hlim : s.size ≤ 281474976710656) (h : Lib.atoiAll s.data.toList = .range) (ev : Value) (w : World) (hv : w.cell? ⟨6, 0, none⟩ = some ev) (hev : ev = .nilIface ∨ ∃ te pe, ev = .iface te pe) :
    Calls Tryz.prog 71 #[.string s] w fun e w' => ∃ N, e = .returned (.tuple #[.int .i64 (Lib.atoiSat s.data.toList), .iface 141 (.pointer (some ⟨N, 0, none⟩))]) ∧ w.heap.size ≤ N ∧ w'.heap[N]? = some (.cells #[.string ⟨#[65, 116, 111, 105]⟩, .string s, ev] 155 (0, 0)) ∧ Below w.heap.size w w' := Any.strconv_Atoi_range Tryz.laysC172 s hlim h ev w hv hev
open Go.RowKit in
theorem Tryz.strconv_Atoi_syntax_var (s : ByteArray) (hlim : s.size ≤ 281474976710656) (h : Lib.atoiAll s.data.toList = Lib.atoiAll []) (tp : TypeId) (p : Value) (w : World) (hvar : w.var? Tryz.prog "strconv.ErrSyntax" = some #[.iface tp p]) :
    Calls Tryz.prog 71 #[.string s] w fun e w' => ∃ N, e = .returned (.tuple #[.int .i64 0, .iface 141 (.pointer (some ⟨N, 0, none⟩))]) ∧ w.heap.size ≤ N ∧ w'.heap[N]? = some (.cells #[.string ⟨#[65, 116, 111, 105]⟩, .string s, .iface tp p] 155 (0, 0)) ∧ Below w.heap.size w w' := Any.strconv_Atoi_syntax_var Tryz.laysC172 s hlim h tp p w hvar
open Go.RowKit in
theorem Tryz.strconv_Atoi_range_var (s : ByteArray) (hlim : s.size ≤ 281474976710656) (h : Lib.atoiAll s.data.toList = .range) (tp : TypeId) (p : Value) (w : World) (hvar : w.var? Tryz.prog "strconv.ErrRange" = some #[.iface tp p]) :
    Calls Tryz.prog 71 #[.string s] w fun e w' => ∃ N, e = .returned (.tuple #[.int .i64 (Lib.atoiSat s.data.toList), .iface 141 (.pointer (some ⟨N, 0, none⟩))]) ∧ w.heap.size ≤ N ∧ w'.heap[N]? = some (.cells #[.string ⟨#[65, 116, 111, 105]⟩, .string s, .iface tp p] 155 (0, 0)) ∧ Below w.heap.size w w' := Any.strconv_Atoi_range_var Tryz.laysC172 s hlim h tp p w hvar
def Tryz.lays217_ren : Go.Shelf.Ren := ⟨fun | 217 => 79 | 266 => 93 | n => n, fun | 9 => 9 | 5 => 5 | 3 => 3 | n => n, fun | n => n⟩
theorem Tryz.lays217 : Go.Proofs.Lays.n217 Tryz.prog Tryz.lays217_ren := {
  mixed := by kernel_rfl
  f217 := Tryz.func79.trans (congrArg some (by kernel_rfl))
  f266 := Tryz.func93.trans (congrArg some (by kernel_rfl))
  t3 := Tryz.underlying3
  a3 := Tryz.isAgg3
  z3 := Tryz.sizeOf3
  v3 := Tryz.zeroValue3
  t5 := Tryz.underlying5
  a5 := Tryz.isAgg5
  z5 := Tryz.sizeOf5
  v5 := Tryz.zeroValue5
  t9 := Tryz.underlying9
  a9 := Tryz.isAgg9
  z9 := Tryz.sizeOf9
  v9 := Tryz.zeroValue9 }
open Go.RowKit Go.Lib in
theorem Tryz.stringslite_IndexByte (s : ByteArray) (c : Int) (w : World) :
    Calls Tryz.prog 79 #[.string s, .int .u8 c] w fun e w' => e = .returned (.int .i64 (Lib.indexByte s.data.toList c.toNat.toUInt8)) ∧ w' = w := Any.stringslite_IndexByte Tryz.lays217 s c w
def Tryz.lays224_ren : Go.Shelf.Ren := ⟨fun | 224 => 81 | n => n, fun | 3 => 3 | n => n, fun | n => n⟩
theorem Tryz.lays224 : Go.Proofs.Lays.n224 Tryz.prog Tryz.lays224_ren := {
  mixed := by kernel_rfl
  f224 := Tryz.func81.trans (congrArg some (by kernel_rfl))
  t3 := Tryz.underlying3
  a3 := Tryz.isAgg3
  z3 := Tryz.sizeOf3
  v3 := Tryz.zeroValue3 }
open Go.RowKit Go.Lib in
theorem Tryz.bytealg_Cutover (n : Int) (h0 : 0 ≤ n) (h1 : n < 4611686018427387904) (w : World) :
    Calls Tryz.prog 81 #[.int .i64 n] w fun e w' => e = .returned (.int .i64 ((n + 16) / 8)) ∧ w' = w := Any.bytealg_Cutover Tryz.lays224 n h0 h1 w
def Tryz.lays314_ren : Go.Shelf.Ren := ⟨fun | 314 => 94 | n => n, fun | 9 => 9 | 51 => 144 | 3 => 3 | 4 => 4 | 5 => 5 | 46 => 131 | n => n, fun | n => n⟩
theorem Tryz.lays314 : Go.Proofs.Lays.n314 Tryz.prog Tryz.lays314_ren := {
  mixed := by kernel_rfl
  f314 := Tryz.func94.trans (congrArg some (by kernel_rfl))
  t3 := Tryz.underlying3
  a3 := Tryz.isAgg3
  z3 := Tryz.sizeOf3
  v3 := Tryz.zeroValue3
  t4 := Tryz.underlying4
  a4 := Tryz.isAgg4
  z4 := Tryz.sizeOf4
  v4 := Tryz.zeroValue4
  t5 := Tryz.underlying5
  a5 := Tryz.isAgg5
  z5 := Tryz.sizeOf5
  v5 := Tryz.zeroValue5
  t9 := Tryz.underlying9
  a9 := Tryz.isAgg9
  z9 := Tryz.sizeOf9
  v9 := Tryz.zeroValue9
  t46 := Tryz.underlying131
  a46 := Tryz.isAgg131
  z46 := Tryz.sizeOf131
  v46 := Tryz.zeroValue131
  t51 := Tryz.underlying144
  a51 := Tryz.isAgg144
  z51 := Tryz.sizeOf144
  v51 := Tryz.zeroValue144 }
open Go.RowKit Go.Lib in
theorem Tryz.bytealg_hashStr (sep : ByteArray) (hs : sep.size < 4294967281) (w : World) :
    Calls Tryz.prog 94 #[.string sep] w fun e w' => e = .returned (.tuple #[.int .u32 (RK.H sep.data.toList % 4294967296), .int .u32 (16777619 ^ sep.size % 4294967296)]) ∧ w' = w := Any.bytealg_hashStr Tryz.lays314 sep hs w
def Tryz.lays267_ren : Go.Shelf.Ren := ⟨fun | 267 => 82 | 314 => 94 | n => n, fun | 9 => 9 | 3 => 3 | 146 => 145 | 51 => 144 | 4 => 4 | 5 => 5 | 46 => 131 | n => n, fun | n => n⟩
theorem Tryz.lays267 : Go.Proofs.Lays.n267 Tryz.prog Tryz.lays267_ren := {
  mixed := by kernel_rfl
  f267 := Tryz.func82.trans (congrArg some (by kernel_rfl))
  f314 := Tryz.func94.trans (congrArg some (by kernel_rfl))
  t3 := Tryz.underlying3
  a3 := Tryz.isAgg3
  z3 := Tryz.sizeOf3
  v3 := Tryz.zeroValue3
  t4 := Tryz.underlying4
  a4 := Tryz.isAgg4
  z4 := Tryz.sizeOf4
  v4 := Tryz.zeroValue4
  t5 := Tryz.underlying5
  a5 := Tryz.isAgg5
  z5 := Tryz.sizeOf5
  v5 := Tryz.zeroValue5
  t9 := Tryz.underlying9
  a9 := Tryz.isAgg9
  z9 := Tryz.sizeOf9
  v9 := Tryz.zeroValue9
  t46 := Tryz.underlying131
  a46 := Tryz.isAgg131
  z46 := Tryz.sizeOf131
  v46 := Tryz.zeroValue131
  t51 := Tryz.underlying144
  a51 := Tryz.isAgg144
  z51 := Tryz.sizeOf144
  v51 := Tryz.zeroValue144
  t146 := Tryz.underlying145
  a146 := Tryz.isAgg145
  z146 := Tryz.sizeOf145
  v146 := Tryz.zeroValue145 }
open Go.RowKit Go.Lib in
theorem Tryz.bytealg_IndexRabinKarp (s sep : ByteArray) (h1 : 1 ≤ sep.size) (h2 : sep.size ≤ s.size) (hs : s.size < 4294967281) (w : World) :
    Calls Tryz.prog 82 #[.string s, .string sep] w fun e w' => e = .returned (.int .i64 (Lib.index s.data.toList sep.data.toList)) ∧ w' = w := Any.bytealg_IndexRabinKarp Tryz.lays267 s sep h1 h2 hs w
def Tryz.lays219_ren : Go.Shelf.Ren := ⟨fun | 219 => 73 | 217 => 79 | 225 => 80 | 224 => 81 | 267 => 82 | 266 => 93 | 314 => 94 | n => n, fun | 9 => 9 | 3 => 3 | 4 => 4 | 5 => 5 | 46 => 131 | 146 => 145 | 51 => 144 | n => n, fun | 1 => 3 | n => n⟩
theorem Tryz.lays219 : Go.Proofs.Lays.n219 Tryz.prog Tryz.lays219_ren := {
  mixed := by kernel_rfl
  f217 := Tryz.func79.trans (congrArg some (by kernel_rfl))
  f219 := Tryz.func73.trans (congrArg some (by kernel_rfl))
  f224 := Tryz.func81.trans (congrArg some (by kernel_rfl))
  f225 := Tryz.func80.trans (congrArg some (by kernel_rfl))
  f266 := Tryz.func93.trans (congrArg some (by kernel_rfl))
  f267 := Tryz.func82.trans (congrArg some (by kernel_rfl))
  f314 := Tryz.func94.trans (congrArg some (by kernel_rfl))
  t3 := Tryz.underlying3
  a3 := Tryz.isAgg3
  z3 := Tryz.sizeOf3
  v3 := Tryz.zeroValue3
  t4 := Tryz.underlying4
  a4 := Tryz.isAgg4
  z4 := Tryz.sizeOf4
  v4 := Tryz.zeroValue4
  t5 := Tryz.underlying5
  a5 := Tryz.isAgg5
  z5 := Tryz.sizeOf5
  v5 := Tryz.zeroValue5
  t9 := Tryz.underlying9
  a9 := Tryz.isAgg9
  z9 := Tryz.sizeOf9
  v9 := Tryz.zeroValue9
  t46 := Tryz.underlying131
  a46 := Tryz.isAgg131
  z46 := Tryz.sizeOf131
  v46 := Tryz.zeroValue131
  t51 := Tryz.underlying144
  a51 := Tryz.isAgg144
  z51 := Tryz.sizeOf144
  v51 := Tryz.zeroValue144
  t146 := Tryz.underlying145
  a146 := Tryz.isAgg145
  z146 := Tryz.sizeOf145
  v146 := Tryz.zeroValue145
  g1 := by kernel_rfl }
open Go.RowKit Go.Lib in
theorem Tryz.stringslite_Index_one (s : ByteArray) (c : UInt8) (w : World) :
    Calls Tryz.prog 73 #[.string s, .string ⟨#[c]⟩] w fun e w' => e = .returned (.int .i64 (Lib.indexByte s.data.toList c)) ∧ w' = w := Any.stringslite_Index_one Tryz.lays219 s c w
open Go.RowKit Go.Lib in
theorem Tryz.stringslite_Index (s sub : ByteArray) (m : Int) (w : World) (hs : s.size < 4294967281) (hm : w.cell? ⟨3, 0, none⟩ = some (.int .i64 m)) :
    Calls Tryz.prog 73 #[.string s, .string sub] w fun e w' => e = .returned (.int .i64 (Lib.index s.data.toList sub.data.toList)) ∧ w' = w := Any.stringslite_Index Tryz.lays219 s sub m w hs hm
def Tryz.lays220_ren : Go.Shelf.Ren := ⟨fun | 220 => 67 | 219 => 73 | 217 => 79 | 225 => 80 | 224 => 81 | 267 => 82 | 266 => 93 | 314 => 94 | n => n, fun | 9 => 9 | 4 => 4 | 3 => 3 | 5 => 5 | 46 => 131 | 146 => 145 | 51 => 144 | n => n, fun | 1 => 3 | n => n⟩
theorem Tryz.lays220 : Go.Proofs.Lays.n220 Tryz.prog Tryz.lays220_ren := {
  mixed := by kernel_rfl
  f217 := Tryz.func79.trans (congrArg some (by kernel_rfl))
  f219 := Tryz.func73.trans (congrArg some (by kernel_rfl))
  f220 := Tryz.func67.trans (congrArg some (by kernel_rfl))
  f224 := Tryz.func81.trans (congrArg some (by kernel_rfl))
  f225 := Tryz.func80.trans (congrArg some (by kernel_rfl))
  f266 := Tryz.func93.trans (congrArg some (by kernel_rfl))
  f267 := Tryz.func82.trans (congrArg some (by kernel_rfl))
  f314 := Tryz.func94.trans (congrArg some (by kernel_rfl))
  t3 := Tryz.underlying3
  a3 := Tryz.isAgg3
  z3 := Tryz.sizeOf3
  v3 := Tryz.zeroValue3
  t4 := Tryz.underlying4
  a4 := Tryz.isAgg4
  z4 := Tryz.sizeOf4
  v4 := Tryz.zeroValue4
  t5 := Tryz.underlying5
  a5 := Tryz.isAgg5
  z5 := Tryz.sizeOf5
  v5 := Tryz.zeroValue5
  t9 := Tryz.underlying9
  a9 := Tryz.isAgg9
  z9 := Tryz.sizeOf9
  v9 := Tryz.zeroValue9
  t46 := Tryz.underlying131
  a46 := Tryz.isAgg131
  z46 := Tryz.sizeOf131
  v46 := Tryz.zeroValue131
  t51 := Tryz.underlying144
  a51 := Tryz.isAgg144
  z51 := Tryz.sizeOf144
  v51 := Tryz.zeroValue144
  t146 := Tryz.underlying145
  a146 := Tryz.isAgg145
  z146 := Tryz.sizeOf145
  v146 := Tryz.zeroValue145
  g1 := by kernel_rfl }
open Go.RowKit Go.Lib in
theorem Tryz.stringslite_Cut (s sep : ByteArray) (m : Int) (w : World) (hs : s.size < 4294967281) (hm : w.cell? ⟨3, 0, none⟩ = some (.int .i64 m)) :
    Calls Tryz.prog 67 #[.string s, .string sep] w fun e w' => e = .returned (.tuple #[.string ⟨(Lib.cut s.data.toList sep.data.toList).1.toArray⟩, .string ⟨(Lib.cut s.data.toList sep.data.toList).2.1.toArray⟩, .bool (Lib.cut s.data.toList sep.data.toList).2.2]) ∧ ∃ n, w' = w.drewN n := Any.stringslite_Cut Tryz.lays220 s sep m w hs hm
def Tryz.lays145_ren : Go.Shelf.Ren := ⟨fun | 145 => 49 | 220 => 67 | 219 => 73 | 217 => 79 | 225 => 80 | 224 => 81 | 267 => 82 | 266 => 93 | 314 => 94 | n => n, fun | 9 => 9 | 4 => 4 | 59 => 90 | 3 => 3 | 5 => 5 | 46 => 131 | 146 => 145 | 51 => 144 | n => n, fun | 1 => 3 | n => n⟩
theorem Tryz.lays145 : Go.Proofs.Lays.n145 Tryz.prog Tryz.lays145_ren := {
  mixed := by kernel_rfl
  f145 := Tryz.func49.trans (congrArg some (by kernel_rfl))
  f217 := Tryz.func79.trans (congrArg some (by kernel_rfl))
  f219 := Tryz.func73.trans (congrArg some (by kernel_rfl))
  f220 := Tryz.func67.trans (congrArg some (by kernel_rfl))
  f224 := Tryz.func81.trans (congrArg some (by kernel_rfl))
  f225 := Tryz.func80.trans (congrArg some (by kernel_rfl))
  f266 := Tryz.func93.trans (congrArg some (by kernel_rfl))
  f267 := Tryz.func82.trans (congrArg some (by kernel_rfl))
  f314 := Tryz.func94.trans (congrArg some (by kernel_rfl))
  t3 := Tryz.underlying3
  a3 := Tryz.isAgg3
  z3 := Tryz.sizeOf3
  v3 := Tryz.zeroValue3
  t4 := Tryz.underlying4
  a4 := Tryz.isAgg4
  z4 := Tryz.sizeOf4
  v4 := Tryz.zeroValue4
  t5 := Tryz.underlying5
  a5 := Tryz.isAgg5
  z5 := Tryz.sizeOf5
  v5 := Tryz.zeroValue5
  t9 := Tryz.underlying9
  a9 := Tryz.isAgg9
  z9 := Tryz.sizeOf9
  v9 := Tryz.zeroValue9
  t46 := Tryz.underlying131
  a46 := Tryz.isAgg131
  z46 := Tryz.sizeOf131
  v46 := Tryz.zeroValue131
  t51 := Tryz.underlying144
  a51 := Tryz.isAgg144
  z51 := Tryz.sizeOf144
  v51 := Tryz.zeroValue144
  t59 := Tryz.underlying90
  a59 := Tryz.isAgg90
  z59 := Tryz.sizeOf90
  v59 := Tryz.zeroValue90
  t146 := Tryz.underlying145
  a146 := Tryz.isAgg145
  z146 := Tryz.sizeOf145
  v146 := Tryz.zeroValue145
  g1 := by kernel_rfl }
open Go.RowKit Go.Lib in
theorem Tryz.strings_Cut (s sep : ByteArray) (m : Int) (w : World) (hs : s.size < 4294967281) (hm : w.cell? ⟨3, 0, none⟩ = some (.int .i64 m)) :
    Calls Tryz.prog 49 #[.string s, .string sep] w fun e w' => e = .returned (.tuple #[.string ⟨(Lib.cut s.data.toList sep.data.toList).1.toArray⟩, .string ⟨(Lib.cut s.data.toList sep.data.toList).2.1.toArray⟩, .bool (Lib.cut s.data.toList sep.data.toList).2.2]) ∧ ∃ n, w' = w.drewN n := Any.strings_Cut Tryz.lays145 s sep m w hs hm
def Tryz.laysM219_ren : Go.Shelf.Ren := ⟨fun | 219 => 73 | 217 => 79 | 225 => 80 | 224 => 81 | 267 => 82 | 266 => 93 | 314 => 94 | n => n, fun | 9 => 9 | 3 => 3 | 4 => 4 | 5 => 5 | 46 => 131 | 146 => 145 | 51 => 144 | n => n, fun | 1 => 3 | n => n⟩
theorem Tryz.laysM219 : Go.Proofs.LaysM.n219 Tryz.prog Tryz.laysM219_ren := {
  mixed := by kernel_rfl
  f217 := Tryz.func79.trans (congrArg some (by kernel_rfl))
  f219 := Tryz.func73.trans (congrArg some (by kernel_rfl))
  f224 := Tryz.func81.trans (congrArg some (by kernel_rfl))
  f225 := Tryz.func80.trans (congrArg some (by kernel_rfl))
  f266 := Tryz.func93.trans (congrArg some (by kernel_rfl))
  f267 := Tryz.func82.trans (congrArg some (by kernel_rfl))
  f314 := Tryz.func94.trans (congrArg some (by kernel_rfl))
  t3 := Tryz.underlying3
  a3 := Tryz.isAgg3
  z3 := Tryz.sizeOf3
  v3 := Tryz.zeroValue3
  t4 := Tryz.underlying4
  a4 := Tryz.isAgg4
  z4 := Tryz.sizeOf4
  v4 := Tryz.zeroValue4
  t5 := Tryz.underlying5
  a5 := Tryz.isAgg5
  z5 := Tryz.sizeOf5
  v5 := Tryz.zeroValue5
  t9 := Tryz.underlying9
  a9 := Tryz.isAgg9
  z9 := Tryz.sizeOf9
  v9 := Tryz.zeroValue9
  t46 := Tryz.underlying131
  a46 := Tryz.isAgg131
  z46 := Tryz.sizeOf131
  v46 := Tryz.zeroValue131
  t51 := Tryz.underlying144
  a51 := Tryz.isAgg144
  z51 := Tryz.sizeOf144
  v51 := Tryz.zeroValue144
  t146 := Tryz.underlying145
  a146 := Tryz.isAgg145
  z146 := Tryz.sizeOf145
  v146 := Tryz.zeroValue145
  g1 := by kernel_rfl
  i3 := by kernel_rfl
  i4 := by kernel_rfl
  i5 := by kernel_rfl
  i9 := by kernel_rfl
  i46 := by kernel_rfl
  i51 := by kernel_rfl
  i146 := by kernel_rfl
  m1 := by kernel_rfl
  s1_3 := fun w h => Go.Proofs.cell_of_shapedOpen_int (zero := #[.int .i64 0]) (t := 3) h (of_decide_eq_true (by kernel_rfl)) (by kernel_rfl) rfl (by kernel_rfl) (by kernel_rfl) Tryz.underlying3 }
open Go.RowKit Go.Lib in
theorem Tryz.stringslite_Index_shaped (s sub : ByteArray) (w : World) (h : w.ShapedOpen Tryz.prog) (hs : s.size < 4294967281) :
    Calls Tryz.prog 73 #[.string s, .string sub] w fun e w' => e = .returned (.int .i64 (Lib.index s.data.toList sub.data.toList)) ∧ w' = w := Any.stringslite_Index_shaped Tryz.laysM219 s sub w h hs
def Tryz.laysM220_ren : Go.Shelf.Ren := ⟨fun | 220 => 67 | 219 => 73 | 217 => 79 | 225 => 80 | 224 => 81 | 267 => 82 | 266 => 93 | 314 => 94 | n => n, fun | 9 => 9 | 4 => 4 | 3 => 3 | 5 => 5 | 46 => 131 | 146 => 145 | 51 => 144 | n => n, fun | 1 => 3 | n => n⟩
theorem Tryz.laysM220 : Go.Proofs.LaysM.n220 Tryz.prog Tryz.laysM220_ren := {
  mixed := by kernel_rfl
  f217 := Tryz.func79.trans (congrArg some (by kernel_rfl))
  f219 := Tryz.func73.trans (congrArg some (by kernel_rfl))
  f220 := Tryz.func67.trans (congrArg some (by kernel_rfl))
  f224 := Tryz.func81.trans (congrArg some (by kernel_rfl))
  f225 := Tryz.func80.trans (congrArg some (by kernel_rfl))
  f266 := Tryz.func93.trans (congrArg some (by kernel_rfl))
  f267 := Tryz.func82.trans (congrArg some (by kernel_rfl))
  f314 := Tryz.func94.trans (congrArg some (by kernel_rfl))
  t3 := Tryz.underlying3
  a3 := Tryz.isAgg3
  z3 := Tryz.sizeOf3
  v3 := Tryz.zeroValue3
  t4 := Tryz.underlying4
  a4 := Tryz.isAgg4
  z4 := Tryz.sizeOf4
  v4 := Tryz.zeroValue4
  t5 := Tryz.underlying5
  a5 := Tryz.isAgg5
  z5 := Tryz.sizeOf5
  v5 := Tryz.zeroValue5
  t9 := Tryz.underlying9
  a9 := Tryz.isAgg9
  z9 := Tryz.sizeOf9
  v9 := Tryz.zeroValue9
  t46 := Tryz.underlying131
  a46 := Tryz.isAgg131
  z46 := Tryz.sizeOf131
  v46 := Tryz.zeroValue131
  t51 := Tryz.underlying144
  a51 := Tryz.isAgg144
  z51 := Tryz.sizeOf144
  v51 := Tryz.zeroValue144
  t146 := Tryz.underlying145
  a146 := Tryz.isAgg145
  z146 := Tryz.sizeOf145
  v146 := Tryz.zeroValue145
  g1 := by kernel_rfl
  i3 := by kernel_rfl
  i4 := by kernel_rfl
  i5 := by kernel_rfl
  i9 := by kernel_rfl
  i46 := by kernel_rfl
  i51 := by kernel_rfl
  i146 := by kernel_rfl
  m1 := by kernel_rfl
  s1_3 := fun w h => Go.Proofs.cell_of_shapedOpen_int (zero := #[.int .i64 0]) (t := 3) h (of_decide_eq_true (by kernel_rfl)) (by kernel_rfl) rfl (by kernel_rfl) (by kernel_rfl) Tryz.underlying3 }
open Go.RowKit Go.Lib in
theorem Tryz.stringslite_Cut_shaped (s sep : ByteArray) (w : World) (h : w.ShapedOpen Tryz.prog) (hs : s.size < 4294967281) :
    Calls Tryz.prog 67 #[.string s, .string sep] w fun e w' => e = .returned (.tuple #[.string ⟨(Lib.cut s.data.toList sep.data.toList).1.toArray⟩, .string ⟨(Lib.cut s.data.toList sep.data.toList).2.1.toArray⟩, .bool (Lib.cut s.data.toList sep.data.toList).2.2]) ∧ ∃ n, w' = w.drewN n := Any.stringslite_Cut_shaped Tryz.laysM220 s sep w h hs
def Tryz.laysM145_ren : Go.Shelf.Ren := ⟨fun | 145 => 49 | 220 => 67 | 219 => 73 | 217 => 79 | 225 => 80 | 224 => 81 | 267 => 82 | 266 => 93 | 314 => 94 | n => n, fun | 9 => 9 | 4 => 4 | 59 => 90 | 3 => 3 | 5 => 5 | 46 => 131 | 146 => 145 | 51 => 144 | n => n, fun | 1 => 3 | n => n⟩
theorem Tryz.laysM145 : Go.Proofs.LaysM.n145 Tryz.prog Tryz.laysM145_ren := {
  mixed := by kernel_rfl
  f145 := Tryz.func49.trans (congrArg some (by kernel_rfl))
  f217 := Tryz.func79.trans (congrArg some (by kernel_rfl))
  f219 := Tryz.func73.trans (congrArg some (by kernel_rfl))
  f220 := Tryz.func67.trans (congrArg some (by kernel_rfl))
  f224 := Tryz.func81.trans (congrArg some (by kernel_rfl))
  f225 := Tryz.func80.trans (congrArg some (by kernel_rfl))
  f266 := Tryz.func93.trans (congrArg some (by kernel_rfl))
  f267 := Tryz.func82.trans (congrArg some (by kernel_rfl))
  f314 := Tryz.func94.trans (congrArg some (by kernel_rfl))
  t3 := Tryz.underlying3
  a3 := Tryz.isAgg3
  z3 := Tryz.sizeOf3
  v3 := Tryz.zeroValue3
  t4 := Tryz.underlying4
  a4 := Tryz.isAgg4
  z4 := Tryz.sizeOf4
  v4 := Tryz.zeroValue4
  t5 := Tryz.underlying5
  a5 := Tryz.isAgg5
  z5 := Tryz.sizeOf5
  v5 := Tryz.zeroValue5
  t9 := Tryz.underlying9
  a9 := Tryz.isAgg9
  z9 := Tryz.sizeOf9
  v9 := Tryz.zeroValue9
  t46 := Tryz.underlying131
  a46 := Tryz.isAgg131
  z46 := Tryz.sizeOf131
  v46 := Tryz.zeroValue131
  t51 := Tryz.underlying144
  a51 := Tryz.isAgg144
  z51 := Tryz.sizeOf144
  v51 := Tryz.zeroValue144
  t59 := Tryz.underlying90
  a59 := Tryz.isAgg90
  z59 := Tryz.sizeOf90
  v59 := Tryz.zeroValue90
  t146 := Tryz.underlying145
  a146 := Tryz.isAgg145
  z146 := Tryz.sizeOf145
  v146 := Tryz.zeroValue145
  g1 := by kernel_rfl
  i3 := by kernel_rfl
  i4 := by kernel_rfl
  i5 := by kernel_rfl
  i9 := by kernel_rfl
  i46 := by kernel_rfl
  i51 := by kernel_rfl
  i59 := by kernel_rfl
  i146 := by kernel_rfl
  m1 := by kernel_rfl
  s1_3 := fun w h => Go.Proofs.cell_of_shapedOpen_int (zero := #[.int .i64 0]) (t := 3) h (of_decide_eq_true (by kernel_rfl)) (by kernel_rfl) rfl (by kernel_rfl) (by kernel_rfl) Tryz.underlying3 }
open Go.RowKit Go.Lib in
theorem Tryz.strings_Cut_shaped (s sep : ByteArray) (w : World) (h : w.ShapedOpen Tryz.prog) (hs : s.size < 4294967281) :
    Calls Tryz.prog 49 #[.string s, .string sep] w fun e w' => e = .returned (.tuple #[.string ⟨(Lib.cut s.data.toList sep.data.toList).1.toArray⟩, .string ⟨(Lib.cut s.data.toList sep.data.toList).2.1.toArray⟩, .bool (Lib.cut s.data.toList sep.data.toList).2.2]) ∧ ∃ n, w' = w.drewN n := Any.strings_Cut_shaped Tryz.laysM145 s sep w h hs
def Tryz.lays206_ren : Go.Shelf.Ren := ⟨fun | 206 => 83 | n => n, fun | 9 => 9 | 4 => 4 | 3 => 3 | n => n, fun | n => n⟩
theorem Tryz.lays206 : Go.Proofs.Lays.n206 Tryz.prog Tryz.lays206_ren := {
  mixed := by kernel_rfl
  f206 := Tryz.func83.trans (congrArg some (by kernel_rfl))
  t3 := Tryz.underlying3
  a3 := Tryz.isAgg3
  z3 := Tryz.sizeOf3
  v3 := Tryz.zeroValue3
  t4 := Tryz.underlying4
  a4 := Tryz.isAgg4
  z4 := Tryz.sizeOf4
  v4 := Tryz.zeroValue4
  t9 := Tryz.underlying9
  a9 := Tryz.isAgg9
  z9 := Tryz.sizeOf9
  v9 := Tryz.zeroValue9 }
open Go.RowKit Go.Lib in
theorem Tryz.stringslite_HasPrefix (s p : ByteArray) (w : World) :
    Calls Tryz.prog 83 #[.string s, .string p] w fun e w' => e = .returned (.bool (Lib.hasPrefix s.data.toList p.data.toList)) ∧ w' = w := Any.stringslite_HasPrefix Tryz.lays206 s p w
def Tryz.lays208_ren : Go.Shelf.Ren := ⟨fun | 208 => 75 | 206 => 83 | n => n, fun | 9 => 9 | 4 => 4 | 3 => 3 | n => n, fun | n => n⟩
theorem Tryz.lays208 : Go.Proofs.Lays.n208 Tryz.prog Tryz.lays208_ren := {
  mixed := by kernel_rfl
  f206 := Tryz.func83.trans (congrArg some (by kernel_rfl))
  f208 := Tryz.func75.trans (congrArg some (by kernel_rfl))
  t3 := Tryz.underlying3
  a3 := Tryz.isAgg3
  z3 := Tryz.sizeOf3
  v3 := Tryz.zeroValue3
  t4 := Tryz.underlying4
  a4 := Tryz.isAgg4
  z4 := Tryz.sizeOf4
  v4 := Tryz.zeroValue4
  t9 := Tryz.underlying9
  a9 := Tryz.isAgg9
  z9 := Tryz.sizeOf9
  v9 := Tryz.zeroValue9 }
open Go.RowKit Go.Lib in
theorem Tryz.stringslite_TrimPrefix (s p : ByteArray) (w : World) :
    Calls Tryz.prog 75 #[.string s, .string p] w fun e w' => e = .returned (.string ⟨(Lib.trimPrefix s.data.toList p.data.toList).toArray⟩) ∧ w' = w := Any.stringslite_TrimPrefix Tryz.lays208 s p w
def Tryz.lays101_ren : Go.Shelf.Ren := ⟨fun | 101 => 69 | 208 => 75 | 206 => 83 | n => n, fun | 9 => 9 | 4 => 4 | 3 => 3 | n => n, fun | n => n⟩
theorem Tryz.lays101 : Go.Proofs.Lays.n101 Tryz.prog Tryz.lays101_ren := {
  mixed := by kernel_rfl
  f101 := Tryz.func69.trans (congrArg some (by kernel_rfl))
  f206 := Tryz.func83.trans (congrArg some (by kernel_rfl))
  f208 := Tryz.func75.trans (congrArg some (by kernel_rfl))
  t3 := Tryz.underlying3
  a3 := Tryz.isAgg3
  z3 := Tryz.sizeOf3
  v3 := Tryz.zeroValue3
  t4 := Tryz.underlying4
  a4 := Tryz.isAgg4
  z4 := Tryz.sizeOf4
  v4 := Tryz.zeroValue4
  t9 := Tryz.underlying9
  a9 := Tryz.isAgg9
  z9 := Tryz.sizeOf9
  v9 := Tryz.zeroValue9 }
open Go.RowKit Go.Lib in
theorem Tryz.strings_TrimPrefix (s p : ByteArray) (w : World) :
    Calls Tryz.prog 69 #[.string s, .string p] w fun e w' => e = .returned (.string ⟨(Lib.trimPrefix s.data.toList p.data.toList).toArray⟩) ∧ w' = w := Any.strings_TrimPrefix Tryz.lays101 s p w
end Go.Proofs
end
section
namespace Go.Proofs.YtbjbicaffblchaaGreatDoor.Hand
open Go.RowKit
structure Laid (w : World) : Prop where
  max : ∃ m, w.cell? ⟨3, 0, none⟩ = some (.int .i64 m)
  tab : Lib.TabIs Tryz.prog w "internal/strconv.uint64pow10" .u64 Lib.pow10Tab
  syn : ∃ te pe, w.cell? ⟨5, 0, none⟩ = some (.iface te pe)
  rng : ∃ te pe, w.cell? ⟨6, 0, none⟩ = some (.iface te pe)
theorem gTab : Tryz.prog.globalNamed "internal/strconv.uint64pow10" = some 4 := by kernel_rfl
theorem cell_keep {w w' : World} (hb : Below w.heap.size w w') {a : Addr} {v : Value} (hc : w.cell? a = some v) : w'.cell? a = some v := (hb.cell (World.block_lt_of_cell? w a hc)).trans hc
theorem Laid.below {w w' : World} (h : Laid w) (hb : Below w.heap.size w w') : Laid w' := by
  obtain ⟨⟨m, hm⟩, ht, ⟨t1, p1, h1⟩, ⟨t2, p2, h2⟩⟩ := h
  refine ⟨⟨m, cell_keep hb hm⟩, ?_, ⟨t1, p1, cell_keep hb h1⟩, ⟨t2, p2, cell_keep hb h2⟩⟩
  have hc := ht.cell gTab 0 (by rw [Lib.pow10Tab_length]; decide)
  exact var?_below hb gTab (World.block_lt_of_cell? w _ hc) ht
def NG : Nat := 6 + 1
theorem Laid.same {w w' : World} (h : Laid w) (hb : ∀ k, k < NG → w'.heap[k]? = w.heap[k]?) : Laid w' := by
  obtain ⟨⟨m, hm⟩, ht, ⟨t1, p1, h1⟩, ⟨t2, p2, h2⟩⟩ := h
  have hc : ∀ (g : Nat) (v : Value), g < NG → w.cell? ⟨g, 0, none⟩ = some v → w'.cell? ⟨g, 0, none⟩ = some v := fun g v hg hv => by
    have := hb g hg
    simpa [World.cell?, this] using hv
  refine ⟨⟨m, hc _ _ (by decide) hm⟩, ?_, ⟨t1, p1, hc _ _ (by decide) h1⟩, ⟨t2, p2, hc _ _ (by decide) h2⟩⟩
  have ht' : w.var? Tryz.prog "internal/strconv.uint64pow10" = _ := ht
  unfold Lib.TabIs World.var? at *
  rw [gTab] at ht' ⊢
  simp only [Option.bind_some] at ht' ⊢
  rw [hb _ (by decide)]
  exact ht'
theorem Laid.belowAt {w w' : World} {B : Nat} (h : Laid w) (hb : Below B w w') (hB : 6 < B) : Laid w' := by
  obtain ⟨⟨m, hm⟩, ht, ⟨t1, p1, h1⟩, ⟨t2, p2, h2⟩⟩ := h
  exact ⟨⟨m, (hb.cell (show _ < B by show 3 < B; omega)).trans hm⟩, var?_below hb gTab (by omega) ht, ⟨t1, p1, (hb.cell (show _ < B by show 5 < B; omega)).trans h1⟩, ⟨t2, p2, (hb.cell (show _ < B by show 6 < B; omega)).trans h2⟩⟩
theorem below_drewN (w : World) (n : Nat) : Below w.heap.size w (w.drewN n) := ⟨rfl, rfl, rfl, Nat.le_refl _, fun _ _ => rfl⟩
theorem below_grow (w : World) (os : Array Obj) : Below w.heap.size w (Sort.grow w os) :=
  ⟨rfl, rfl, rfl, by simp, fun k hk => by simp [Sort.grow, Array.getElem?_append, hk]⟩
theorem below_bytes (w : World) (e : TypeId) (s : ByteArray) : Below w.heap.size w (Lib.bytesWorld w e s) :=
  ⟨rfl, rfl, rfl, by rw [Lib.bytesWorld_size]; omega, fun k hk => Lib.bytesWorld_at_old w e s k hk⟩
def txt (l : List UInt8) : ByteArray := ⟨l.toArray⟩
theorem itoa_calls (n : Int) (w : World) (hL : Laid w) (h0 : -9223372036854775808 ≤ n) (h1 : n ≤ 9223372036854775807) :
    Calls Tryz.prog 58 #[.int .i64 n] w fun e w' => e = .returned (.string (txt (Lib.itoa n))) ∧ Below w.heap.size w w' :=
  (Tryz.strconv_Itoa n h0 h1 w hL.tab).mono fun _ _ ⟨he, k, os, hw⟩ => ⟨he, by rw [hw]; exact (below_drewN w k).trans (below_grow (w.drewN k) os)⟩
def atoiNum (l : List UInt8) : Int := match Lib.atoiAll l with | .ok v => v | .range => Lib.atoiSat l | _ => 0
theorem atoi_calls (s : ByteArray) (w : World) (hL : Laid w) (hs : s.size ≤ 281474976710656) :
    Calls Tryz.prog 71 #[.string s] w fun e w' => (∃ v, e = .returned (.tuple #[.int .i64 (atoiNum s.data.toList), v])) ∧ Below w.heap.size w w' := by
  unfold atoiNum
  cases h : Lib.atoiAll s.data.toList
  · rename_i v
    refine (Tryz.strconv_Atoi_ok s (by omega) v h w).mono fun _ _ ⟨he, hw⟩ => ⟨⟨_, he⟩, ?_⟩
    rcases hw with rfl | ⟨t, rfl⟩
    · exact Below.refl _ _
    · exact below_bytes _ _ _
  · obtain ⟨te, pe, hv⟩ := hL.syn
    exact (Tryz.strconv_Atoi_syntax s hs h _ w hv (.inr ⟨te, pe, rfl⟩)).mono fun _ _ ⟨N, he, _, _, hb⟩ => ⟨⟨_, he⟩, hb⟩
  · obtain ⟨te, pe, hv⟩ := hL.rng
    exact (Tryz.strconv_Atoi_range s hs h _ w hv (.inr ⟨te, pe, rfl⟩)).mono fun _ _ ⟨N, he, _, _, hb⟩ => ⟨⟨_, he⟩, hb⟩
def strings_Cut.f (a0 a1 : ByteArray) : Option (ByteArray × ByteArray × Bool) :=
  if a0.size < 4294967281 then some (txt (Lib.cut a0.data.toList a1.data.toList).1, txt (Lib.cut a0.data.toList a1.data.toList).2.1, (Lib.cut a0.data.toList a1.data.toList).2.2) else none
theorem strings_Cut.calls (a0 a1 r1 r2 : ByteArray) (r3 : Bool) (w : World) (hLd : Laid w) (h : strings_Cut.f a0 a1 = some (r1, r2, r3)) :
    Calls Tryz.prog 49 #[.string a0, .string a1] w fun e w' => e = .returned (.tuple #[.string r1, .string r2, .bool r3]) ∧ Below w.heap.size w w' := by
  unfold strings_Cut.f at h
  split at h
  · rename_i hs
    simp only [Option.some.injEq, Prod.mk.injEq] at h
    obtain ⟨rfl, rfl, rfl⟩ := h
    obtain ⟨m, hm⟩ := hLd.max
    exact (Tryz.strings_Cut a0 a1 m w hs hm).mono fun _ _ ⟨he, n, hw⟩ => ⟨he, by rw [hw]; exact below_drewN w n⟩
  · cases h
def strconv_Itoa.f (a0 : Int) : Option ByteArray := if -9223372036854775808 ≤ a0 ∧ a0 ≤ 9223372036854775807 then some (txt (Lib.itoa a0)) else none
theorem strconv_Itoa.calls (a0 : Int) (r : ByteArray) (w : World) (hLd : Laid w) (h : strconv_Itoa.f a0 = some r) :
    Calls Tryz.prog 58 #[.int .i64 a0] w fun e w' => e = .returned (.string r) ∧ Below w.heap.size w w' := by
  unfold strconv_Itoa.f at h
  split at h
  · rename_i hs
    obtain rfl := Option.some.inj h
    exact itoa_calls a0 w hLd hs.1 hs.2
  · cases h
end Go.Proofs.YtbjbicaffblchaaGreatDoor.Hand
end
section
namespace Go.Proofs.YtbjbicaffblchaaGreatDoor.Hand
open Go.RowKit Go.Extern.Stop Go.Stop Go.Extern
theorem er_typeOf (v : Value) (w : World) : (Extern.ReflectliteType.typeOf #[.iface 160 v]).run Tryz.prog w = .ok (.iface 115 (.agg #[.pointer (some ⟨9, 160, none⟩)])) w := by kernel_rfl
def erCmp : TypeId → Sem Value := fun t => do Extern.Rtype.noPackHeld "Comparable" t; pure (.bool (← typeInfo t).comparable)
theorem er_comparable (w : World) : ((Extern.ReflectliteType.method erCmp) #[.agg #[.pointer (some ⟨9, 160, none⟩)]]).run Tryz.prog w = .ok (.bool true) w := by kernel_rfl
theorem er_method (v : Value) (w : World) : (Go.method 297 115 v "Comparable").run Tryz.prog w = .ok (125, v) w := by kernel_rfl
theorem er_comp : (Tryz.prog.info? 160).map (·.comparable) = some true := by kernel_rfl
theorem er_size : (Tryz.prog.info? 162).map (·.size) = some 1 := by kernel_rfl
theorem er_noIs (v : Value) (xT : TypeId) (w : World) : (Instr.typeAssert (.iface 160 v) xT 117 true).run Tryz.prog w = .ok (.tuple #[.nilIface, .bool false]) w := run_typeAssert_lacksB Tryz.underlying117 (by kernel_rfl) (by kernel_rfl) v xT w
theorem er_noUnwrap (v : Value) (xT : TypeId) (w : World) : (Instr.typeAssert (.iface 160 v) xT 120 true).run Tryz.prog w = .ok (.tuple #[.nilIface, .bool false]) w := run_typeAssert_lacksB Tryz.underlying120 (by kernel_rfl) (by kernel_rfl) v xT w
theorem er_noUnwraps (v : Value) (xT : TypeId) (w : World) : (Instr.typeAssert (.iface 160 v) xT 122 true).run Tryz.prog w = .ok (.tuple #[.nilIface, .bool false]) w := run_typeAssert_lacksB Tryz.underlying122 (by kernel_rfl) (by kernel_rfl) v xT w
set_option maxRecDepth 100000 in
theorem is_same (a : Addr) (w : World) :
    Calls Tryz.prog 42 #[.iface 160 (.pointer (some a)), .iface 160 (.pointer (some a))] w fun e w' => e = .returned (.bool true) ∧ w' = w := by
  obtain ⟨i, hi, hcmp⟩ := Option.map_eq_some_iff.1 er_comp
  obtain ⟨j, hj, hjs⟩ := Option.map_eq_some_iff.1 er_size
  have h8 := @run_callFunc_extern Tryz.prog 62 _ Extern.ReflectliteType.typeOf Tryz.func62 (by kernel_rfl) (by kernel_rfl) (by kernel_rfl) (by kernel_rfl)
  have h32 := @run_callFunc_extern Tryz.prog 125 _ (Extern.ReflectliteType.method erCmp) Tryz.func125 (by kernel_rfl) (by kernel_rfl) (by kernel_rfl) (by kernel_rfl)
  have tT := er_typeOf
  have cT := er_comparable
  have mR := er_method
  have heq := run_eql_iface_ptr_same (P := Tryz.prog) w a Tryz.underlying51 Tryz.underlying160 hi hcmp hj
  go_enter Tryz.func42, Tryz.ntmps42
  go_wp2
  refine wp_loop_rounds 1 ?_
  rw [rounds_succ]
  go_wp2
  go_ret
  exact ⟨rfl, rfl⟩
theorem is_nil (b : Addr) (w : World) :
    Calls Tryz.prog 42 #[.nilIface, .iface 160 (.pointer (some b))] w fun e w' => e = .returned (.bool false) ∧ w' = w := by
  have hn := run_eql_iface_nil_left (P := Tryz.prog) w 160 (.pointer (some b)) Tryz.underlying51
  go_enter Tryz.func42, Tryz.ntmps42
  go_wp2
  go_ret
  exact ⟨rfl, rfl⟩
set_option maxRecDepth 100000 in
theorem is_other (a b : Addr) (ca cb : Array Value) (ta tb : TypeId) (w : World) (hne : a ≠ b) (ha : w.heap[a.block]? = some (.cells ca ta (0, 0))) (hb : w.heap[b.block]? = some (.cells cb tb (0, 0))) :
    Calls Tryz.prog 42 #[.iface 160 (.pointer (some a)), .iface 160 (.pointer (some b))] w fun e w' => e = .returned (.bool false) ∧ w' = w := by
  obtain ⟨i, hi, hcmp⟩ := Option.map_eq_some_iff.1 er_comp
  obtain ⟨j, hj, hjs⟩ := Option.map_eq_some_iff.1 er_size
  have h8 := @run_callFunc_extern Tryz.prog 62 _ Extern.ReflectliteType.typeOf Tryz.func62 (by kernel_rfl) (by kernel_rfl) (by kernel_rfl) (by kernel_rfl)
  have h32 := @run_callFunc_extern Tryz.prog 125 _ (Extern.ReflectliteType.method erCmp) Tryz.func125 (by kernel_rfl) (by kernel_rfl) (by kernel_rfl) (by kernel_rfl)
  have tT := er_typeOf
  have cT := er_comparable
  have mR := er_method
  have nE := er_noIs
  have uE := er_noUnwrap
  have vE := er_noUnwraps
  have heq := run_eql_iface_ptr_other (P := Tryz.prog) w Tryz.underlying51 Tryz.underlying160 hi hcmp hj (by rw [hjs]; decide) hne ha hb
  go_enter Tryz.func42, Tryz.ntmps42
  go_wp2
  refine wp_loop_rounds 1 ?_
  rw [rounds_succ]
  go_wp2
  go_ret
  exact ⟨rfl, rfl⟩
def ErrAt (w : World) (g : Nat) (a : Addr) : Prop := w.cell? ⟨g, 0, none⟩ = some (.iface 160 (.pointer (some a))) ∧ ∃ c t, w.heap[a.block]? = some (.cells c t (0, 0))
theorem ErrAt.below {w w' : World} {g : Nat} {a : Addr} (h : ErrAt w g a) (hb : Below w.heap.size w w') : ErrAt w' g a := by
  obtain ⟨h1, c, t, h2⟩ := h
  exact ⟨cell_keep hb h1, c, t, (hb.block _ (Array.getElem?_eq_some_iff.1 h2).1).trans h2⟩
def errV (a : Addr) : Value := .iface 160 (.pointer (some a))
end Go.Proofs.YtbjbicaffblchaaGreatDoor.Hand
end
section
namespace Go.Proofs.YtbjbicaffblchaaGreatDoor.Hand
open Go.RowKit
def runeIn (s : ByteArray) (r : Int) : Bool := s.data.toList.any fun c => (c.toNat : Int) == r
theorem runeIn_hit (s : ByteArray) (r : Int) (k : Nat) (h : k < s.size) (e : ((s[k]'h).toNat : Int) = r) : runeIn s r = true := by
  unfold runeIn
  rw [List.any_eq_true]
  exact ⟨s[k], by rw [show s[k] = s.data[k] from rfl]; exact Array.getElem_mem_toList _, by simp [e]⟩
theorem runeIn_miss (s : ByteArray) (r : Int) (h : ∀ k (hk : k < s.size), ((s[k]'hk).toNat : Int) ≠ r) : runeIn s r = false := by
  unfold runeIn
  rw [List.any_eq_false]
  intro c hc
  obtain ⟨k, hk, rfl⟩ := List.mem_iff_getElem.1 hc
  have hk' : k < s.size := by simpa using hk
  have := h k hk'
  simp only [beq_iff_eq]
  exact this
theorem iter_below (w : World) (s : ByteArray) (p : Nat) : Below w.heap.size w (w.iter s p) := (Below.refl _ w).alloc (Nat.le_refl _) _
set_option maxRecDepth 100000 in
theorem hasRune_calls (s : ByteArray) (r : Int) (w : World) (hs : ∀ k (hk : k < s.size), (s[k]'hk).toNat < 128) :
    Calls Tryz.prog 74 #[.string s, .int .i32 r] w fun e w' => e = .returned (.bool (runeIn s r)) ∧ Below w.heap.size w w' := by
  go_enter Tryz.func74, Tryz.ntmps74
  go_wp2
  go_loopw [6, 9, 10, 11, 12, 13, 14] (fun _ _ _ _ _ _ _ w' => ∃ (pos : Nat), w' = w.iter s pos ∧ pos ≤ s.size ∧ (∀ k (hk : k < s.size), k < pos → ((s[k]'hk).toNat : Int) ≠ r)) (fun _ _ _ _ _ _ _ w' => s.size - w'.iterPos w.heap.size)
  case atStart => exact ⟨0, rfl, by omega, fun k _ h => by omega⟩
  case round =>
    obtain ⟨pos, rfl, hp, hno⟩ := hrel
    have HS := Hid.out (p := ∀ k (hk : k < s.size), (s[k]'hk).toNat < 128) hs
    by_cases hlt : pos < s.size
    · have ha := hs pos hlt
      have hnx : ∀ ty, (Instr.next (.pointer (some ⟨w.heap.size, 0, none⟩)) true ty).run Tryz.prog (w.iter s pos) = _ := fun ty => run_next_ascii w s pos ty hlt ha
      clear hs HS
      by_cases he : ((s[pos]'hlt).toNat : Int) = r
      · have hb : (((s[pos]'hlt).toNat : Int) == r) = true := beq_iff_eq.2 he
        have hr := Lib.hid (runeIn_hit s r pos hlt he)
        clear he hno
        go_wp2
        go_ret
        exact ⟨by rw [hr.out]; rfl, iter_below _ _ _⟩
      · have hb : (((s[pos]'hlt).toNat : Int) == r) = false := beq_eq_false_iff_ne.2 he
        have hno' : ∀ k (hk : k < s.size), k < pos + 1 → ((s[k]'hk).toNat : Int) ≠ r := fun k hk hl => by
          by_cases e : k = pos
          · subst e; exact he
          · exact hno k hk (by omega)
        have HN := Lib.hid hno'
        clear he hno hno'
        go_wp2
        go_roundw
        case rel => exact ⟨pos + 1, rfl, by omega, HN.out⟩
        case measure => simp; omega
    · have hnx : ∀ ty, (Instr.next (.pointer (some ⟨w.heap.size, 0, none⟩)) true ty).run Tryz.prog (w.iter s pos) = _ := fun ty => run_next_end w s pos ty hlt
      have hr := Lib.hid (runeIn_miss s r fun k hk => hno k hk (by omega))
      clear hs HS hno
      go_wp2
      go_ret
      exact ⟨by rw [hr.out]; rfl, iter_below _ _ _⟩
def okByte (signs : ByteArray) (c : UInt8) : Bool := (decide (97 ≤ c.toNat) && decide (c.toNat ≤ 122)) || (decide (48 ≤ c.toNat) && decide (c.toNat ≤ 57)) || runeIn signs c.toNat
def partS (s signs : ByteArray) : Bool := s.data.toList.all (okByte signs) && decide (s.size ≤ 20)
theorem partS_no (s signs : ByteArray) (k : Nat) (h : k < s.size) (e : okByte signs (s[k]'h) = false) : partS s signs = false := by
  unfold partS
  have : s.data.toList.all (okByte signs) = false := by
    rw [List.all_eq_false]
    exact ⟨s[k], by rw [show s[k] = s.data[k] from rfl]; exact Array.getElem_mem_toList _, by simp [e]⟩
  rw [this, Bool.false_and]
theorem partS_all (s signs : ByteArray) (h : ∀ k (hk : k < s.size), okByte signs (s[k]'hk) = true) : partS s signs = decide (s.size ≤ 20) := by
  unfold partS
  have : s.data.toList.all (okByte signs) = true := by
    rw [List.all_eq_true]
    intro c hc
    obtain ⟨k, hk, rfl⟩ := List.mem_iff_getElem.1 hc
    have hk' : k < s.size := by simpa using hk
    exact h k hk'
  rw [this, Bool.true_and]
theorem runeIn_high (signs : ByteArray) (hs : ∀ k (hk : k < signs.size), (signs[k]'hk).toNat < 128) (r : Int) (h : 128 ≤ r) : runeIn signs r = false :=
  runeIn_miss signs r fun k hk => by have := hs k hk; omega
theorem okByte_high (signs : ByteArray) (hs : ∀ k (hk : k < signs.size), (signs[k]'hk).toNat < 128) (c : UInt8) (h : 128 ≤ c.toNat) : okByte signs c = false := by
  unfold okByte
  rw [runeIn_high signs hs _ (by omega)]
  simp; omega
theorem rune_at (s signs : ByteArray) (hs : ∀ k (hk : k < signs.size), (signs[k]'hk).toNat < 128) (pos : Nat) (h : pos < s.size) :
    ∃ (r : Int) (p' : Nat), 0 ≤ r ∧ r ≤ 2147483647 ∧ (r < 128 → p' = pos + 1) ∧ okByte signs (s[pos]'h) = ((decide (97 ≤ r) && decide (r ≤ 122)) || (decide (48 ≤ r) && decide (r ≤ 57)) || runeIn signs r) ∧ (128 ≤ r → okByte signs (s[pos]'h) = false) ∧
      ∀ (w : World) (ty : TypeId) (k : Nat), w.heap[k]? = some (.stringIter s pos) → (Instr.next (.pointer (some ⟨k, 0, none⟩)) true ty).run Tryz.prog w = .ok (.tuple #[.bool true, .int .i64 pos, .int .i32 r]) (w.iterAt k s p') := by
  by_cases ha : (s[pos]'h).toNat < 128
  · refine ⟨(s[pos]'h).toNat, pos + 1, by omega, by omega, fun _ => rfl, ?_, fun hh => by omega, fun w ty k hk => Lib.run_next_ascii_at w k s pos ty hk h ha⟩
    unfold okByte
    congr 1
    rw [Bool.eq_iff_iff]
    simp only [Bool.or_eq_true, Bool.and_eq_true, decide_eq_true_eq]
    omega
  · have hd := (decode_high s pos h (by omega)).1
    have hl := decode_le s pos
    have hf := okByte_high signs hs (s[pos]'h) (by omega)
    refine ⟨(Utf8.decode s pos).1, pos + (Utf8.decode s pos).2, by omega, by omega, fun _ => by omega, ?_, fun _ => hf, fun w ty k hk => Lib.run_next_any_at w k s pos ty hk h⟩
    rw [hf, runeIn_high signs hs _ (by omega)]
    symm
    simp
    omega
theorem iterPos_of {w : World} {k p : Nat} {s : ByteArray} (h : w.heap[k]? = some (.stringIter s p)) : w.iterPos k = p := by simp [World.iterPos, h]
set_option maxHeartbeats 1000000 in
set_option maxRecDepth 100000 in
theorem isPart_calls (s signs : ByteArray) (w : World) (hsz : s.size ≤ maxLen) (hs : ∀ k (hk : k < signs.size), (signs[k]'hk).toNat < 128) :
    Calls Tryz.prog 68 #[.string s, .string signs] w fun e w' => e = .returned (.bool (partS s signs)) ∧ Below w.heap.size w w' := by
  unfold maxLen at hsz
  go_enter Tryz.func68, Tryz.ntmps68
  go_wp2
  go_loopw [6, 9, 10, 11, 12, 13, 14, 15, 16, 17, 18, 19, 20, 21, 22, 23, 24, 25, 26, 27, 28, 29, 30, 31] (fun _ _ _ _ _ _ _ _ _ _ _ _ _ _ _ _ _ _ _ _ _ _ _ _ w' => ∃ (pos : Nat), w'.heap[w.heap.size]? = some (.stringIter s pos) ∧ pos ≤ s.size ∧ Below w.heap.size w w' ∧ (∀ k (hk : k < s.size), k < pos → okByte signs (s[k]'hk) = true)) (fun _ _ _ _ _ _ _ _ _ _ _ _ _ _ _ _ _ _ _ _ _ _ _ _ w' => s.size - w'.iterPos w.heap.size)
  case atStart => exact ⟨0, World.iter_heap _ _ _, by omega, iter_below _ _ _, fun k _ h => by omega⟩
  case round =>
    obtain ⟨pos, hit, hp, hbw, hno⟩ := hrel
    by_cases hlt : pos < s.size
    · obtain ⟨r, p', h0, h1, hp', hok, hhi, hnx0⟩ := rune_at s signs hs pos hlt
      have hnx : ∀ ty, (Instr.next (.pointer (some ⟨w.heap.size, 0, none⟩)) true ty).run Tryz.prog wr = _ := fun ty => hnx0 wr ty w.heap.size hit
      have hb1 : Below w.heap.size w (wr.iterAt w.heap.size s p') := Lib.below_iterAt hbw (Nat.le_refl _) s p'
      have hit1 : (wr.iterAt w.heap.size s p').heap[w.heap.size]? = some (.stringIter s p') := Lib.iterAt_heap wr w.heap.size s pos p' hit
      obtain ⟨w1, hw1⟩ : ∃ w1, w1 = wr.iterAt w.heap.size s p' := ⟨_, rfl⟩
      rw [← hw1] at hb1 hit1
      simp only [← hw1] at hnx
      have hlt1 : w.heap.size < w1.heap.size := (Array.getElem?_eq_some_iff.1 hit1).1
      clear hw1 hnx0 hbw
      have hst : okByte signs (s[pos]'hlt) = true → ∀ k (hk : k < s.size), k < pos + 1 → okByte signs (s[k]'hk) = true := fun hh k hk hl => by
        by_cases e : k = pos
        · subst e; exact hh
        · exact hno k hk (by omega)
      have hsf : okByte signs (s[pos]'hlt) = false → partS s signs = false := partS_no s signs pos hlt
      have HST := Lib.hid hst
      have HSF := Lib.hid hsf
      have HIP := Lib.hid (iterPos_of hit)
      have HS := Lib.hid hs
      clear hst hsf hit hno hs
      by_cases hA : 97 ≤ r ∧ r ≤ 122
      · have HO := Lib.hid (show okByte signs (s[pos]'hlt) = true by rw [hok]; simp [hA])
        clear hok hhi
        obtain ⟨hA1, hA2⟩ := hA
        have hp2 := hp' (by omega)
        subst hp2
        go_wp2
        go_roundw
        case rel => exact ⟨pos + 1, hit1, by omega, hb1, HST.out HO.out⟩
        case measure => rw [iterPos_of hit1, HIP.out]; omega
      · have hout : r < 97 ∨ 122 < r := by omega
        by_cases hB : 48 ≤ r ∧ r ≤ 57
        · have HO := Lib.hid (show okByte signs (s[pos]'hlt) = true by rw [hok]; simp [hB])
          clear hok hhi hA
          obtain ⟨hB1, hB2⟩ := hB
          have hout' : r < 97 := by omega
          clear hout
          have hp2 := hp' (by omega)
          subst hp2
          go_wp2
          go_roundw
          case rel => exact ⟨pos + 1, hit1, by omega, hb1, HST.out HO.out⟩
          case measure => rw [iterPos_of hit1, HIP.out]; omega
        · have hok2 : okByte signs (s[pos]'hlt) = runeIn signs r := by
            rw [hok]
            have e1 : (decide (97 ≤ r) && decide (r ≤ 122)) = false := by simp; omega
            have e2 : (decide (48 ≤ r) && decide (r ≤ 57)) = false := by simp; omega
            rw [e1, e2]; rfl
          cases hr : runeIn signs r with
          | true =>
            have HO := Lib.hid (show okByte signs (s[pos]'hlt) = true by rw [hok2, hr])
            have hlt2 : r < 128 := by
              rcases Int.lt_or_le r 128 with h | h
              · exact h
              · rw [hhi h] at hok2; rw [hr] at hok2; cases hok2
            have hp2 := hp' (by omega)
            subst hp2
            have HR := Lib.hid hr
            clear hok hhi hA hok2 hr
            have hB' : r < 48 ∨ 57 < r := by omega
            clear hB
            rcases hout with ho | ho
            · rcases hB' with hB | hB
              · have q0 : decide (97 ≤ r) = false := by simp; omega
                have q1 : decide (48 ≤ r) = false := by simp; omega
                go_wp2_with (go_at_call 74; refine (hasRune_calls signs r _ HS.out).mono ?_; rintro e w2 ⟨rfl, hb2⟩; have HB2 := Lib.hid hb2; clear hb2; rw [HR.out])
                go_roundw
                case rel => exact ⟨pos + 1, (HB2.out.block _ hlt1).trans hit1, by omega, below_run hb1 HB2.out, HST.out HO.out⟩
                case measure => rw [iterPos_of ((HB2.out.block _ hlt1).trans hit1), HIP.out]; omega
              · have q0 : decide (97 ≤ r) = false := by simp; omega
                have q1 : decide (48 ≤ r) = true := by simp; omega
                have q2 : decide (r ≤ 57) = false := by simp; omega
                go_wp2_with (go_at_call 74; refine (hasRune_calls signs r _ HS.out).mono ?_; rintro e w2 ⟨rfl, hb2⟩; have HB2 := Lib.hid hb2; clear hb2; rw [HR.out])
                go_roundw
                case rel => exact ⟨pos + 1, (HB2.out.block _ hlt1).trans hit1, by omega, below_run hb1 HB2.out, HST.out HO.out⟩
                case measure => rw [iterPos_of ((HB2.out.block _ hlt1).trans hit1), HIP.out]; omega
            · have hB : 57 < r := by omega
              clear hB'
              have q0 : decide (97 ≤ r) = true := by simp; omega
              have q1 : decide (r ≤ 122) = false := by simp; omega
              have q2 : decide (48 ≤ r) = true := by simp; omega
              have q3 : decide (r ≤ 57) = false := by simp; omega
              go_wp2_with (go_at_call 74; refine (hasRune_calls signs r _ HS.out).mono ?_; rintro e w2 ⟨rfl, hb2⟩; have HB2 := Lib.hid hb2; clear hb2; rw [HR.out])
              go_roundw
              case rel => exact ⟨pos + 1, (HB2.out.block _ hlt1).trans hit1, by omega, below_run hb1 HB2.out, HST.out HO.out⟩
              case measure => rw [iterPos_of ((HB2.out.block _ hlt1).trans hit1), HIP.out]; omega
          | false =>
            have HO := Lib.hid (show okByte signs (s[pos]'hlt) = false by rw [hok2, hr])
            have HR := Lib.hid hr
            clear hok hhi hA hok2 hr
            have hB' : r < 48 ∨ 57 < r := by omega
            clear hB
            rcases hout with ho | ho
            · rcases hB' with hB | hB
              · have q0 : decide (97 ≤ r) = false := by simp; omega
                have q1 : decide (48 ≤ r) = false := by simp; omega
                go_wp2_with (go_at_call 74; refine (hasRune_calls signs r _ HS.out).mono ?_; rintro e w2 ⟨rfl, hb2⟩; have HB2 := Lib.hid hb2; clear hb2; rw [HR.out])
                go_ret
                exact ⟨by rw [HSF.out HO.out]; rfl, below_run hb1 HB2.out⟩
              · have q0 : decide (97 ≤ r) = false := by simp; omega
                have q1 : decide (48 ≤ r) = true := by simp; omega
                have q2 : decide (r ≤ 57) = false := by simp; omega
                go_wp2_with (go_at_call 74; refine (hasRune_calls signs r _ HS.out).mono ?_; rintro e w2 ⟨rfl, hb2⟩; have HB2 := Lib.hid hb2; clear hb2; rw [HR.out])
                go_ret
                exact ⟨by rw [HSF.out HO.out]; rfl, below_run hb1 HB2.out⟩
            · have hB : 57 < r := by omega
              clear hB'
              have q0 : decide (97 ≤ r) = true := by simp; omega
              have q1 : decide (r ≤ 122) = false := by simp; omega
              have q2 : decide (48 ≤ r) = true := by simp; omega
              have q3 : decide (r ≤ 57) = false := by simp; omega
              go_wp2_with (go_at_call 74; refine (hasRune_calls signs r _ HS.out).mono ?_; rintro e w2 ⟨rfl, hb2⟩; have HB2 := Lib.hid hb2; clear hb2; rw [HR.out])
              go_ret
              exact ⟨by rw [HSF.out HO.out]; rfl, below_run hb1 HB2.out⟩
    · have hnx : ∀ ty, (Instr.next (.pointer (some ⟨w.heap.size, 0, none⟩)) true ty).run Tryz.prog wr = _ := fun ty => Lib.run_next_end_at wr w.heap.size s pos ty hit hlt
      have HP := Lib.hid (partS_all s signs fun k hk => hno k hk (by omega))
      clear hs hit hno
      go_wp2
      all_goals go_ret
      all_goals exact ⟨by rw [HP.out]; first | rfl | (simp; omega), hbw⟩
def ascii (s : ByteArray) : Bool := s.data.toList.all fun c => decide (c.toNat < 128)
theorem ascii_at {s : ByteArray} (h : ascii s = true) (k : Nat) (hk : k < s.size) : (s[k]'hk).toNat < 128 := by
  unfold ascii at h
  rw [List.all_eq_true] at h
  have := h s[k] (by rw [show s[k] = s.data[k] from rfl]; exact Array.getElem_mem_toList _)
  simpa using this
def eid_isPart.f (a0 a1 : ByteArray) : Option Bool := if a0.size ≤ maxLen ∧ ascii a1 = true then some (partS a0 a1) else none
theorem eid_isPart.calls (a0 a1 : ByteArray) (r : Bool) (w : World) (h : eid_isPart.f a0 a1 = some r) :
    Calls Tryz.prog 68 #[.string a0, .string a1] w fun e w' => e = .returned (.bool r) ∧ Below w.heap.size w w' := by
  unfold eid_isPart.f at h
  split at h
  · rename_i hc
    obtain rfl := Option.some.inj h
    exact isPart_calls a0 a1 w hc.1 (fun k hk => ascii_at hc.2 k hk)
  · cases h
end Go.Proofs.YtbjbicaffblchaaGreatDoor.Hand
end
section
namespace Go.Proofs.YtbjbicaffblchaaGreatDoor.Hand
open Go.RowKit Go.Instr
variable {P : Program}
theorem run_checkKey_int' (m : Nat) (W : World) (K : TypeId) (k : IntKind) (hK : P.underlying K = some (.int k)) (e : Bool) (j : IntKind) (n : Int) : (checkKey e (m + 1) K (.int j n)).run P W = .ok () W := by
  simp only [checkKey, Sem.run_bind, run_underlying hK, Result.andThen_ok, Sem.run_pure]
theorem run_checkKey_int (W : World) (K : TypeId) (k : IntKind) (hK : P.underlying K = some (.int k)) (e : Bool) (j : IntKind) (n : Int) : (checkKey e 10000 K (.int j n)).run P W = .ok () W := run_checkKey_int' 9999 W K k hK e j n
theorem run_checkKey_string' (m : Nat) (W : World) (K : TypeId) (hK : P.underlying K = some .string) (e : Bool) (s : ByteArray) : (checkKey e (m + 1) K (.string s)).run P W = .ok () W := by
  simp only [checkKey, Sem.run_bind, run_underlying hK, Result.andThen_ok, Sem.run_pure]
theorem run_checkKey_string (W : World) (K : TypeId) (hK : P.underlying K = some .string) (e : Bool) (s : ByteArray) : (checkKey e 10000 K (.string s)).run P W = .ok () W := run_checkKey_string' 9999 W K hK e s
theorem run_lookup_hit (W : World) (b : Nat) (es : Array MapEntry) (clock : Nat) (T K E : TypeId) (kd : TypeDesc) (kv v : Value) (i : Nat) (ok : Bool) (hT : P.underlying T = some (.map K E)) (hK : P.underlying K = some kd)
    (hc : ∀ e W, (checkKey e 10000 K kv).run P W = .ok () W) (hb : W.heap[b]? = some (.map es clock)) (h : findNow kd kv es.toList 0 = some (some (i, v))) :
    (Instr.lookup T (.map (some b)) kv ok).run P W = .ok (if ok then .tuple #[v, .bool true] else v) W := by
  have hg : (getObj b).run P W = .ok (.map es clock) W := by simp [getObj, Sem.run, hb]
  simp only [Instr.lookup, Sem.run_bind, run_underlying hT, Result.andThen_ok, Sem.run_pure, hg, hc, findKey, run_underlying hK, h]
theorem run_lookup_miss (W : World) (b : Nat) (es : Array MapEntry) (clock : Nat) (T K E : TypeId) (kd : TypeDesc) (kv z : Value) (ok : Bool) (hT : P.underlying T = some (.map K E)) (hK : P.underlying K = some kd)
    (hc : ∀ e W, (checkKey e 10000 K kv).run P W = .ok () W) (hb : W.heap[b]? = some (.map es clock)) (hz : ∀ W, (zeroValue E).run P W = .ok z W) (h : findNow kd kv es.toList 0 = some none) :
    (Instr.lookup T (.map (some b)) kv ok).run P W = .ok (if ok then .tuple #[z, .bool false] else z) W := by
  have hg : (getObj b).run P W = .ok (.map es clock) W := by simp [getObj, Sem.run, hb]
  simp only [Instr.lookup, Sem.run_bind, run_underlying hT, Result.andThen_ok, Sem.run_pure, hg, hc, findKey, run_underlying hK, h, hz]
theorem run_mapUpdate_miss (W : World) (b : Nat) (es : Array MapEntry) (clock : Nat) (T K E : TypeId) (kd : TypeDesc) (kv v : Value) (hT : P.underlying T = some (.map K E)) (hK : P.underlying K = some kd)
    (hc : ∀ e W, (checkKey e 10000 K kv).run P W = .ok () W) (hb : W.heap[b]? = some (.map es clock)) (h : findNow kd kv es.toList 0 = some none) :
    (Instr.mapUpdate T (.map (some b)) kv v).run P W = .ok () (W.putObj b (.map (es.push { key := kv, val := v, born := clock }) (clock + 1))) := by
  have hg : (getObj b).run P W = .ok (.map es clock) W := by simp [getObj, Sem.run, hb]
  simp only [Instr.mapUpdate, Sem.run_bind, run_underlying hT, Result.andThen_ok, Sem.run_pure, hg, hc, findKey, run_underlying hK, h]
  simp only [setObj, Sem.run, hb]
  rfl
theorem putObj_alloc (W : World) (o o' : Obj) : (W.alloc o).putObj W.heap.size o' = W.alloc o' := by
  have h : (W.heap.push o).setIfInBounds W.heap.size o' = W.heap.push o' := by
    apply Array.ext
    · simp
    · intro i h1 h2
      rw [Array.getElem_setIfInBounds (by simpa using h1), Array.getElem_push, Array.getElem_push]
      by_cases hi : W.heap.size = i
      · subst hi; simp
      · rw [if_neg hi]
        have : i < W.heap.size := by simp at h1; omega
        simp [this]
  show { (W.alloc o) with heap := (W.heap.push o).setIfInBounds W.heap.size o' } = W.alloc o'
  rw [h]
  rfl
end Go.Proofs.YtbjbicaffblchaaGreatDoor.Hand
end
section
namespace Go.Proofs.YtbjbicaffblchaaGreatDoor.SA
open Go.Proofs.YtbjbicaffblchaaGreatDoor.Hand
open Go.RowKit Go.Proofs.YtbjbicaffblchaaGreatDoorW.PrintWords Go.Proofs.YtbjbicaffblchaaGreatDoorW.PrintLast Go.Proofs.YtbjbicaffblchaaGreatDoorW.PrintMore
attribute [local go_sem] max2_int min2_int max_two min_two max_three min_three max_four min_four
set_option linter.unusedVariables false
set_option linter.unusedSimpArgs false
def errW : Option Int → Value
  | none => .nilIface
  | some c => .iface 0 (.int .i64 c)
theorem errW_none : errW none = .nilIface := rfl
theorem errW_some (c : Int) : errW (some c) = .iface 0 (.int .i64 c) := rfl
theorem info4 : (Tryz.prog.info? 4).map (fun i => (i.zero, i.size, i.bytes)) = some (some (.bool false), 1, 1) := by kernel_rfl
end Go.Proofs.YtbjbicaffblchaaGreatDoor.SA
end
section
namespace Go.Proofs.YtbjbicaffblchaaGreatDoor.SA
open Go.Proofs.YtbjbicaffblchaaGreatDoor.Hand
open Go.RowKit Go.Proofs.YtbjbicaffblchaaGreatDoorW.PrintWords Go.Proofs.YtbjbicaffblchaaGreatDoorW.PrintLast Go.Proofs.YtbjbicaffblchaaGreatDoorW.PrintMore
attribute [local go_sem] max2_int min2_int max_two min_two max_three min_three max_four min_four
set_option linter.unusedVariables false
set_option linter.unusedSimpArgs false
theorem eqA41 (d : Nat) (w : World) (x0 y0 : Int) (x1 y1 : ByteArray) (x2 y2 : ByteArray) (x3 y3 : Int) (x4 y4 : Int) :
    (Op.equalIn (d + 2) 41 (.agg #[.int .i64 x0, .string x1, .string x2, .int .i64 x3, .int .i64 x4]) (.agg #[.int .i64 y0, .string y1, .string y2, .int .i64 y3, .int .i64 y4])).run Tryz.prog w = .ok (x0 == y0 && (x1.toList == y1.toList && (x2.toList == y2.toList && (x3 == y3 && (x4 == y4))))) w := by
  refine eqA_of Tryz.underlying41 (by kernel_rfl) ?_
  refine eqf_cons (by rfl) (by go_simp; rfl) (by go_simp; rfl) (by go_simp) ?_
  refine eqf_cons (by rfl) (by go_simp; rfl) (by go_simp; rfl) (by go_simp) ?_
  refine eqf_cons (by rfl) (by go_simp; rfl) (by go_simp; rfl) (by go_simp) ?_
  refine eqf_cons (by rfl) (by go_simp; rfl) (by go_simp; rfl) (by go_simp) ?_
  exact eqf_last (by rfl) (by go_simp; rfl) (by go_simp; rfl) (by go_simp)
end Go.Proofs.YtbjbicaffblchaaGreatDoor.SA
end
section
namespace Go.Proofs.YtbjbicaffblchaaGreatDoor.SA
open Go.Proofs.YtbjbicaffblchaaGreatDoor.Hand
open Go.RowKit Go.Proofs.YtbjbicaffblchaaGreatDoorW.PrintWords Go.Proofs.YtbjbicaffblchaaGreatDoorW.PrintLast Go.Proofs.YtbjbicaffblchaaGreatDoorW.PrintMore
attribute [local go_sem] max2_int min2_int max_two min_two max_three min_three max_four min_four
set_option linter.unusedVariables false
set_option linter.unusedSimpArgs false
attribute [local go_sem high] eqA41
def eid_areAll.l0 : Nat → List Bool → Int → Int → Option (Bool)
  | 0, _, _, _ => none
  | k + 1, x5, x6, x7 => if x7 < x6 then (if 0 ≤ x7 then (if x7 < (x5.length : Int) then (if rdOf false x5 x7 = true then (eid_areAll.l0 k x5 x6 (wrap64 (x7 + 1))) else (some false)) else (none)) else (none)) else (some true)
def eid_areAll.f (k : Nat) (l0 : List Bool) : Option (Bool) := eid_areAll.l0 k l0 (l0.length : Int) 0
theorem eid_areAll.mono_l : ∀ k, (∀ y0 y1 y2, LeO (eid_areAll.l0 k y0 y1 y2) (eid_areAll.l0 (k + 1) y0 y1 y2))
  | 0 => fun _ _ _ r h => by simp [eid_areAll.l0] at h
  | k + 1 => by
    have ih0 := eid_areAll.mono_l k
    · intro y0 y1 y2
      unfold eid_areAll.l0
      repeat' first
      | (with_reducible exact ih0 _ _ _)
      | (with_reducible exact LeO.refl _)
      | (with_reducible exact LeO.none _)
      | (with_reducible refine LeO.ite ?_ ?_)
      | (with_reducible refine LeO.bind ?_ (fun _ => ?_))
      | exact ih0 _ _ _
      | exact LeO.none _
      | refine LeO.ite ?_ ?_
      | refine LeO.bind ?_ (fun _ => ?_)
theorem eid_areAll.mono : ∀ a0 k, LeO (eid_areAll.f k a0) (eid_areAll.f (k + 1) a0) := by
  intro a0 k
  have ih0 := eid_areAll.mono_l k
  unfold eid_areAll.f
  repeat' first
      | (with_reducible exact ih0 _ _ _)
      | (with_reducible exact LeO.refl _)
      | (with_reducible exact LeO.none _)
      | (with_reducible refine LeO.ite ?_ ?_)
      | (with_reducible refine LeO.bind ?_ (fun _ => ?_))
      | exact ih0 _ _ _
      | exact LeO.none _
      | refine LeO.ite ?_ ?_
      | refine LeO.bind ?_ (fun _ => ?_)
set_option maxHeartbeats 8000000 in
set_option maxRecDepth 100000 in
theorem eid_areAll.calls (k : Nat) (A0 : Option Addr) (c0 : Nat) (l0 : List Bool) (r : Bool) (w : World) (hr0 : Kd.C Kd.bool w A0 l0.length l0) (hc0 : l0.length ≤ c0) (h : eid_areAll.f k l0 = some r) :
    Calls Tryz.prog 65 #[.slice A0 l0.length c0] w fun e w' => e = .returned (.bool r) ∧ Drawn0 w w' := by
  have HR0 := Aside0.mk hr0
  have HC0 := Aside0.mk hc0
  clear hr0 hc0
  have H : (eid_areAll.l0 k l0 (l0.length : Int) 0) = some r := h
  clear h
  have H' := Aside0.mk H
  clear H
  go_enter Tryz.func65, Tryz.ntmps65
  go_wp2
  go_loopg [7] k (fun kq v7 w' => ∃ (x7_1 : Int), v7 = .int .i64 x7_1 ∧ Aside0 (eid_areAll.l0 kq l0 (l0.length : Int) x7_1 = some r) ∧ Aside0 (kq ≤ k) ∧ Drawn0 w w')
  case atStart => exact ⟨(0), (by first | rfl | (simp; done) | (simp [*]; done)), H', ⟨Nat.le_refl _⟩, by repeat (first | exact Drawn0.refl _ | apply Drawn0.step)⟩
  case round =>
    clear H'
    obtain ⟨x7_1, rfl, HA, HK1, ⟨m1, rfl⟩⟩ := hrel
    cases gk with
    | zero => exact absurd HA.out (by simp [eid_areAll.l0])
    | succ k1 =>
      have H := HA.out
      clear HA
      simp only [eid_areAll.l0] at H
      by_cases c2 : x7_1 < (l0.length : Int)
      · rw [if_pos c2] at H
        have c2b0 : decide (x7_1 < (l0.length : Int)) = true := decide_eq_true c2
        clear c2
        by_cases c3 : 0 ≤ x7_1
        · rw [if_pos c3] at H
          have c3b0 : decide (0 ≤ x7_1) = true := decide_eq_true c3
          clear c3
          by_cases c4 : x7_1 < (l0.length : Int)
          · rw [if_pos c4] at H
            have c4b0 : decide (x7_1 < (l0.length : Int)) = true := decide_eq_true c4
            clear c4
            obtain ⟨bq5, hbq5⟩ : ∃ b_ : Bool, b_ = (rdOf false l0 x7_1) := ⟨_, rfl⟩
            replace H : (if bq5 = true then (eid_areAll.l0 k1 l0 (l0.length : Int) (wrap64 (x7_1 + 1))) else (some false)) = some r := by rw [← hbq5] at H; exact H
            have Nbq5 := Aside0.mk hbq5
            clear hbq5
            by_cases c6 : bq5 = true
            · subst c6
              have H1 : (eid_areAll.l0 k1 l0 (l0.length : Int) (wrap64 (x7_1 + 1))) = some r := by rw [if_pos rfl] at H; exact H
              clear H
              have H := H1
              clear H1
              have H' := Aside0.mk H
              clear H
              have p101 : 0 ≤ (x7_1 : Int) := of_decide_eq_true (by first | (with_reducible assumption) | assumption)
              have q101 : x7_1 < (l0.length : Int) := of_decide_eq_true (by first | (with_reducible assumption) | assumption)
              obtain ⟨ad101, e101, hx101_0⟩ := Kd.at_bool HR0.out x7_1 p101 q101
              (try rw [← Nbq5.out] at hx101_0)
              cases e101
              replace p101 := eq_true p101
              replace q101 := eq_true q101
              go_wp2
              go_roundg k1
              case measure => have := HK1.out; omega
              case rel => exact ⟨(wrap64 (x7_1 + 1)), (by first | rfl | (simp; done) | (simp [*]; done)), H', ⟨by have := HK1.out; omega⟩, by repeat (first | exact Drawn0.refl _ | apply Drawn0.step)⟩
            · replace c6 := Bool.eq_false_iff.mpr c6
              subst c6
              have H1 : (some false) = some r := by rw [if_neg (show ¬ (false = true) by decide)] at H; exact H
              clear H
              have H := H1
              clear H1
              obtain rfl := Option.some.inj H
              have p101 : 0 ≤ (x7_1 : Int) := of_decide_eq_true (by first | (with_reducible assumption) | assumption)
              have q101 : x7_1 < (l0.length : Int) := of_decide_eq_true (by first | (with_reducible assumption) | assumption)
              obtain ⟨ad101, e101, hx101_0⟩ := Kd.at_bool HR0.out x7_1 p101 q101
              (try rw [← Nbq5.out] at hx101_0)
              cases e101
              replace p101 := eq_true p101
              replace q101 := eq_true q101
              go_wp2
              all_goals (first | (go_ret; exact ⟨by first | rfl | (simp; done) | (simp [*]; done) | (simp_all; done), by repeat (first | exact Drawn0.refl _ | apply Drawn0.step)⟩) | (exfalso; simp_all; done))
          · rw [if_neg c4] at H
            exact absurd H (by simp)
        · rw [if_neg c3] at H
          exact absurd H (by simp)
      · rw [if_neg c2] at H
        have c2b0 : decide (x7_1 < (l0.length : Int)) = false := decide_eq_false c2
        clear c2
        obtain rfl := Option.some.inj H
        go_wp2
        all_goals (first | (go_ret; exact ⟨by first | rfl | (simp; done) | (simp [*]; done) | (simp_all; done), by repeat (first | exact Drawn0.refl _ | apply Drawn0.step)⟩) | (exfalso; simp_all; done))
def eid_isDtn.f (k : Nat) (a0_0 : Int) (a0_1 : ByteArray) (a0_2 : ByteArray) (a0_3 : Int) (a0_4 : Int) : Option (Bool) := (eid_isPart.f a0_1 (⟨#[45, 46]⟩ : ByteArray)).bind fun t103 => ((eid_isPart.f a0_2 (⟨#[45, 46, 47]⟩ : ByteArray)).bind fun t104 => ((eid_areAll.f k (([(a0_1.toList != ([] : List UInt8)), t103, t104, (a0_3 == 0), (a0_4 == 0)] : List Bool))).bind fun t108 => (some t108)))
theorem eid_isDtn.mono : ∀ a0 a1 a2 a3 a4 k, LeO (eid_isDtn.f k a0 a1 a2 a3 a4) (eid_isDtn.f (k + 1) a0 a1 a2 a3 a4) := by
  intro a0 a1 a2 a3 a4 k
  unfold eid_isDtn.f
  repeat' first
      | (with_reducible exact eid_areAll.mono _ _)
      | (with_reducible exact LeO.refl _)
      | (with_reducible exact LeO.none _)
      | (with_reducible refine LeO.ite ?_ ?_)
      | (with_reducible refine LeO.bind ?_ (fun _ => ?_))
      | exact eid_areAll.mono _ _
      | exact LeO.none _
      | refine LeO.ite ?_ ?_
      | refine LeO.bind ?_ (fun _ => ?_)
def eid_isDtn.T1 : Bool × List (List Nat × List Nat) := (true, [([], []), ([0], [0]), ([1], [1]), ([], []), ([3], [3]), ([4], [4]), ([], []), ([6], [6]), ([7, 5], [7]), ([], []), ([9], [9]), ([10], [10]), ([], []), ([12], [12]), ([13], [13]), ([2, 5, 8, 11, 14], [2, 5, 8, 11, 14]), ([15, 8], [15]), ([16, 16, 0, 1, 2, 3, 4, 5, 6, 7, 8, 9, 10, 11, 12, 13, 14, 15, 16], [16])])
def eid_isDtn.B1 : List Nat := [0, 1, 3, 0, 8, 24, 0, 64, 248, 0, 512, 1536, 0, 4096, 12288, 32767, 65535, 131071]
theorem eid_isDtn.tab1 : rtab .any (opsOf Tryz.f53 1) = eid_isDtn.T1 := by kernel_rfl
theorem eid_isDtn.bits1 : waitsOk eid_isDtn.T1.2 eid_isDtn.B1 = true := by kernel_rfl
set_option maxHeartbeats 8000000 in
set_option maxRecDepth 100000 in
theorem eid_isDtn.calls (k : Nat) (a0_0 : Int) (a0_1 : ByteArray) (a0_2 : ByteArray) (a0_3 : Int) (a0_4 : Int) (r : Bool) (w : World) (h : eid_isDtn.f k a0_0 a0_1 a0_2 a0_3 a0_4 = some r) :
    Calls Tryz.prog 53 #[.agg #[.int .i64 a0_0, .string a0_1, .string a0_2, .int .i64 a0_3, .int .i64 a0_4]] w fun e w' => e = .returned (.bool r) ∧ Below w.heap.size w w' := by
  have hu41 := Tryz.underlying41
  have HB := Aside0.mk (Below.refl w.heap.size w)
  have H : ((eid_isPart.f a0_1 (⟨#[45, 46]⟩ : ByteArray)).bind fun t103 => ((eid_isPart.f a0_2 (⟨#[45, 46, 47]⟩ : ByteArray)).bind fun t104 => ((eid_areAll.f k (([(a0_1.toList != ([] : List UInt8)), t103, t104, (a0_3 == 0), (a0_4 == 0)] : List Bool))).bind fun t108 => (some t108)))) = some r := h
  clear h
  replace H := Option.bind_eq_some_iff.mp H
  obtain ⟨t103, A20, H⟩ := H
  replace H : ((eid_isPart.f a0_2 (⟨#[45, 46, 47]⟩ : ByteArray)).bind fun t104 => ((eid_areAll.f k (([(a0_1.toList != ([] : List UInt8)), t103, t104, (a0_3 == 0), (a0_4 == 0)] : List Bool))).bind fun t108 => (some t108))) = some r := H
  have A2 := Aside0.mk A20
  clear A20
  replace H := Option.bind_eq_some_iff.mp H
  obtain ⟨t104, A30, H⟩ := H
  replace H : ((eid_areAll.f k (([(a0_1.toList != ([] : List UInt8)), t103, t104, (a0_3 == 0), (a0_4 == 0)] : List Bool))).bind fun t108 => (some t108)) = some r := H
  have A3 := Aside0.mk A30
  clear A30
  obtain ⟨y105, hy105⟩ : ∃ y_ : List Bool, y_ = (([(a0_1.toList != ([] : List UInt8)), t103, t104, (a0_3 == 0), (a0_4 == 0)] : List Bool)) := ⟨_, rfl⟩
  replace H : ((eid_areAll.f k y105).bind fun t108 => (some t108)) = some r := by first | (rw [hy105]; with_reducible exact H) | (have H2_ := (Option.bind_some _ _).symm.trans H; rw [hy105]; with_reducible exact H2_) | (have H2_ := (Option.bind_some _ _).symm.trans H; with_reducible exact H2_) | with_reducible exact H | (rw [hy105]; exact H) | exact H
  have Ny105 := Aside0.mk hy105
  clear hy105
  replace H := Option.bind_eq_some_iff.mp H
  obtain ⟨t108, A40, H⟩ := H
  replace H : (some t108) = some r := H
  have A4 := Aside0.mk A40
  clear A40
  obtain rfl := Option.some.inj H
  go_enter Tryz.func53, Tryz.ntmps53
  try go_wp2_with (first | ((with_reducible refine gate_dst (N := 1) rfl ?_); refine box_event ?hg (N := 1) ?hd (cs := #[.int .i64 a0_0, .string a0_1, .string a0_2, .int .i64 a0_3, .int .i64 a0_4]) (t := 41) ?hr ?_; (case hd => rfl); (case hg => rfl); (case hr => first | (go_simp; done) | (go_simp; rfl) | (go_simp; simp only [isEmpty_ne, isEmpty_eq]; done) | (go_simp; simp only [isEmpty_ne, isEmpty_eq]; rfl)); intro gb102 hg w5 hbox hb; have n0_ := Aside0.mk (below_step (by repeat (first | (with_reducible first | exact HB.out | apply below_alloc | apply pw_below_drewN | apply below_drew1) | exact HB.out)) hb); have n1_ := Aside0.mk (hbox); have n2_ := Aside0.mk ((by rw [hg]; exact (below_size (by repeat (first | (with_reducible first | exact HB.out | apply below_alloc | apply pw_below_drewN | apply below_drew1) | exact HB.out))) : w.heap.size ≤ gb102)); have n3_ := Aside0.mk ((by rw [hg]; exact (below_size (by repeat (first | (with_reducible first | exact HB.out | apply below_alloc | apply pw_below_drewN | apply below_drew1) | exact HB.out))) : w.heap.size ≤ gb102)); clear HB; have HB := n0_; have BK102 := n1_; have GW102 := n2_; have GE102 := n3_; clear n0_ n1_ n2_ n3_; clear hb hbox hg))
  have n0_ := Aside0.mk (blk_drew BK102.out)
  have n1_ := Aside0.mk (below_drew1 HB.out)
  clear BK102
  clear HB
  have BK102 := n0_
  have HB := n1_
  clear n0_ n1_
  refine start_ (n := 18) (S := fun w' => w'.cell? ⟨gb102, 0, none⟩ = some (.int .i64 a0_0) ∧ w'.cell? ⟨gb102, 1, none⟩ = some (.string a0_1) ∧ w'.cell? ⟨gb102, 2, none⟩ = some (.string a0_2) ∧ w'.cell? ⟨gb102, 3, none⟩ = some (.int .i64 a0_3) ∧ w'.cell? ⟨gb102, 4, none⟩ = some (.int .i64 a0_4)) (ds := []) #[false, false, false, false, false, false, false, false, false, false, false, false, false, false, false, false, false, false] (by kernel_rfl) rfl rfl ⟨(blk_cell BK102.out 0).trans rfl, (blk_cell BK102.out 1).trans rfl, (blk_cell BK102.out 2).trans rfl, (blk_cell BK102.out 3).trans rfl, (blk_cell BK102.out 4).trans rfl⟩ (fun hHeld => ?_); refine with_tabW eid_isDtn.tab1 eid_isDtn.bits1 (fun HT_ HW_ => ?_)
  generalize w5.drew = w6 at BK102 HB hHeld ⊢
  refine pure_ (i := 0) (N := some 3) (v := ?_) (a' := ?_) #[true, false, false, false, false, false, false, false, false, false, false, false, false, false, false, false, false, false] rfl rfl (any_of HT_.out (by kernel_rfl)) (fun _ _ _ h => h) (Or.inl ⟨by rfl, ?_⟩) ?_ ?_
  rotate_left
  · intro w'
    go_simp
    with_reducible rfl
  rotate_left
  · simp only [Act.put, List.setIfInBounds_toArray, List.set_cons_zero, List.set_cons_succ, i64_w, i32_w]
    rfl
  refine pure_ (i := 3) (N := some 6) (v := ?_) (a' := ?_) #[true, false, false, true, false, false, false, false, false, false, false, false, false, false, false, false, false, false] rfl rfl (any_of HT_.out (by kernel_rfl)) (fun _ _ _ h => h) (Or.inl ⟨by rfl, ?_⟩) ?_ ?_
  rotate_left
  · intro w'
    go_simp
    with_reducible rfl
  rotate_left
  · simp only [Act.put, List.setIfInBounds_toArray, List.set_cons_zero, List.set_cons_succ, i64_w, i32_w]
    rfl
  refine pure_ (i := 6) (N := some 9) (v := ?_) (a' := ?_) #[true, false, false, true, false, false, true, false, false, false, false, false, false, false, false, false, false, false] rfl rfl (any_of HT_.out (by kernel_rfl)) (fun _ _ _ h => h) (Or.inl ⟨by rfl, ?_⟩) ?_ ?_
  rotate_left
  · intro w'
    go_simp
    with_reducible rfl
  rotate_left
  · simp only [Act.put, List.setIfInBounds_toArray, List.set_cons_zero, List.set_cons_succ, i64_w, i32_w]
    rfl
  refine pure_ (i := 9) (N := some 12) (v := ?_) (a' := ?_) #[true, false, false, true, false, false, true, false, false, true, false, false, false, false, false, false, false, false] rfl rfl (any_of HT_.out (by kernel_rfl)) (fun _ _ _ h => h) (Or.inl ⟨by rfl, ?_⟩) ?_ ?_
  rotate_left
  · intro w'
    go_simp
    with_reducible rfl
  rotate_left
  · simp only [Act.put, List.setIfInBounds_toArray, List.set_cons_zero, List.set_cons_succ, i64_w, i32_w]
    rfl
  refine pure_ (i := 12) (N := some 15) (v := ?_) (a' := ?_) #[true, false, false, true, false, false, true, false, false, true, false, false, true, false, false, false, false, false] rfl rfl (any_of HT_.out (by kernel_rfl)) (fun _ _ _ h => h) (Or.inl ⟨by rfl, ?_⟩) ?_ ?_
  rotate_left
  · intro w'
    go_simp
    with_reducible rfl
  rotate_left
  · simp only [Act.put, List.setIfInBounds_toArray, List.set_cons_zero, List.set_cons_succ, i64_w, i32_w]
    rfl
  refine take_ (i := 1) (N := some 4) (v := ?_) (a' := ?_) #[true, true, false, true, false, false, true, false, false, true, false, false, true, false, false, false, false, false] rfl rfl (take_ofW HT_.out HW_.out (by kernel_rfl)) (fun _ _ _ h => h) (Or.inl ⟨by rfl, ?_⟩) hHeld ?_ ?_
  rotate_left
  · rintro w' ⟨s0, s1, s2, s3, s4⟩
    go_simp
    with_reducible rfl
  rotate_left
  · simp only [Act.put, List.setIfInBounds_toArray, List.set_cons_zero, List.set_cons_succ, i64_w, i32_w]
    rfl
  refine pure_ (i := 2) (N := some 5) (v := ?_) (a' := ?_) #[true, true, true, true, false, false, true, false, false, true, false, false, true, false, false, false, false, false] rfl rfl (any_of HT_.out (by kernel_rfl)) (fun _ _ _ h => h) (Or.inl ⟨by rfl, ?_⟩) ?_ ?_
  rotate_left
  · intro w'
    go_simp
    with_reducible rfl
  rotate_left
  · simp only [Act.put, List.setIfInBounds_toArray, List.set_cons_zero, List.set_cons_succ, i64_w, i32_w]
    rfl
  refine take_ (i := 4) (N := some 7) (v := ?_) (a' := ?_) #[true, true, true, true, true, false, true, false, false, true, false, false, true, false, false, false, false, false] rfl rfl (take_ofW HT_.out HW_.out (by kernel_rfl)) (fun _ _ _ h => h) (Or.inl ⟨by rfl, ?_⟩) hHeld ?_ ?_
  rotate_left
  · rintro w' ⟨s0, s1, s2, s3, s4⟩
    go_simp
    with_reducible rfl
  rotate_left
  · simp only [Act.put, List.setIfInBounds_toArray, List.set_cons_zero, List.set_cons_succ, i64_w, i32_w]
    rfl
  refine take_ (i := 7) (N := some 10) (v := ?_) (a' := ?_) #[true, true, true, true, true, false, true, true, false, true, false, false, true, false, false, false, false, false] rfl rfl (take_ofW HT_.out HW_.out (by kernel_rfl)) (fun _ _ _ h => h) (Or.inl ⟨by rfl, ?_⟩) hHeld ?_ ?_
  rotate_left
  · rintro w' ⟨s0, s1, s2, s3, s4⟩
    go_simp
    with_reducible rfl
  rotate_left
  · simp only [Act.put, List.setIfInBounds_toArray, List.set_cons_zero, List.set_cons_succ, i64_w, i32_w]
    rfl
  refine take_ (i := 10) (N := some 13) (v := ?_) (a' := ?_) #[true, true, true, true, true, false, true, true, false, true, true, false, true, false, false, false, false, false] rfl rfl (take_ofW HT_.out HW_.out (by kernel_rfl)) (fun _ _ _ h => h) (Or.inl ⟨by rfl, ?_⟩) hHeld ?_ ?_
  rotate_left
  · rintro w' ⟨s0, s1, s2, s3, s4⟩
    go_simp
    with_reducible rfl
  rotate_left
  · simp only [Act.put, List.setIfInBounds_toArray, List.set_cons_zero, List.set_cons_succ, i64_w, i32_w]
    rfl
  refine pure_ (i := 11) (N := some 14) (v := ?_) (a' := ?_) #[true, true, true, true, true, false, true, true, false, true, true, true, true, false, false, false, false, false] rfl rfl (any_of HT_.out (by kernel_rfl)) (fun _ _ _ h => h) (Or.inl ⟨by rfl, ?_⟩) ?_ ?_
  rotate_left
  · intro w'
    go_simp
    with_reducible rfl
  rotate_left
  · simp only [Act.put, List.setIfInBounds_toArray, List.set_cons_zero, List.set_cons_succ, i64_w, i32_w]
    rfl
  refine take_ (i := 13) (N := some 16) (v := ?_) (a' := ?_) #[true, true, true, true, true, false, true, true, false, true, true, true, true, true, false, false, false, false] rfl rfl (take_ofW HT_.out HW_.out (by kernel_rfl)) (fun _ _ _ h => h) (Or.inl ⟨by rfl, ?_⟩) hHeld ?_ ?_
  rotate_left
  · rintro w' ⟨s0, s1, s2, s3, s4⟩
    go_simp
    with_reducible rfl
  rotate_left
  · simp only [Act.put, List.setIfInBounds_toArray, List.set_cons_zero, List.set_cons_succ, i64_w, i32_w]
    rfl
  refine pure_ (i := 14) (N := some 17) (v := ?_) (a' := ?_) #[true, true, true, true, true, false, true, true, false, true, true, true, true, true, true, false, false, false] rfl rfl (any_of HT_.out (by kernel_rfl)) (fun _ _ _ h => h) (Or.inl ⟨by rfl, ?_⟩) ?_ ?_
  rotate_left
  · intro w'
    go_simp
    with_reducible rfl
  rotate_left
  · simp only [Act.put, List.setIfInBounds_toArray, List.set_cons_zero, List.set_cons_succ, i64_w, i32_w]
    rfl
  refine one_ (i := 5) (N := some 8) #[true, true, true, true, true, true, true, true, false, true, true, true, true, true, true, false, false, false] rfl rfl (one_of HT_.out (by kernel_rfl)) (by decide) (fun K hK => ?_)
  refine goes_ Tryz.func68 (by kernel_rfl) rfl #[.string a0_1, .string (⟨#[45, 46]⟩ : ByteArray)] (by rfl) rfl rfl (by (try simp only [List.map_toArray, List.map_cons, List.map_nil]); first | done | rfl | (simp only [List.length_drop, List.length_take]; rfl)) ?_
  with_reducible refine (eid_isPart.calls a0_1 (⟨#[45, 46]⟩ : ByteArray) t103 _ A2.out).mono ?_
  rintro e w7 ⟨rfl, hb⟩
  refine ⟨_, rfl, ?_⟩
  have n0_ := Aside0.mk (blk_below (g := gb102) (o := .cells #[.int .i64 a0_0, .string a0_1, .string a0_2, .int .i64 a0_3, .int .i64 a0_4] 41 (0, 0)) (by (with_reducible repeat (first | refine blk_drewN ?_ _ | refine blk_drew ?_ | refine blk_alloc ?_ _)); exact BK102.out) hb)
  have n1_ := Aside0.mk (below_step (by repeat (first | (with_reducible first | exact HB.out | apply below_alloc | apply pw_below_drewN | apply below_drew1 | refine below_set ?_ GE102.out) | exact HB.out)) hb)
  clear BK102
  clear HB
  have BK102 := n0_
  have HB := n1_
  clear n0_ n1_
  (try clear hb)
  (try clear hb2)
  (try clear hk)
  (try clear hi)
  refine hK.out _ _ ⟨(blk_cell BK102.out 0).trans rfl, (blk_cell BK102.out 1).trans rfl, (blk_cell BK102.out 2).trans rfl, (blk_cell BK102.out 3).trans rfl, (blk_cell BK102.out 4).trans rfl⟩ (fun hHeld => ?_)
  clear hK K
  refine norm_ (a' := ?_) ?_ ?_
  rotate_left
  · show Act.put _ (some 8) _ = _
    simp only [Act.put, List.setIfInBounds_toArray, List.set_cons_zero, List.set_cons_succ, i64_w, i32_w]
    rfl
  refine one_ (i := 8) (N := some 11) #[true, true, true, true, true, true, true, true, true, true, true, true, true, true, true, false, false, false] rfl rfl (one_of HT_.out (by kernel_rfl)) (by decide) (fun K hK => ?_)
  refine goes_ Tryz.func68 (by kernel_rfl) rfl #[.string a0_2, .string (⟨#[45, 46, 47]⟩ : ByteArray)] (by rfl) rfl rfl (by (try simp only [List.map_toArray, List.map_cons, List.map_nil]); first | done | rfl | (simp only [List.length_drop, List.length_take]; rfl)) ?_
  with_reducible refine (eid_isPart.calls a0_2 (⟨#[45, 46, 47]⟩ : ByteArray) t104 _ A3.out).mono ?_
  rintro e w8 ⟨rfl, hb⟩
  refine ⟨_, rfl, ?_⟩
  have n0_ := Aside0.mk (blk_below (g := gb102) (o := .cells #[.int .i64 a0_0, .string a0_1, .string a0_2, .int .i64 a0_3, .int .i64 a0_4] 41 (0, 0)) (by (with_reducible repeat (first | refine blk_drewN ?_ _ | refine blk_drew ?_ | refine blk_alloc ?_ _)); exact BK102.out) hb)
  have n1_ := Aside0.mk (below_step (by repeat (first | (with_reducible first | exact HB.out | apply below_alloc | apply pw_below_drewN | apply below_drew1 | refine below_set ?_ GE102.out) | exact HB.out)) hb)
  clear BK102
  clear HB
  have BK102 := n0_
  have HB := n1_
  clear n0_ n1_
  (try clear hb)
  (try clear hb2)
  (try clear hk)
  (try clear hi)
  refine hK.out _ _ ⟨(blk_cell BK102.out 0).trans rfl, (blk_cell BK102.out 1).trans rfl, (blk_cell BK102.out 2).trans rfl, (blk_cell BK102.out 3).trans rfl, (blk_cell BK102.out 4).trans rfl⟩ (fun hHeld => ?_)
  clear hK K
  refine norm_ (a' := ?_) ?_ ?_
  rotate_left
  · show Act.put _ (some 11) _ = _
    simp only [Act.put, List.setIfInBounds_toArray, List.set_cons_zero, List.set_cons_succ, i64_w, i32_w]
    rfl
  refine one_ (i := 15) (N := some 18) #[true, true, true, true, true, true, true, true, true, true, true, true, true, true, true, true, false, false] rfl rfl (one_of HT_.out (by kernel_rfl)) (by decide) (fun K hK => ?_)
  refine Kd.R_lit_step Kd.bool _ 4 ?hg (N := 18) ?hd (xs := ([(a0_1.toList != ([] : List UInt8)), t103, t104, (a0_3 == 0), (a0_4 == 0)] : List Bool)) (inner := [.bool (a0_1.toList != ([] : List UInt8)), .bool t103, .bool t104, .bool (a0_3 == 0), .bool (a0_4 == 0)]) (ok := fun _ => True) (okp := fun _ => True) ?hr ?hp (fun _ hk => hk) trivial (Below.refl _ _) (Nat.le_refl _) (by simp) ?_; (case hd => rfl); (case hg => rfl); (case hr => first | (go_simp; done) | (go_simp; rfl) | (go_simp; simp only [isEmpty_ne, isEmpty_eq]; done) | (go_simp; simp only [isEmpty_ne, isEmpty_eq]; rfl)); (case hp => exact (Reps.one (show Kd.M Kd.bool _ _ _ (a0_1.toList != ([] : List UInt8)) [.bool (a0_1.toList != ([] : List UInt8))] from rfl) (Reps.one (show Kd.M Kd.bool _ _ _ t103 [.bool t103] from rfl) (Reps.one (show Kd.M Kd.bool _ _ _ t104 [.bool t104] from rfl) (Reps.one (show Kd.M Kd.bool _ _ _ (a0_3 == 0) [.bool (a0_3 == 0)] from rfl) (Reps.one (show Kd.M Kd.bool _ _ _ (a0_4 == 0) [.bool (a0_4 == 0)] from rfl) (Reps.none _ _)))))))
  intro v106 w9 ho10 hb hg_ hnew_
  clear hg_ hnew_
  (first | rw [← Ny105.out] at ho10 | (simp only [Int.reduceToNat] at ho10; rw [← Ny105.out] at ho10))
  have n0_ := Aside0.mk (Kd.R_lower ho10 (below_size (by repeat (first | (with_reducible first | exact HB.out | apply below_alloc | apply pw_below_drewN | apply below_drew1 | refine below_set ?_ GE102.out) | exact HB.out))))
  have n1_ := Aside0.mk (blk_below (g := gb102) (o := .cells #[.int .i64 a0_0, .string a0_1, .string a0_2, .int .i64 a0_3, .int .i64 a0_4] 41 (0, 0)) (by (with_reducible repeat (first | refine blk_drewN ?_ _ | refine blk_drew ?_ | refine blk_alloc ?_ _)); exact BK102.out) hb)
  have n2_ := Aside0.mk (below_step (by repeat (first | (with_reducible first | exact HB.out | apply below_alloc | apply pw_below_drewN | apply below_drew1 | refine below_set ?_ GE102.out) | exact HB.out)) hb)
  clear BK102
  clear HB
  have HO107 := n0_
  have BK102 := n1_
  have HB := n2_
  clear n0_ n1_ n2_
  clear hb ho10
  obtain ⟨Ao11, co11, eo11⟩ := Kd.R_slice HO107.out
  (first | subst eo11 | (injection eo11 with f1_ f2_ f3_; have f4_ := f1_.symm; have f5_ := f3_.symm; clear f1_ f2_ f3_; subst f4_; subst f5_))
  refine hK.out _ _ ⟨(blk_cell BK102.out 0).trans rfl, (blk_cell BK102.out 1).trans rfl, (blk_cell BK102.out 2).trans rfl, (blk_cell BK102.out 3).trans rfl, (blk_cell BK102.out 4).trans rfl⟩ (fun hHeld => ?_)
  clear hK K
  refine norm_ (a' := ?_) ?_ ?_
  rotate_left
  · show Act.put _ (some 18) _ = _
    simp only [Act.put, List.setIfInBounds_toArray, List.set_cons_zero, List.set_cons_succ, i64_w, i32_w]
    rfl
  refine one_ (i := 16) (N := some 19) #[true, true, true, true, true, true, true, true, true, true, true, true, true, true, true, true, true, false] rfl rfl (one_of HT_.out (by kernel_rfl)) (by decide) (fun K hK => ?_)
  refine goes_ Tryz.func65 (by kernel_rfl) rfl #[.slice Ao11 y105.length co11] (by rfl) rfl rfl (by (try simp only [List.map_toArray, List.map_cons, List.map_nil]); first | done | rfl | (simp only [List.length_drop, List.length_take]; rfl)) ?_
  with_reducible refine (eid_areAll.calls k _ _ y105 t108 _ ?side1 ?side2 A4.out).mono ?_
  (case side1 => repeat (first | exact (Kd.R_reads' HO107.out).2.2 | (with_reducible refine Kd.C_alloc ?_ _) | (with_reducible refine Kd.C_drewN ?_ _) | (with_reducible refine Kd.C_drew ?_)))
  (case side2 => exact (Kd.R_reads' HO107.out).2.1)
  rintro e w' ⟨rfl, ⟨nd, rfl⟩⟩
  refine ⟨_, rfl, ?_⟩
  refine hK.out _ _ ⟨(blk_cell BK102.out 0).trans rfl, (blk_cell BK102.out 1).trans rfl, (blk_cell BK102.out 2).trans rfl, (blk_cell BK102.out 3).trans rfl, (blk_cell BK102.out 4).trans rfl⟩ (fun hHeld => ?_)
  clear hK K
  refine norm_ (a' := ?_) ?_ ?_
  rotate_left
  · show Act.put _ (some 19) _ = _
    simp only [Act.put, List.setIfInBounds_toArray, List.set_cons_zero, List.set_cons_succ, i64_w, i32_w]
    rfl
  refine pure_ (i := 17) (N := some 2) (v := ?_) (a' := ?_) #[true, true, true, true, true, true, true, true, true, true, true, true, true, true, true, true, true, true] rfl rfl (any_of HT_.out (by kernel_rfl)) (fun _ _ _ h => h) (Or.inl ⟨by rfl, ?_⟩) ?_ ?_
  rotate_left
  · intro w'
    go_simp
    with_reducible rfl
  rotate_left
  · simp only [Act.put, List.setIfInBounds_toArray, List.set_cons_zero, List.set_cons_succ, i64_w, i32_w]
    rfl
  refine done_ (done_of HT_.out (by kernel_rfl)) ?_
  try go_wp2
  all_goals (first | (go_ret; exact ⟨by first | rfl | (simp [errW_none, errW_some] <;> rfl) | (simp [*, errW_none, errW_some] <;> rfl) | (simp_all; done), by repeat (first | (with_reducible first | exact HB.out | apply below_alloc | apply pw_below_drewN | apply below_drew1 | refine below_set ?_ GE102.out) | exact HB.out)⟩) | (exfalso; simp_all; done))
def eid_isIpn.f (k : Nat) (a0_0 : Int) (a0_1 : ByteArray) (a0_2 : ByteArray) (a0_3 : Int) (a0_4 : Int) : Option (Bool) := (eid_areAll.f k (([(a0_1.toList == ([] : List UInt8)), (a0_2.toList == ([] : List UInt8)), decide (a0_3 ≥ 1), decide (a0_3 ≤ 999999999), decide (a0_4 ≥ 0), decide (a0_4 ≤ 999999999)] : List Bool))).bind fun t113 => (some t113)
theorem eid_isIpn.mono : ∀ a0 a1 a2 a3 a4 k, LeO (eid_isIpn.f k a0 a1 a2 a3 a4) (eid_isIpn.f (k + 1) a0 a1 a2 a3 a4) := by
  intro a0 a1 a2 a3 a4 k
  unfold eid_isIpn.f
  repeat' first
      | (with_reducible exact eid_areAll.mono _ _)
      | (with_reducible exact LeO.refl _)
      | (with_reducible exact LeO.none _)
      | (with_reducible refine LeO.ite ?_ ?_)
      | (with_reducible refine LeO.bind ?_ (fun _ => ?_))
      | exact eid_areAll.mono _ _
      | exact LeO.none _
      | refine LeO.ite ?_ ?_
      | refine LeO.bind ?_ (fun _ => ?_)
set_option maxHeartbeats 8000000 in
set_option maxRecDepth 100000 in
theorem eid_isIpn.calls (k : Nat) (a0_0 : Int) (a0_1 : ByteArray) (a0_2 : ByteArray) (a0_3 : Int) (a0_4 : Int) (r : Bool) (w : World) (h : eid_isIpn.f k a0_0 a0_1 a0_2 a0_3 a0_4 = some r) :
    Calls Tryz.prog 56 #[.agg #[.int .i64 a0_0, .string a0_1, .string a0_2, .int .i64 a0_3, .int .i64 a0_4]] w fun e w' => e = .returned (.bool r) ∧ Below w.heap.size w w' := by
  have hu41 := Tryz.underlying41
  have HB := Aside0.mk (Below.refl w.heap.size w)
  have H : ((eid_areAll.f k (([(a0_1.toList == ([] : List UInt8)), (a0_2.toList == ([] : List UInt8)), decide (a0_3 ≥ 1), decide (a0_3 ≤ 999999999), decide (a0_4 ≥ 0), decide (a0_4 ≤ 999999999)] : List Bool))).bind fun t113 => (some t113)) = some r := h
  clear h
  obtain ⟨y110, hy110⟩ : ∃ y_ : List Bool, y_ = (([(a0_1.toList == ([] : List UInt8)), (a0_2.toList == ([] : List UInt8)), decide (a0_3 ≥ 1), decide (a0_3 ≤ 999999999), decide (a0_4 ≥ 0), decide (a0_4 ≤ 999999999)] : List Bool)) := ⟨_, rfl⟩
  replace H : ((eid_areAll.f k y110).bind fun t113 => (some t113)) = some r := by first | (rw [hy110]; with_reducible exact H) | (have H2_ := (Option.bind_some _ _).symm.trans H; rw [hy110]; with_reducible exact H2_) | (have H2_ := (Option.bind_some _ _).symm.trans H; with_reducible exact H2_) | with_reducible exact H | (rw [hy110]; exact H) | exact H
  have Ny110 := Aside0.mk hy110
  clear hy110
  replace H := Option.bind_eq_some_iff.mp H
  obtain ⟨t113, A20, H⟩ := H
  replace H : (some t113) = some r := H
  have A2 := Aside0.mk A20
  clear A20
  obtain rfl := Option.some.inj H
  go_enter Tryz.func56, Tryz.ntmps56
  go_wp2_with (first | ((with_reducible refine gate_dst (N := 1) rfl ?_); refine box_event ?hg (N := 1) ?hd (cs := #[.int .i64 a0_0, .string a0_1, .string a0_2, .int .i64 a0_3, .int .i64 a0_4]) (t := 41) ?hr ?_; (case hd => rfl); (case hg => rfl); (case hr => first | (go_simp; done) | (go_simp; rfl) | (go_simp; simp only [isEmpty_ne, isEmpty_eq]; done) | (go_simp; simp only [isEmpty_ne, isEmpty_eq]; rfl)); intro gb109 hg w3 hbox hb; have n0_ := Aside0.mk (below_step (by repeat (first | (with_reducible first | exact HB.out | apply below_alloc | apply pw_below_drewN | apply below_drew1) | exact HB.out)) hb); have n1_ := Aside0.mk (hbox); have n2_ := Aside0.mk ((by rw [hg]; exact (below_size (by repeat (first | (with_reducible first | exact HB.out | apply below_alloc | apply pw_below_drewN | apply below_drew1) | exact HB.out))) : w.heap.size ≤ gb109)); have n3_ := Aside0.mk ((by rw [hg]; exact (below_size (by repeat (first | (with_reducible first | exact HB.out | apply below_alloc | apply pw_below_drewN | apply below_drew1) | exact HB.out))) : w.heap.size ≤ gb109)); clear HB; have HB := n0_; have BK109 := n1_; have GW109 := n2_; have GE109 := n3_; clear n0_ n1_ n2_ n3_; clear hb hbox hg; have hcz4_0 : w3.cell? ⟨gb109, 0, none⟩ = some (.int .i64 a0_0) := (blk_cell BK109.out 0).trans rfl; have hcz4_1 : w3.cell? ⟨gb109, 1, none⟩ = some (.string a0_1) := (blk_cell BK109.out 1).trans rfl; have hcz4_2 : w3.cell? ⟨gb109, 2, none⟩ = some (.string a0_2) := (blk_cell BK109.out 2).trans rfl; have hcz4_3 : w3.cell? ⟨gb109, 3, none⟩ = some (.int .i64 a0_3) := (blk_cell BK109.out 3).trans rfl; have hcz4_4 : w3.cell? ⟨gb109, 4, none⟩ = some (.int .i64 a0_4) := (blk_cell BK109.out 4).trans rfl; have hfz4_0 := blk_frozen BK109.out 0; have hfz4_1 := blk_frozen BK109.out 1; have hfz4_2 := blk_frozen BK109.out 2; have hfz4_3 := blk_frozen BK109.out 3; have hfz4_4 := blk_frozen BK109.out 4) | ((with_reducible refine gate_dst (N := 21) rfl ?_); refine Kd.R_lit Kd.bool _ 4 ?hg (N := 21) ?hd (xs := ([(a0_1.toList == ([] : List UInt8)), (a0_2.toList == ([] : List UInt8)), decide (a0_3 ≥ 1), decide (a0_3 ≤ 999999999), decide (a0_4 ≥ 0), decide (a0_4 ≤ 999999999)] : List Bool)) (inner := [.bool (a0_1.toList == ([] : List UInt8)), .bool (a0_2.toList == ([] : List UInt8)), .bool (decide (a0_3 ≥ 1)), .bool (decide (a0_3 ≤ 999999999)), .bool (decide (a0_4 ≥ 0)), .bool (decide (a0_4 ≤ 999999999))]) (ok := fun _ => True) (okp := fun _ => True) ?hr ?hp (fun _ hk => hk) trivial (Below.refl _ _) (Nat.le_refl _) (by simp) ?_; (case hd => rfl); (case hg => rfl); (case hr => first | (go_simp; done) | (go_simp; rfl) | (go_simp; simp only [isEmpty_ne, isEmpty_eq]; done) | (go_simp; simp only [isEmpty_ne, isEmpty_eq]; rfl)); (case hp => exact (Reps.one (show Kd.M Kd.bool _ _ _ (a0_1.toList == ([] : List UInt8)) [.bool (a0_1.toList == ([] : List UInt8))] from rfl) (Reps.one (show Kd.M Kd.bool _ _ _ (a0_2.toList == ([] : List UInt8)) [.bool (a0_2.toList == ([] : List UInt8))] from rfl) (Reps.one (show Kd.M Kd.bool _ _ _ (decide (a0_3 ≥ 1)) [.bool (decide (a0_3 ≥ 1))] from rfl) (Reps.one (show Kd.M Kd.bool _ _ _ (decide (a0_3 ≤ 999999999)) [.bool (decide (a0_3 ≤ 999999999))] from rfl) (Reps.one (show Kd.M Kd.bool _ _ _ (decide (a0_4 ≥ 0)) [.bool (decide (a0_4 ≥ 0))] from rfl) (Reps.one (show Kd.M Kd.bool _ _ _ (decide (a0_4 ≤ 999999999)) [.bool (decide (a0_4 ≤ 999999999))] from rfl) (Reps.none _ _)))))))); intro v111 w5 ho6 hb hg_ hnew_; clear hg_ hnew_; (first | rw [← Ny110.out] at ho6 | (simp only [Int.reduceToNat] at ho6; rw [← Ny110.out] at ho6)); have n0_ := Aside0.mk (Kd.R_lower ho6 (below_size (by repeat (first | (with_reducible first | exact HB.out | apply below_alloc | apply pw_below_drewN | apply below_drew1 | refine below_set ?_ GE109.out) | exact HB.out)))); have n1_ := Aside0.mk (blk_below (g := gb109) (o := .cells #[.int .i64 a0_0, .string a0_1, .string a0_2, .int .i64 a0_3, .int .i64 a0_4] 41 (0, 0)) (by (with_reducible repeat (first | refine blk_drewN ?_ _ | refine blk_drew ?_ | refine blk_alloc ?_ _)); exact BK109.out) hb); have n2_ := Aside0.mk (below_step (by repeat (first | (with_reducible first | exact HB.out | apply below_alloc | apply pw_below_drewN | apply below_drew1 | refine below_set ?_ GE109.out) | exact HB.out)) hb); clear BK109; clear HB; have HO112 := n0_; have BK109 := n1_; have HB := n2_; clear n0_ n1_ n2_; clear hb ho6; obtain ⟨Ao7, co7, eo7⟩ := Kd.R_slice HO112.out; subst eo7) | ((with_reducible refine gate_callee (f := 65) rfl ?_); refine goesL_ (some 22) rfl rfl Tryz.func65 (by kernel_rfl) rfl #[.slice Ao7 y110.length co7] rfl (by (try simp only [List.map_toArray, List.map_cons, List.map_nil]); first | done | rfl | (simp only [List.length_drop, List.length_take]; rfl)) ?_; (with_reducible refine (eid_areAll.calls k _ _ y110 t113 _ ?side1 ?side2 A2.out).mono ?_); (case side1 => repeat (first | exact (Kd.R_reads' HO112.out).2.2 | (with_reducible refine Kd.C_alloc ?_ _) | (with_reducible refine Kd.C_drewN ?_ _) | (with_reducible refine Kd.C_drew ?_))); (case side2 => exact (Kd.R_reads' HO112.out).2.1); rintro e w' ⟨rfl, ⟨nd, rfl⟩⟩; refine ⟨_, rfl, ?_⟩))
  all_goals (first | (go_ret; exact ⟨by first | rfl | (simp [errW_none, errW_some] <;> rfl) | (simp [*, errW_none, errW_some] <;> rfl) | (simp_all; done), by repeat (first | (with_reducible first | exact HB.out | apply below_alloc | apply pw_below_drewN | apply below_drew1 | refine below_set ?_ GE109.out) | exact HB.out)⟩) | (exfalso; simp_all; done))
def eid_schemes_1.f (a0_0 : Int) (a0_1 : ByteArray) (a0_2 : ByteArray) (a0_3 : Int) (a0_4 : Int) : Option (Bool) := some (a0_0 == 0 && (a0_1.toList == ([] : List UInt8) && (a0_2.toList == ([] : List UInt8) && (a0_3 == 0 && (a0_4 == 0)))))
set_option maxHeartbeats 8000000 in
set_option maxRecDepth 100000 in
theorem eid_schemes_1.calls (a0_0 : Int) (a0_1 : ByteArray) (a0_2 : ByteArray) (a0_3 : Int) (a0_4 : Int) (r : Bool) (w : World) (h : eid_schemes_1.f a0_0 a0_1 a0_2 a0_3 a0_4 = some r) :
    Calls Tryz.prog 50 #[.agg #[.int .i64 a0_0, .string a0_1, .string a0_2, .int .i64 a0_3, .int .i64 a0_4]] w fun e w' => e = .returned (.bool r) ∧ Below w.heap.size w w' := by
  have hu41 := Tryz.underlying41
  have HB := Aside0.mk (Below.refl w.heap.size w)
  have H : (some (a0_0 == 0 && (a0_1.toList == ([] : List UInt8) && (a0_2.toList == ([] : List UInt8) && (a0_3 == 0 && (a0_4 == 0)))))) = some r := h
  clear h
  obtain rfl := Option.some.inj H
  go_enter Tryz.func50, Tryz.ntmps50
  go_wp2_with (first | ((with_reducible refine gate_dst (N := 1) rfl ?_); refine box_event ?hg (N := 1) ?hd (cs := #[.int .i64 a0_0, .string a0_1, .string a0_2, .int .i64 a0_3, .int .i64 a0_4]) (t := 41) ?hr ?_; (case hd => rfl); (case hg => rfl); (case hr => first | (go_simp; done) | (go_simp; rfl) | (go_simp; simp only [isEmpty_ne, isEmpty_eq]; done) | (go_simp; simp only [isEmpty_ne, isEmpty_eq]; rfl)); intro gb114 hg w2 hbox hb; have n0_ := Aside0.mk (below_step (by repeat (first | (with_reducible first | exact HB.out | apply below_alloc | apply pw_below_drewN | apply below_drew1) | exact HB.out)) hb); have n1_ := Aside0.mk (hbox); have n2_ := Aside0.mk ((by rw [hg]; exact (below_size (by repeat (first | (with_reducible first | exact HB.out | apply below_alloc | apply pw_below_drewN | apply below_drew1) | exact HB.out))) : w.heap.size ≤ gb114)); have n3_ := Aside0.mk ((by rw [hg]; exact (below_size (by repeat (first | (with_reducible first | exact HB.out | apply below_alloc | apply pw_below_drewN | apply below_drew1) | exact HB.out))) : w.heap.size ≤ gb114)); clear HB; have HB := n0_; have BK114 := n1_; have GW114 := n2_; have GE114 := n3_; clear n0_ n1_ n2_ n3_; clear hb hbox hg; have hcz3_0 : w2.cell? ⟨gb114, 0, none⟩ = some (.int .i64 a0_0) := (blk_cell BK114.out 0).trans rfl; have hcz3_1 : w2.cell? ⟨gb114, 1, none⟩ = some (.string a0_1) := (blk_cell BK114.out 1).trans rfl; have hcz3_2 : w2.cell? ⟨gb114, 2, none⟩ = some (.string a0_2) := (blk_cell BK114.out 2).trans rfl; have hcz3_3 : w2.cell? ⟨gb114, 3, none⟩ = some (.int .i64 a0_3) := (blk_cell BK114.out 3).trans rfl; have hcz3_4 : w2.cell? ⟨gb114, 4, none⟩ = some (.int .i64 a0_4) := (blk_cell BK114.out 4).trans rfl; have hfz3_0 := blk_frozen BK114.out 0; have hfz3_1 := blk_frozen BK114.out 1; have hfz3_2 := blk_frozen BK114.out 2; have hfz3_3 := blk_frozen BK114.out 3; have hfz3_4 := blk_frozen BK114.out 4))
  all_goals (first | (go_ret; exact ⟨by first | rfl | (simp [errW_none, errW_some] <;> rfl) | (simp [*, errW_none, errW_some] <;> rfl) | (simp_all; done), by repeat (first | (with_reducible first | exact HB.out | apply below_alloc | apply pw_below_drewN | apply below_drew1 | refine below_set ?_ GE114.out) | exact HB.out)⟩) | (exfalso; simp_all; done))
def eid_schemes_2.f (a0_0 : Int) (a0_1 : ByteArray) (a0_2 : ByteArray) (a0_3 : Int) (a0_4 : Int) : Option (ByteArray) := some (⟨#[110, 111, 110, 101]⟩ : ByteArray)
set_option maxHeartbeats 8000000 in
set_option maxRecDepth 100000 in
theorem eid_schemes_2.calls (a0_0 : Int) (a0_1 : ByteArray) (a0_2 : ByteArray) (a0_3 : Int) (a0_4 : Int) (r : ByteArray) (w : World) (h : eid_schemes_2.f a0_0 a0_1 a0_2 a0_3 a0_4 = some r) :
    Calls Tryz.prog 51 #[.agg #[.int .i64 a0_0, .string a0_1, .string a0_2, .int .i64 a0_3, .int .i64 a0_4]] w fun e w' => e = .returned (.string r) ∧ Below w.heap.size w w' := by
  have hu41 := Tryz.underlying41
  have HB := Aside0.mk (Below.refl w.heap.size w)
  have H : (some (⟨#[110, 111, 110, 101]⟩ : ByteArray)) = some r := h
  clear h
  obtain rfl := Option.some.inj H
  go_enter Tryz.func51, Tryz.ntmps51
  go_wp2_with (first | ((with_reducible refine gate_dst (N := 1) rfl ?_); refine box_event ?hg (N := 1) ?hd (cs := #[.int .i64 a0_0, .string a0_1, .string a0_2, .int .i64 a0_3, .int .i64 a0_4]) (t := 41) ?hr ?_; (case hd => rfl); (case hg => rfl); (case hr => first | (go_simp; done) | (go_simp; rfl) | (go_simp; simp only [isEmpty_ne, isEmpty_eq]; done) | (go_simp; simp only [isEmpty_ne, isEmpty_eq]; rfl)); intro gb115 hg w2 hbox hb; have n0_ := Aside0.mk (below_step (by repeat (first | (with_reducible first | exact HB.out | apply below_alloc | apply pw_below_drewN | apply below_drew1) | exact HB.out)) hb); have n1_ := Aside0.mk (hbox); have n2_ := Aside0.mk ((by rw [hg]; exact (below_size (by repeat (first | (with_reducible first | exact HB.out | apply below_alloc | apply pw_below_drewN | apply below_drew1) | exact HB.out))) : w.heap.size ≤ gb115)); have n3_ := Aside0.mk ((by rw [hg]; exact (below_size (by repeat (first | (with_reducible first | exact HB.out | apply below_alloc | apply pw_below_drewN | apply below_drew1) | exact HB.out))) : w.heap.size ≤ gb115)); clear HB; have HB := n0_; have BK115 := n1_; have GW115 := n2_; have GE115 := n3_; clear n0_ n1_ n2_ n3_; clear hb hbox hg))
  all_goals (first | (go_ret; exact ⟨by first | rfl | (simp [errW_none, errW_some] <;> rfl) | (simp [*, errW_none, errW_some] <;> rfl) | (simp_all; done), by repeat (first | (with_reducible first | exact HB.out | apply below_alloc | apply pw_below_drewN | apply below_drew1 | refine below_set ?_ GE115.out) | exact HB.out)⟩) | (exfalso; simp_all; done))
def postriderlaw06_Cut.f (a0_0 : Int) (a0_1 : ByteArray) (a0_2 : ByteArray) (a0_3 : Int) (a0_4 : Int) : Option (Int × ByteArray × ByteArray × Int × Int) := if 0 ≤ (mn (a0_1.size : Int) 21) then (if (mn (a0_1.size : Int) 21) ≤ (a0_1.size : Int) then (if 0 ≤ (mn (a0_2.size : Int) 21) then (if (mn (a0_2.size : Int) 21) ≤ (a0_2.size : Int) then (some (a0_0, a0_1.extract 0 ((mn (a0_1.size : Int) 21) : Int).toNat, a0_2.extract 0 ((mn (a0_2.size : Int) 21) : Int).toNat, a0_3, a0_4)) else (none)) else (none)) else (none)) else (none)
def postriderlaw06_Cut.T1 : Bool × List (List Nat × List Nat) := (true, [([], []), ([0], [0]), ([], []), ([2], [2]), ([], []), ([4], [4]), ([5], [5]), ([6], [6]), ([3, 7], [3, 7]), ([], []), ([9], [9]), ([], []), ([11], [11]), ([12], [12]), ([13], [13]), ([10, 14], [10, 14]), ([], []), ([16], [16]), ([], []), ([18], [18]), ([1, 8, 15, 17, 19], [1, 8, 15, 17, 19]), ([20, 0, 1, 2, 3, 4, 5, 6, 7, 8, 9, 10, 11, 12, 13, 14, 15, 16, 17, 18, 19, 20], [20])])
def postriderlaw06_Cut.B1 : List Nat := [0, 1, 0, 4, 0, 16, 48, 112, 252, 0, 512, 0, 2048, 6144, 14336, 32256, 0, 65536, 0, 262144, 1048575, 2097151]
theorem postriderlaw06_Cut.tab1 : rtab .any (opsOf Tryz.f21 1) = postriderlaw06_Cut.T1 := by kernel_rfl
theorem postriderlaw06_Cut.bits1 : waitsOk postriderlaw06_Cut.T1.2 postriderlaw06_Cut.B1 = true := by kernel_rfl
set_option maxHeartbeats 8000000 in
set_option maxRecDepth 100000 in
theorem postriderlaw06_Cut.calls (a0_0 : Int) (a0_1 : ByteArray) (a0_2 : ByteArray) (a0_3 : Int) (a0_4 : Int) (r1 : Int) (r2 : ByteArray) (r3 : ByteArray) (r4 : Int) (r5 : Int) (w : World) (h : postriderlaw06_Cut.f a0_0 a0_1 a0_2 a0_3 a0_4 = some (r1, r2, r3, r4, r5)) :
    Calls Tryz.prog 21 #[.agg #[.int .i64 a0_0, .string a0_1, .string a0_2, .int .i64 a0_3, .int .i64 a0_4]] w fun e w' => e = .returned (.agg #[.int .i64 r1, .string r2, .string r3, .int .i64 r4, .int .i64 r5]) ∧ Below w.heap.size w w' := by
  have hu41 := Tryz.underlying41
  have HB := Aside0.mk (Below.refl w.heap.size w)
  have H : (if 0 ≤ (mn (a0_1.size : Int) 21) then (if (mn (a0_1.size : Int) 21) ≤ (a0_1.size : Int) then (if 0 ≤ (mn (a0_2.size : Int) 21) then (if (mn (a0_2.size : Int) 21) ≤ (a0_2.size : Int) then (some (a0_0, a0_1.extract 0 ((mn (a0_1.size : Int) 21) : Int).toNat, a0_2.extract 0 ((mn (a0_2.size : Int) 21) : Int).toNat, a0_3, a0_4)) else (none)) else (none)) else (none)) else (none)) = some (r1, r2, r3, r4, r5) := h
  clear h
  obtain ⟨ji2, hji2⟩ : ∃ j_ : Int, (mn (a0_1.size : Int) 21) = j_ := ⟨_, rfl⟩
  replace H : (if 0 ≤ (ji2) then (if (ji2) ≤ (a0_1.size : Int) then (if 0 ≤ (mn (a0_2.size : Int) 21) then (if (mn (a0_2.size : Int) 21) ≤ (a0_2.size : Int) then (some (a0_0, a0_1.extract 0 ((ji2) : Int).toNat, a0_2.extract 0 ((mn (a0_2.size : Int) 21) : Int).toNat, a0_3, a0_4)) else (none)) else (none)) else (none)) else (none)) = some (r1, r2, r3, r4, r5) := by first | (rw [hji2] at H; exact H) | (simp only [hji2] at H ⊢; exact H)
  (try (have hji2h : ji2 ≤ 21 := by (rw [← hji2]; unfold mn; (repeat' split) <;> omega)))
  (try (have hji2g : ji2 ≤ 64 := by omega))
  (try (have hji2l : 0 ≤ ji2 := by (rw [← hji2]; unfold mn; (repeat' split) <;> omega)))
  (try (have hji2m : 0 ≤ ji2 := by omega))
  have hji2_ : (if 21 < (a0_1.size : Int) then 21 else (a0_1.size : Int)) = ji2 := hji2
  by_cases c3 : 0 ≤ (ji2)
  · rw [if_pos c3] at H
    have c3b0 := eq_true c3
    have c3b1 : decide (0 ≤ (ji2)) = true := decide_eq_true c3
    clear c3
    by_cases c4 : (ji2) ≤ (a0_1.size : Int)
    · rw [if_pos c4] at H
      have c4b0 := eq_true c4
      have c4b1 : decide ((ji2) ≤ (a0_1.size : Int)) = true := decide_eq_true c4
      clear c4
      obtain ⟨ji5, hji5⟩ : ∃ j_ : Int, (mn (a0_2.size : Int) 21) = j_ := ⟨_, rfl⟩
      replace H : (if 0 ≤ (ji5) then (if (ji5) ≤ (a0_2.size : Int) then (some (a0_0, a0_1.extract 0 ((ji2) : Int).toNat, a0_2.extract 0 ((ji5) : Int).toNat, a0_3, a0_4)) else (none)) else (none)) = some (r1, r2, r3, r4, r5) := by first | (rw [hji5] at H; exact H) | (simp only [hji5] at H ⊢; exact H)
      (try (have hji5h : ji5 ≤ 21 := by (rw [← hji5]; unfold mn; (repeat' split) <;> omega)))
      (try (have hji5g : ji5 ≤ 64 := by omega))
      (try (have hji5l : 0 ≤ ji5 := by (rw [← hji5]; unfold mn; (repeat' split) <;> omega)))
      (try (have hji5m : 0 ≤ ji5 := by omega))
      have hji5_ : (if 21 < (a0_2.size : Int) then 21 else (a0_2.size : Int)) = ji5 := hji5
      by_cases c6 : 0 ≤ (ji5)
      · rw [if_pos c6] at H
        have c6b0 := eq_true c6
        have c6b1 : decide (0 ≤ (ji5)) = true := decide_eq_true c6
        clear c6
        by_cases c7 : (ji5) ≤ (a0_2.size : Int)
        · rw [if_pos c7] at H
          have c7b0 := eq_true c7
          have c7b1 : decide ((ji5) ≤ (a0_2.size : Int)) = true := decide_eq_true c7
          clear c7
          simp only [Option.some.injEq, Prod.mk.injEq] at H
          obtain ⟨rfl, rfl, rfl, rfl, rfl⟩ := H
          go_enter Tryz.func21, Tryz.ntmps21
          try go_wp2_with (first | ((with_reducible refine gate_dst (N := 1) rfl ?_); refine box_event ?hg (N := 1) ?hd (cs := #[.int .i64 a0_0, .string a0_1, .string a0_2, .int .i64 a0_3, .int .i64 a0_4]) (t := 41) ?hr ?_; (case hd => rfl); (case hg => rfl); (case hr => first | (go_simp; done) | (go_simp; rfl) | (go_simp; simp only [isEmpty_ne, isEmpty_eq]; done) | (go_simp; simp only [isEmpty_ne, isEmpty_eq]; rfl)); intro gb116 hg w8 hbox hb; have n0_ := Aside0.mk (below_step (by repeat (first | (with_reducible first | exact HB.out | apply below_alloc | apply pw_below_drewN | apply below_drew1) | exact HB.out)) hb); have n1_ := Aside0.mk (hbox); have n2_ := Aside0.mk ((by rw [hg]; exact (below_size (by repeat (first | (with_reducible first | exact HB.out | apply below_alloc | apply pw_below_drewN | apply below_drew1) | exact HB.out))) : w.heap.size ≤ gb116)); have n3_ := Aside0.mk ((by rw [hg]; exact (below_size (by repeat (first | (with_reducible first | exact HB.out | apply below_alloc | apply pw_below_drewN | apply below_drew1) | exact HB.out))) : w.heap.size ≤ gb116)); clear HB; have HB := n0_; have BK116 := n1_; have GW116 := n2_; have GE116 := n3_; clear n0_ n1_ n2_ n3_; clear hb hbox hg) | ((with_reducible refine gate_dst (N := 2) rfl ?_); refine box_event ?hg (N := 2) ?hd (cs := #[.int .i64 0, .string (⟨#[]⟩ : ByteArray), .string (⟨#[]⟩ : ByteArray), .int .i64 0, .int .i64 0]) (t := 41) ?hr ?_; (case hd => rfl); (case hg => rfl); (case hr => first | (go_simp; done) | (go_simp; rfl) | (go_simp; simp only [isEmpty_ne, isEmpty_eq]; done) | (go_simp; simp only [isEmpty_ne, isEmpty_eq]; rfl)); intro gb117 hg w9 hbox hb; have n0_ := Aside0.mk (blk_below (g := gb116) (o := .cells #[.int .i64 a0_0, .string a0_1, .string a0_2, .int .i64 a0_3, .int .i64 a0_4] 41 (0, 0)) (by (with_reducible repeat (first | refine blk_drewN ?_ _ | refine blk_drew ?_ | refine blk_alloc ?_ _)); exact BK116.out) hb); have n1_ := Aside0.mk (below_step (by repeat (first | (with_reducible first | exact HB.out | apply below_alloc | apply pw_below_drewN | apply below_drew1 | refine below_set ?_ GE116.out) | exact HB.out)) hb); have n2_ := Aside0.mk (hbox); have n3_ := Aside0.mk ((by rw [hg]; exact (below_size (by repeat (first | (with_reducible first | exact HB.out | apply below_alloc | apply pw_below_drewN | apply below_drew1 | refine below_set ?_ GE116.out) | exact HB.out))) : w.heap.size ≤ gb117)); have n4_ := Aside0.mk ((by rw [hg]; exact (below_size (by repeat (first | (with_reducible first | exact HB.out | apply below_alloc | apply pw_below_drewN | apply below_drew1 | refine below_set ?_ GE116.out) | exact HB.out))) : w.heap.size ≤ gb117)); have n5_ := Aside0.mk ((by rw [hg]; exact Nat.ne_of_lt (blk_lt (g := gb116) (o := .cells #[.int .i64 a0_0, .string a0_1, .string a0_2, .int .i64 a0_3, .int .i64 a0_4] 41 (0, 0)) (by (with_reducible repeat (first | refine blk_drewN ?_ _ | refine blk_drew ?_ | refine blk_alloc ?_ _)); exact BK116.out)) : gb116 ≠ gb117)); have n6_ := Aside0.mk ((by rw [hg]; exact Nat.ne_of_gt (blk_lt (g := gb116) (o := .cells #[.int .i64 a0_0, .string a0_1, .string a0_2, .int .i64 a0_3, .int .i64 a0_4] 41 (0, 0)) (by (with_reducible repeat (first | refine blk_drewN ?_ _ | refine blk_drew ?_ | refine blk_alloc ?_ _)); exact BK116.out)) : gb117 ≠ gb116)); clear BK116; clear HB; have BK116 := n0_; have HB := n1_; have BK117 := n2_; have GW117 := n3_; have GE117 := n4_; have NB116_117 := n5_; have NB117_116 := n6_; clear n0_ n1_ n2_ n3_ n4_ n5_ n6_; clear hb hbox hg))
          have n0_ := Aside0.mk (blk_drew BK116.out)
          have n1_ := Aside0.mk (blk_drew BK117.out)
          have n2_ := Aside0.mk (below_drew1 HB.out)
          clear BK116
          clear BK117
          clear HB
          have BK116 := n0_
          have BK117 := n1_
          have HB := n2_
          clear n0_ n1_ n2_
          refine start_ (n := 22) (S := fun w' => w'.cell? ⟨gb116, 0, none⟩ = some (.int .i64 a0_0) ∧ w'.cell? ⟨gb116, 1, none⟩ = some (.string a0_1) ∧ w'.cell? ⟨gb116, 2, none⟩ = some (.string a0_2) ∧ w'.cell? ⟨gb116, 3, none⟩ = some (.int .i64 a0_3) ∧ w'.cell? ⟨gb116, 4, none⟩ = some (.int .i64 a0_4)) (ds := []) #[false, false, false, false, false, false, false, false, false, false, false, false, false, false, false, false, false, false, false, false, false, false] (by kernel_rfl) rfl rfl ⟨(blk_cell BK116.out 0).trans rfl, (blk_cell BK116.out 1).trans rfl, (blk_cell BK116.out 2).trans rfl, (blk_cell BK116.out 3).trans rfl, (blk_cell BK116.out 4).trans rfl⟩ (fun hHeld => ?_); refine with_tabW postriderlaw06_Cut.tab1 postriderlaw06_Cut.bits1 (fun HT_ HW_ => ?_)
          generalize w9.drew = w10 at BK116 BK117 HB hHeld ⊢
          refine pure_ (i := 0) (N := some 3) (v := ?_) (a' := ?_) #[true, false, false, false, false, false, false, false, false, false, false, false, false, false, false, false, false, false, false, false, false, false] rfl rfl (any_of HT_.out (by kernel_rfl)) (fun _ _ _ h => h) (Or.inl ⟨by rfl, ?_⟩) ?_ ?_
          rotate_left
          · intro w'
            go_simp
            with_reducible rfl
          rotate_left
          · simp only [Act.put, List.setIfInBounds_toArray, List.set_cons_zero, List.set_cons_succ, i64_w, i32_w]
            rfl
          refine pure_ (i := 2) (N := some 5) (v := ?_) (a' := ?_) #[true, false, true, false, false, false, false, false, false, false, false, false, false, false, false, false, false, false, false, false, false, false] rfl rfl (any_of HT_.out (by kernel_rfl)) (fun _ _ _ h => h) (Or.inl ⟨by rfl, ?_⟩) ?_ ?_
          rotate_left
          · intro w'
            go_simp
            with_reducible rfl
          rotate_left
          · simp only [Act.put, List.setIfInBounds_toArray, List.set_cons_zero, List.set_cons_succ, i64_w, i32_w]
            rfl
          refine pure_ (i := 4) (N := some 7) (v := ?_) (a' := ?_) #[true, false, true, false, true, false, false, false, false, false, false, false, false, false, false, false, false, false, false, false, false, false] rfl rfl (any_of HT_.out (by kernel_rfl)) (fun _ _ _ h => h) (Or.inl ⟨by rfl, ?_⟩) ?_ ?_
          rotate_left
          · intro w'
            go_simp
            with_reducible rfl
          rotate_left
          · simp only [Act.put, List.setIfInBounds_toArray, List.set_cons_zero, List.set_cons_succ, i64_w, i32_w]
            rfl
          refine pure_ (i := 9) (N := some 12) (v := ?_) (a' := ?_) #[true, false, true, false, true, false, false, false, false, true, false, false, false, false, false, false, false, false, false, false, false, false] rfl rfl (any_of HT_.out (by kernel_rfl)) (fun _ _ _ h => h) (Or.inl ⟨by rfl, ?_⟩) ?_ ?_
          rotate_left
          · intro w'
            go_simp
            with_reducible rfl
          rotate_left
          · simp only [Act.put, List.setIfInBounds_toArray, List.set_cons_zero, List.set_cons_succ, i64_w, i32_w]
            rfl
          refine pure_ (i := 11) (N := some 14) (v := ?_) (a' := ?_) #[true, false, true, false, true, false, false, false, false, true, false, true, false, false, false, false, false, false, false, false, false, false] rfl rfl (any_of HT_.out (by kernel_rfl)) (fun _ _ _ h => h) (Or.inl ⟨by rfl, ?_⟩) ?_ ?_
          rotate_left
          · intro w'
            go_simp
            with_reducible rfl
          rotate_left
          · simp only [Act.put, List.setIfInBounds_toArray, List.set_cons_zero, List.set_cons_succ, i64_w, i32_w]
            rfl
          refine pure_ (i := 16) (N := some 19) (v := ?_) (a' := ?_) #[true, false, true, false, true, false, false, false, false, true, false, true, false, false, false, false, true, false, false, false, false, false] rfl rfl (any_of HT_.out (by kernel_rfl)) (fun _ _ _ h => h) (Or.inl ⟨by rfl, ?_⟩) ?_ ?_
          rotate_left
          · intro w'
            go_simp
            with_reducible rfl
          rotate_left
          · simp only [Act.put, List.setIfInBounds_toArray, List.set_cons_zero, List.set_cons_succ, i64_w, i32_w]
            rfl
          refine pure_ (i := 18) (N := some 21) (v := ?_) (a' := ?_) #[true, false, true, false, true, false, false, false, false, true, false, true, false, false, false, false, true, false, true, false, false, false] rfl rfl (any_of HT_.out (by kernel_rfl)) (fun _ _ _ h => h) (Or.inl ⟨by rfl, ?_⟩) ?_ ?_
          rotate_left
          · intro w'
            go_simp
            with_reducible rfl
          rotate_left
          · simp only [Act.put, List.setIfInBounds_toArray, List.set_cons_zero, List.set_cons_succ, i64_w, i32_w]
            rfl
          refine take_ (i := 1) (N := some 4) (v := ?_) (a' := ?_) #[true, true, true, false, true, false, false, false, false, true, false, true, false, false, false, false, true, false, true, false, false, false] rfl rfl (take_ofW HT_.out HW_.out (by kernel_rfl)) (fun _ _ _ h => h) (Or.inl ⟨by rfl, ?_⟩) hHeld ?_ ?_
          rotate_left
          · rintro w' ⟨s0, s1, s2, s3, s4⟩
            go_simp
            with_reducible rfl
          rotate_left
          · simp only [Act.put, List.setIfInBounds_toArray, List.set_cons_zero, List.set_cons_succ, i64_w, i32_w]
            rfl
          refine take_ (i := 3) (N := some 6) (v := ?_) (a' := ?_) #[true, true, true, true, true, false, false, false, false, true, false, true, false, false, false, false, true, false, true, false, false, false] rfl rfl (take_ofW HT_.out HW_.out (by kernel_rfl)) (fun _ _ _ h => h) (Or.inl ⟨by rfl, ?_⟩) hHeld ?_ ?_
          rotate_left
          · rintro w' ⟨s0, s1, s2, s3, s4⟩
            go_simp
            with_reducible rfl
          rotate_left
          · simp only [Act.put, List.setIfInBounds_toArray, List.set_cons_zero, List.set_cons_succ, i64_w, i32_w]
            rfl
          refine take_ (i := 5) (N := some 8) (v := ?_) (a' := ?_) #[true, true, true, true, true, true, false, false, false, true, false, true, false, false, false, false, true, false, true, false, false, false] rfl rfl (take_ofW HT_.out HW_.out (by kernel_rfl)) (fun _ _ _ h => h) (Or.inl ⟨by rfl, ?_⟩) hHeld ?_ ?_
          rotate_left
          · rintro w' ⟨s0, s1, s2, s3, s4⟩
            go_simp
            with_reducible rfl
          rotate_left
          · simp only [Act.put, List.setIfInBounds_toArray, List.set_cons_zero, List.set_cons_succ, i64_w, i32_w]
            rfl
          refine pure_ (i := 6) (N := some 9) (v := ?_) (a' := ?_) #[true, true, true, true, true, true, true, false, false, true, false, true, false, false, false, false, true, false, true, false, false, false] rfl rfl (any_of HT_.out (by kernel_rfl)) (fun _ _ _ h => h) (Or.inl ⟨by rfl, ?_⟩) ?_ ?_
          rotate_left
          · intro w'
            go_simp
            with_reducible rfl
          rotate_left
          · simp only [Act.put, List.setIfInBounds_toArray, List.set_cons_zero, List.set_cons_succ, i64_w, i32_w]
            rfl
          refine pure_ (i := 7) (N := some 10) (v := ?_) (a' := ?_) #[true, true, true, true, true, true, true, true, false, true, false, true, false, false, false, false, true, false, true, false, false, false] rfl rfl (any_of HT_.out (by kernel_rfl)) (fun _ _ _ h => h) (Or.inl ⟨by rfl, ?_⟩) ?_ ?_
          rotate_left
          · intro w'
            go_simp
            with_reducible rfl
          rotate_left
          · simp only [Act.put, List.setIfInBounds_toArray, List.set_cons_zero, List.set_cons_succ, i64_w, i32_w]
            rfl
          refine pure_ (i := 8) (N := some 11) (v := ?_) (a' := ?_) #[true, true, true, true, true, true, true, true, true, true, false, true, false, false, false, false, true, false, true, false, false, false] rfl rfl (any_of HT_.out (by kernel_rfl)) (fun _ _ _ h => h) (Or.inl ⟨by rfl, ?_⟩) ?_ ?_
          rotate_left
          · intro w'
            go_simp
            with_reducible rfl
          rotate_left
          · simp only [Act.put, List.setIfInBounds_toArray, List.set_cons_zero, List.set_cons_succ, i64_w, i32_w]
            rfl
          refine take_ (i := 10) (N := some 13) (v := ?_) (a' := ?_) #[true, true, true, true, true, true, true, true, true, true, true, true, false, false, false, false, true, false, true, false, false, false] rfl rfl (take_ofW HT_.out HW_.out (by kernel_rfl)) (fun _ _ _ h => h) (Or.inl ⟨by rfl, ?_⟩) hHeld ?_ ?_
          rotate_left
          · rintro w' ⟨s0, s1, s2, s3, s4⟩
            go_simp
            with_reducible rfl
          rotate_left
          · simp only [Act.put, List.setIfInBounds_toArray, List.set_cons_zero, List.set_cons_succ, i64_w, i32_w]
            rfl
          refine take_ (i := 12) (N := some 15) (v := ?_) (a' := ?_) #[true, true, true, true, true, true, true, true, true, true, true, true, true, false, false, false, true, false, true, false, false, false] rfl rfl (take_ofW HT_.out HW_.out (by kernel_rfl)) (fun _ _ _ h => h) (Or.inl ⟨by rfl, ?_⟩) hHeld ?_ ?_
          rotate_left
          · rintro w' ⟨s0, s1, s2, s3, s4⟩
            go_simp
            with_reducible rfl
          rotate_left
          · simp only [Act.put, List.setIfInBounds_toArray, List.set_cons_zero, List.set_cons_succ, i64_w, i32_w]
            rfl
          refine pure_ (i := 13) (N := some 16) (v := ?_) (a' := ?_) #[true, true, true, true, true, true, true, true, true, true, true, true, true, true, false, false, true, false, true, false, false, false] rfl rfl (any_of HT_.out (by kernel_rfl)) (fun _ _ _ h => h) (Or.inl ⟨by rfl, ?_⟩) ?_ ?_
          rotate_left
          · intro w'
            go_simp
            with_reducible rfl
          rotate_left
          · simp only [Act.put, List.setIfInBounds_toArray, List.set_cons_zero, List.set_cons_succ, i64_w, i32_w]
            rfl
          refine pure_ (i := 14) (N := some 17) (v := ?_) (a' := ?_) #[true, true, true, true, true, true, true, true, true, true, true, true, true, true, true, false, true, false, true, false, false, false] rfl rfl (any_of HT_.out (by kernel_rfl)) (fun _ _ _ h => h) (Or.inl ⟨by rfl, ?_⟩) ?_ ?_
          rotate_left
          · intro w'
            go_simp
            with_reducible rfl
          rotate_left
          · simp only [Act.put, List.setIfInBounds_toArray, List.set_cons_zero, List.set_cons_succ, i64_w, i32_w]
            rfl
          refine pure_ (i := 15) (N := some 18) (v := ?_) (a' := ?_) #[true, true, true, true, true, true, true, true, true, true, true, true, true, true, true, true, true, false, true, false, false, false] rfl rfl (any_of HT_.out (by kernel_rfl)) (fun _ _ _ h => h) (Or.inl ⟨by rfl, ?_⟩) ?_ ?_
          rotate_left
          · intro w'
            go_simp
            with_reducible rfl
          rotate_left
          · simp only [Act.put, List.setIfInBounds_toArray, List.set_cons_zero, List.set_cons_succ, i64_w, i32_w]
            rfl
          refine take_ (i := 17) (N := some 20) (v := ?_) (a' := ?_) #[true, true, true, true, true, true, true, true, true, true, true, true, true, true, true, true, true, true, true, false, false, false] rfl rfl (take_ofW HT_.out HW_.out (by kernel_rfl)) (fun _ _ _ h => h) (Or.inl ⟨by rfl, ?_⟩) hHeld ?_ ?_
          rotate_left
          · rintro w' ⟨s0, s1, s2, s3, s4⟩
            go_simp
            with_reducible rfl
          rotate_left
          · simp only [Act.put, List.setIfInBounds_toArray, List.set_cons_zero, List.set_cons_succ, i64_w, i32_w]
            rfl
          refine take_ (i := 19) (N := some 22) (v := ?_) (a' := ?_) #[true, true, true, true, true, true, true, true, true, true, true, true, true, true, true, true, true, true, true, true, false, false] rfl rfl (take_ofW HT_.out HW_.out (by kernel_rfl)) (fun _ _ _ h => h) (Or.inl ⟨by rfl, ?_⟩) hHeld ?_ ?_
          rotate_left
          · rintro w' ⟨s0, s1, s2, s3, s4⟩
            go_simp
            with_reducible rfl
          rotate_left
          · simp only [Act.put, List.setIfInBounds_toArray, List.set_cons_zero, List.set_cons_succ, i64_w, i32_w]
            rfl
          refine pure_ (i := 20) (N := some 23) (v := ?_) (a' := ?_) #[true, true, true, true, true, true, true, true, true, true, true, true, true, true, true, true, true, true, true, true, true, false] rfl rfl (any_of HT_.out (by kernel_rfl)) (fun _ _ _ h => h) (Or.inl ⟨by rfl, ?_⟩) ?_ ?_
          rotate_left
          · intro w'
            go_simp
            with_reducible rfl
          rotate_left
          · simp only [Act.put, List.setIfInBounds_toArray, List.set_cons_zero, List.set_cons_succ, i64_w, i32_w]
            rfl
          refine one_ (i := 21) (N := none) #[true, true, true, true, true, true, true, true, true, true, true, true, true, true, true, true, true, true, true, true, true, true] rfl rfl (one_of HT_.out (by kernel_rfl)) (by decide) (fun K hK => ?_)
          have hs11 : w10.cell? ⟨gb117, 0, none⟩ = some (.int .i64 0) := (blk_cell BK117.out 0).trans rfl
          have hfs11 := blk_frozen BK117.out 0
          have hns11_0 := NB116_117.out
          have hms11_0 := NB117_116.out
          have hs12 : w10.cell? ⟨gb117, 1, none⟩ = some (.string (⟨#[]⟩ : ByteArray)) := (blk_cell BK117.out 1).trans rfl
          have hfs12 := blk_frozen BK117.out 1
          have hns12_0 := NB116_117.out
          have hms12_0 := NB117_116.out
          have hs13 : w10.cell? ⟨gb117, 2, none⟩ = some (.string (⟨#[]⟩ : ByteArray)) := (blk_cell BK117.out 2).trans rfl
          have hfs13 := blk_frozen BK117.out 2
          have hns13_0 := NB116_117.out
          have hms13_0 := NB117_116.out
          have hs14 : w10.cell? ⟨gb117, 3, none⟩ = some (.int .i64 0) := (blk_cell BK117.out 3).trans rfl
          have hfs14 := blk_frozen BK117.out 3
          have hns14_0 := NB116_117.out
          have hms14_0 := NB117_116.out
          have hs15 : w10.cell? ⟨gb117, 4, none⟩ = some (.int .i64 0) := (blk_cell BK117.out 4).trans rfl
          have hfs15 := blk_frozen BK117.out 4
          have hns15_0 := NB116_117.out
          have hms15_0 := NB117_116.out
          refine skip_ (w1 := ?_) (by rfl) rfl ?_ ?_
          rotate_left
          · go_simp
            rfl
          refine hK.out _ _ ⟨((cell_far (p := ⟨gb117, _, none⟩) NB116_117.out _).trans (((cell_far (p := ⟨gb117, _, none⟩) NB116_117.out _).trans (((cell_far (p := ⟨gb117, _, none⟩) NB116_117.out _).trans (((cell_far (p := ⟨gb117, _, none⟩) NB116_117.out _).trans (((cell_far (p := ⟨gb117, _, none⟩) NB116_117.out _).trans (hHeld.1)))))))))), ((cell_far (p := ⟨gb117, _, none⟩) NB116_117.out _).trans (((cell_far (p := ⟨gb117, _, none⟩) NB116_117.out _).trans (((cell_far (p := ⟨gb117, _, none⟩) NB116_117.out _).trans (((cell_far (p := ⟨gb117, _, none⟩) NB116_117.out _).trans (((cell_far (p := ⟨gb117, _, none⟩) NB116_117.out _).trans (hHeld.2.1)))))))))), ((cell_far (p := ⟨gb117, _, none⟩) NB116_117.out _).trans (((cell_far (p := ⟨gb117, _, none⟩) NB116_117.out _).trans (((cell_far (p := ⟨gb117, _, none⟩) NB116_117.out _).trans (((cell_far (p := ⟨gb117, _, none⟩) NB116_117.out _).trans (((cell_far (p := ⟨gb117, _, none⟩) NB116_117.out _).trans (hHeld.2.2.1)))))))))), ((cell_far (p := ⟨gb117, _, none⟩) NB116_117.out _).trans (((cell_far (p := ⟨gb117, _, none⟩) NB116_117.out _).trans (((cell_far (p := ⟨gb117, _, none⟩) NB116_117.out _).trans (((cell_far (p := ⟨gb117, _, none⟩) NB116_117.out _).trans (((cell_far (p := ⟨gb117, _, none⟩) NB116_117.out _).trans (hHeld.2.2.2.1)))))))))), ((cell_far (p := ⟨gb117, _, none⟩) NB116_117.out _).trans (((cell_far (p := ⟨gb117, _, none⟩) NB116_117.out _).trans (((cell_far (p := ⟨gb117, _, none⟩) NB116_117.out _).trans (((cell_far (p := ⟨gb117, _, none⟩) NB116_117.out _).trans (((cell_far (p := ⟨gb117, _, none⟩) NB116_117.out _).trans (hHeld.2.2.2.2))))))))))⟩ (fun hHeld => ?_)
          clear hK K
          refine done_ (done_of HT_.out (by kernel_rfl)) ?_
          try go_wp2
          refine bodyPost_ret (results_cell_row rfl _ _ gb117 41 #[.int .i64 a0_0, .string (a0_1.extract 0 ((ji2) : Int).toNat), .string (a0_2.extract 0 ((ji5) : Int).toNat), .int .i64 a0_3, .int .i64 a0_4] (0, 0) _ rfl (by (with_reducible repeat (first | refine blk_drewN ?_ _ | refine blk_drew ?_ | refine blk_alloc ?_ _)); refine blk_put (cs := #[.int .i64 a0_0, .string (a0_1.extract 0 ((ji2) : Int).toNat), .string (a0_2.extract 0 ((ji5) : Int).toNat), .int .i64 a0_3, .int .i64 0]) ?_ 4 _ rfl; (with_reducible repeat (first | refine blk_drewN ?_ _ | refine blk_drew ?_ | refine blk_alloc ?_ _)); refine blk_put (cs := #[.int .i64 a0_0, .string (a0_1.extract 0 ((ji2) : Int).toNat), .string (a0_2.extract 0 ((ji5) : Int).toNat), .int .i64 0, .int .i64 0]) ?_ 3 _ rfl; (with_reducible repeat (first | refine blk_drewN ?_ _ | refine blk_drew ?_ | refine blk_alloc ?_ _)); refine blk_put (cs := #[.int .i64 a0_0, .string (a0_1.extract 0 ((ji2) : Int).toNat), .string (⟨#[]⟩ : ByteArray), .int .i64 0, .int .i64 0]) ?_ 2 _ rfl; (with_reducible repeat (first | refine blk_drewN ?_ _ | refine blk_drew ?_ | refine blk_alloc ?_ _)); refine blk_put (cs := #[.int .i64 a0_0, .string (⟨#[]⟩ : ByteArray), .string (⟨#[]⟩ : ByteArray), .int .i64 0, .int .i64 0]) ?_ 1 _ rfl; (with_reducible repeat (first | refine blk_drewN ?_ _ | refine blk_drew ?_ | refine blk_alloc ?_ _)); refine blk_put (cs := #[.int .i64 0, .string (⟨#[]⟩ : ByteArray), .string (⟨#[]⟩ : ByteArray), .int .i64 0, .int .i64 0]) ?_ 0 _ rfl; (with_reducible repeat (first | refine blk_drewN ?_ _ | refine blk_drew ?_ | refine blk_alloc ?_ _)); exact BK117.out) Tryz.underlying41 rfl (by kernel_rfl)) rfl ?_
          exact ⟨by first | rfl | (simp [errW_none, errW_some] <;> rfl) | (simp only [← hji2, ← hji5]; first | rfl | (simp [errW_none, errW_some] <;> rfl)) | (simp [*, errW_none, errW_some] <;> rfl), by repeat (first | (with_reducible first | exact HB.out | apply below_alloc | apply pw_below_drewN | apply below_drew1 | refine below_set ?_ GE116.out | refine below_set ?_ GE117.out) | exact HB.out)⟩
        · rw [if_neg c7] at H
          exact absurd H (by simp)
      · rw [if_neg c6] at H
        exact absurd H (by simp)
    · rw [if_neg c4] at H
      exact absurd H (by simp)
  · rw [if_neg c3] at H
    exact absurd H (by simp)
def api_Eid.f (a0_0 : Int) (a0_1 : ByteArray) (a0_2 : ByteArray) (a0_3 : Int) (a0_4 : Int) (a1 : Bool) : Option (Int × ByteArray × ByteArray × Int × Int × Int) := if a1 = true then (some (a0_0, a0_1, a0_2, a0_3, a0_4, 0)) else (some (0, (⟨#[]⟩ : ByteArray), (⟨#[]⟩ : ByteArray), 0, 0, 60))
set_option maxHeartbeats 8000000 in
set_option maxRecDepth 100000 in
theorem api_Eid.calls (a0_0 : Int) (a0_1 : ByteArray) (a0_2 : ByteArray) (a0_3 : Int) (a0_4 : Int) (a1 : Bool) (r1 : Int) (r2 : ByteArray) (r3 : ByteArray) (r4 : Int) (r5 : Int) (r6 : Int) (w : World) (h : api_Eid.f a0_0 a0_1 a0_2 a0_3 a0_4 a1 = some (r1, r2, r3, r4, r5, r6)) :
    Calls Tryz.prog 66 #[.agg #[.int .i64 a0_0, .string a0_1, .string a0_2, .int .i64 a0_3, .int .i64 a0_4], .bool a1] w fun e w' => e = .returned (.tuple #[.agg #[.int .i64 r1, .string r2, .string r3, .int .i64 r4, .int .i64 r5], .int .i64 r6]) ∧ Below w.heap.size w w' := by
  have hu41 := Tryz.underlying41
  have HB := Aside0.mk (Below.refl w.heap.size w)
  have H : (if a1 = true then (some (a0_0, a0_1, a0_2, a0_3, a0_4, 0)) else (some (0, (⟨#[]⟩ : ByteArray), (⟨#[]⟩ : ByteArray), 0, 0, 60))) = some (r1, r2, r3, r4, r5, r6) := h
  clear h
  by_cases c3 : a1 = true
  · subst c3
    have H1 : (some (a0_0, a0_1, a0_2, a0_3, a0_4, 0)) = some (r1, r2, r3, r4, r5, r6) := by rw [if_pos rfl] at H; exact H
    clear H
    have H := H1
    clear H1
    simp only [Option.some.injEq, Prod.mk.injEq] at H
    obtain ⟨rfl, rfl, rfl, rfl, rfl, rfl⟩ := H
    go_enter Tryz.func66, Tryz.ntmps66
    go_wp2_with (first | ((with_reducible refine gate_dst (N := 2) rfl ?_); refine box_event ?hg (N := 2) ?hd (cs := #[.int .i64 a0_0, .string a0_1, .string a0_2, .int .i64 a0_3, .int .i64 a0_4]) (t := 41) ?hr ?_; (case hd => rfl); (case hg => rfl); (case hr => first | (go_simp; done) | (go_simp; rfl) | (go_simp; simp only [isEmpty_ne, isEmpty_eq]; done) | (go_simp; simp only [isEmpty_ne, isEmpty_eq]; rfl)); intro gb118 hg w4 hbox hb; have n0_ := Aside0.mk (below_step (by repeat (first | (with_reducible first | exact HB.out | apply below_alloc | apply pw_below_drewN | apply below_drew1) | exact HB.out)) hb); have n1_ := Aside0.mk (hbox); have n2_ := Aside0.mk ((by rw [hg]; exact (below_size (by repeat (first | (with_reducible first | exact HB.out | apply below_alloc | apply pw_below_drewN | apply below_drew1) | exact HB.out))) : w.heap.size ≤ gb118)); have n3_ := Aside0.mk ((by rw [hg]; exact (below_size (by repeat (first | (with_reducible first | exact HB.out | apply below_alloc | apply pw_below_drewN | apply below_drew1) | exact HB.out))) : w.heap.size ≤ gb118)); clear HB; have HB := n0_; have BK118 := n1_; have GW118 := n2_; have GE118 := n3_; clear n0_ n1_ n2_ n3_; clear hb hbox hg) | ((with_reducible refine gate_dst (N := 4) rfl ?_); refine box_event ?hg (N := 4) ?hd (cs := #[.int .i64 0, .string (⟨#[]⟩ : ByteArray), .string (⟨#[]⟩ : ByteArray), .int .i64 0, .int .i64 0]) (t := 41) ?hr ?_; (case hd => rfl); (case hg => rfl); (case hr => first | (go_simp; done) | (go_simp; rfl) | (go_simp; simp only [isEmpty_ne, isEmpty_eq]; done) | (go_simp; simp only [isEmpty_ne, isEmpty_eq]; rfl)); intro gb119 hg w5 hbox hb; have n0_ := Aside0.mk (blk_below (g := gb118) (o := .cells #[.int .i64 a0_0, .string a0_1, .string a0_2, .int .i64 a0_3, .int .i64 a0_4] 41 (0, 0)) (by (with_reducible repeat (first | refine blk_drewN ?_ _ | refine blk_drew ?_ | refine blk_alloc ?_ _)); exact BK118.out) hb); have n1_ := Aside0.mk (below_step (by repeat (first | (with_reducible first | exact HB.out | apply below_alloc | apply pw_below_drewN | apply below_drew1 | refine below_set ?_ GE118.out) | exact HB.out)) hb); have n2_ := Aside0.mk (hbox); have n3_ := Aside0.mk ((by rw [hg]; exact (below_size (by repeat (first | (with_reducible first | exact HB.out | apply below_alloc | apply pw_below_drewN | apply below_drew1 | refine below_set ?_ GE118.out) | exact HB.out))) : w.heap.size ≤ gb119)); have n4_ := Aside0.mk ((by rw [hg]; exact (below_size (by repeat (first | (with_reducible first | exact HB.out | apply below_alloc | apply pw_below_drewN | apply below_drew1 | refine below_set ?_ GE118.out) | exact HB.out))) : w.heap.size ≤ gb119)); have n5_ := Aside0.mk ((by rw [hg]; exact Nat.ne_of_lt (blk_lt (g := gb118) (o := .cells #[.int .i64 a0_0, .string a0_1, .string a0_2, .int .i64 a0_3, .int .i64 a0_4] 41 (0, 0)) (by (with_reducible repeat (first | refine blk_drewN ?_ _ | refine blk_drew ?_ | refine blk_alloc ?_ _)); exact BK118.out)) : gb118 ≠ gb119)); have n6_ := Aside0.mk ((by rw [hg]; exact Nat.ne_of_gt (blk_lt (g := gb118) (o := .cells #[.int .i64 a0_0, .string a0_1, .string a0_2, .int .i64 a0_3, .int .i64 a0_4] 41 (0, 0)) (by (with_reducible repeat (first | refine blk_drewN ?_ _ | refine blk_drew ?_ | refine blk_alloc ?_ _)); exact BK118.out)) : gb119 ≠ gb118)); clear BK118; clear HB; have BK118 := n0_; have HB := n1_; have BK119 := n2_; have GW119 := n3_; have GE119 := n4_; have NB118_119 := n5_; have NB119_118 := n6_; clear n0_ n1_ n2_ n3_ n4_ n5_ n6_; clear hb hbox hg) | ((with_reducible refine gate_dst (N := 6) rfl ?_); refine box_event ?hg (N := 6) ?hd (cs := #[.int .i64 0, .string (⟨#[]⟩ : ByteArray), .string (⟨#[]⟩ : ByteArray), .int .i64 0, .int .i64 0]) (t := 41) ?hr ?_; (case hd => rfl); (case hg => rfl); (case hr => first | (go_simp; done) | (go_simp; rfl) | (go_simp; simp only [isEmpty_ne, isEmpty_eq]; done) | (go_simp; simp only [isEmpty_ne, isEmpty_eq]; rfl)); intro gb120 hg w6 hbox hb; have n0_ := Aside0.mk (blk_below (g := gb118) (o := .cells #[.int .i64 a0_0, .string a0_1, .string a0_2, .int .i64 a0_3, .int .i64 a0_4] 41 (0, 0)) (by (with_reducible repeat (first | refine blk_drewN ?_ _ | refine blk_drew ?_ | refine blk_alloc ?_ _)); exact BK118.out) hb); have n1_ := Aside0.mk (blk_below (g := gb119) (o := .cells #[.int .i64 0, .string (⟨#[]⟩ : ByteArray), .string (⟨#[]⟩ : ByteArray), .int .i64 0, .int .i64 0] 41 (0, 0)) (by (with_reducible repeat (first | refine blk_drewN ?_ _ | refine blk_drew ?_ | refine blk_alloc ?_ _)); exact BK119.out) hb); have n2_ := Aside0.mk (below_step (by repeat (first | (with_reducible first | exact HB.out | apply below_alloc | apply pw_below_drewN | apply below_drew1 | refine below_set ?_ GE118.out | refine below_set ?_ GE119.out) | exact HB.out)) hb); have n3_ := Aside0.mk (hbox); have n4_ := Aside0.mk ((by rw [hg]; exact (below_size (by repeat (first | (with_reducible first | exact HB.out | apply below_alloc | apply pw_below_drewN | apply below_drew1 | refine below_set ?_ GE118.out | refine below_set ?_ GE119.out) | exact HB.out))) : w.heap.size ≤ gb120)); have n5_ := Aside0.mk ((by rw [hg]; exact (below_size (by repeat (first | (with_reducible first | exact HB.out | apply below_alloc | apply pw_below_drewN | apply below_drew1 | refine below_set ?_ GE118.out | refine below_set ?_ GE119.out) | exact HB.out))) : w.heap.size ≤ gb120)); have n6_ := Aside0.mk ((by rw [hg]; exact Nat.ne_of_lt (blk_lt (g := gb118) (o := .cells #[.int .i64 a0_0, .string a0_1, .string a0_2, .int .i64 a0_3, .int .i64 a0_4] 41 (0, 0)) (by (with_reducible repeat (first | refine blk_drewN ?_ _ | refine blk_drew ?_ | refine blk_alloc ?_ _)); exact BK118.out)) : gb118 ≠ gb120)); have n7_ := Aside0.mk ((by rw [hg]; exact Nat.ne_of_gt (blk_lt (g := gb118) (o := .cells #[.int .i64 a0_0, .string a0_1, .string a0_2, .int .i64 a0_3, .int .i64 a0_4] 41 (0, 0)) (by (with_reducible repeat (first | refine blk_drewN ?_ _ | refine blk_drew ?_ | refine blk_alloc ?_ _)); exact BK118.out)) : gb120 ≠ gb118)); have n8_ := Aside0.mk ((by rw [hg]; exact Nat.ne_of_lt (blk_lt (g := gb119) (o := .cells #[.int .i64 0, .string (⟨#[]⟩ : ByteArray), .string (⟨#[]⟩ : ByteArray), .int .i64 0, .int .i64 0] 41 (0, 0)) (by (with_reducible repeat (first | refine blk_drewN ?_ _ | refine blk_drew ?_ | refine blk_alloc ?_ _)); exact BK119.out)) : gb119 ≠ gb120)); have n9_ := Aside0.mk ((by rw [hg]; exact Nat.ne_of_gt (blk_lt (g := gb119) (o := .cells #[.int .i64 0, .string (⟨#[]⟩ : ByteArray), .string (⟨#[]⟩ : ByteArray), .int .i64 0, .int .i64 0] 41 (0, 0)) (by (with_reducible repeat (first | refine blk_drewN ?_ _ | refine blk_drew ?_ | refine blk_alloc ?_ _)); exact BK119.out)) : gb120 ≠ gb119)); clear BK118; clear BK119; clear HB; have BK118 := n0_; have BK119 := n1_; have HB := n2_; have BK120 := n3_; have GW120 := n4_; have GE120 := n5_; have NB118_120 := n6_; have NB120_118 := n7_; have NB119_120 := n8_; have NB120_119 := n9_; clear n0_ n1_ n2_ n3_ n4_ n5_ n6_ n7_ n8_ n9_; clear hb hbox hg; have hnb7 := NB118_119.out; have hnc7 := NB119_118.out; have hnb8 := NB118_120.out; have hnc8 := NB120_118.out; have hcz9_0 : w6.cell? ⟨gb118, 0, none⟩ = some (.int .i64 a0_0) := (blk_cell BK118.out 0).trans rfl; have hcz9_1 : w6.cell? ⟨gb118, 1, none⟩ = some (.string a0_1) := (blk_cell BK118.out 1).trans rfl; have hcz9_2 : w6.cell? ⟨gb118, 2, none⟩ = some (.string a0_2) := (blk_cell BK118.out 2).trans rfl; have hcz9_3 : w6.cell? ⟨gb118, 3, none⟩ = some (.int .i64 a0_3) := (blk_cell BK118.out 3).trans rfl; have hcz9_4 : w6.cell? ⟨gb118, 4, none⟩ = some (.int .i64 a0_4) := (blk_cell BK118.out 4).trans rfl; have hfz9_0 := blk_frozen BK118.out 0; have hfz9_1 := blk_frozen BK118.out 1; have hfz9_2 := blk_frozen BK118.out 2; have hfz9_3 := blk_frozen BK118.out 3; have hfz9_4 := blk_frozen BK118.out 4; have hnb10 := NB119_120.out; have hnc10 := NB120_119.out; have hcz11_0 : w6.cell? ⟨gb119, 0, none⟩ = some (.int .i64 0) := (blk_cell BK119.out 0).trans rfl; have hcz11_1 : w6.cell? ⟨gb119, 1, none⟩ = some (.string (⟨#[]⟩ : ByteArray)) := (blk_cell BK119.out 1).trans rfl; have hcz11_2 : w6.cell? ⟨gb119, 2, none⟩ = some (.string (⟨#[]⟩ : ByteArray)) := (blk_cell BK119.out 2).trans rfl; have hcz11_3 : w6.cell? ⟨gb119, 3, none⟩ = some (.int .i64 0) := (blk_cell BK119.out 3).trans rfl; have hcz11_4 : w6.cell? ⟨gb119, 4, none⟩ = some (.int .i64 0) := (blk_cell BK119.out 4).trans rfl; have hfz11_0 := blk_frozen BK119.out 0; have hfz11_1 := blk_frozen BK119.out 1; have hfz11_2 := blk_frozen BK119.out 2; have hfz11_3 := blk_frozen BK119.out 3; have hfz11_4 := blk_frozen BK119.out 4))
    refine bodyPost_ret (results_ct rfl _ _ gb119 41 #[.int .i64 a0_0, .string a0_1, .string a0_2, .int .i64 a0_3, .int .i64 a0_4] (0, 0) _ rfl (by (with_reducible repeat (first | refine blk_drewN ?_ _ | refine blk_drew ?_ | refine blk_alloc ?_ _)); refine blk_put (cs := #[.int .i64 a0_0, .string a0_1, .string a0_2, .int .i64 a0_3, .int .i64 0]) ?_ 4 _ rfl; (with_reducible repeat (first | refine blk_drewN ?_ _ | refine blk_drew ?_ | refine blk_alloc ?_ _)); refine blk_put (cs := #[.int .i64 a0_0, .string a0_1, .string a0_2, .int .i64 0, .int .i64 0]) ?_ 3 _ rfl; (with_reducible repeat (first | refine blk_drewN ?_ _ | refine blk_drew ?_ | refine blk_alloc ?_ _)); refine blk_put (cs := #[.int .i64 a0_0, .string a0_1, .string (⟨#[]⟩ : ByteArray), .int .i64 0, .int .i64 0]) ?_ 2 _ rfl; (with_reducible repeat (first | refine blk_drewN ?_ _ | refine blk_drew ?_ | refine blk_alloc ?_ _)); refine blk_put (cs := #[.int .i64 a0_0, .string (⟨#[]⟩ : ByteArray), .string (⟨#[]⟩ : ByteArray), .int .i64 0, .int .i64 0]) ?_ 1 _ rfl; (with_reducible repeat (first | refine blk_drewN ?_ _ | refine blk_drew ?_ | refine blk_alloc ?_ _)); refine blk_put (cs := #[.int .i64 0, .string (⟨#[]⟩ : ByteArray), .string (⟨#[]⟩ : ByteArray), .int .i64 0, .int .i64 0]) ?_ 0 _ rfl; (with_reducible repeat (first | refine blk_drewN ?_ _ | refine blk_drew ?_ | refine blk_alloc ?_ _)); exact BK119.out) Tryz.underlying41 rfl (by kernel_rfl)) rfl ?_
    exact ⟨by first | rfl | (simp [errW_none, errW_some] <;> rfl) | (simp [*, errW_none, errW_some] <;> rfl), by repeat (first | (with_reducible first | exact HB.out | apply below_alloc | apply pw_below_drewN | apply below_drew1 | refine below_set ?_ GE118.out | refine below_set ?_ GE119.out | refine below_set ?_ GE120.out) | exact HB.out)⟩
  · replace c3 := Bool.eq_false_iff.mpr c3
    subst c3
    have H1 : (some (0, (⟨#[]⟩ : ByteArray), (⟨#[]⟩ : ByteArray), 0, 0, 60)) = some (r1, r2, r3, r4, r5, r6) := by rw [if_neg (show ¬ (false = true) by decide)] at H; exact H
    clear H
    have H := H1
    clear H1
    simp only [Option.some.injEq, Prod.mk.injEq] at H
    obtain ⟨rfl, rfl, rfl, rfl, rfl, rfl⟩ := H
    go_enter Tryz.func66, Tryz.ntmps66
    go_wp2_with (first | ((with_reducible refine gate_dst (N := 2) rfl ?_); refine box_event ?hg (N := 2) ?hd (cs := #[.int .i64 a0_0, .string a0_1, .string a0_2, .int .i64 a0_3, .int .i64 a0_4]) (t := 41) ?hr ?_; (case hd => rfl); (case hg => rfl); (case hr => first | (go_simp; done) | (go_simp; rfl) | (go_simp; simp only [isEmpty_ne, isEmpty_eq]; done) | (go_simp; simp only [isEmpty_ne, isEmpty_eq]; rfl)); intro gb118 hg w12 hbox hb; have n0_ := Aside0.mk (below_step (by repeat (first | (with_reducible first | exact HB.out | apply below_alloc | apply pw_below_drewN | apply below_drew1) | exact HB.out)) hb); have n1_ := Aside0.mk (hbox); have n2_ := Aside0.mk ((by rw [hg]; exact (below_size (by repeat (first | (with_reducible first | exact HB.out | apply below_alloc | apply pw_below_drewN | apply below_drew1) | exact HB.out))) : w.heap.size ≤ gb118)); have n3_ := Aside0.mk ((by rw [hg]; exact (below_size (by repeat (first | (with_reducible first | exact HB.out | apply below_alloc | apply pw_below_drewN | apply below_drew1) | exact HB.out))) : w.heap.size ≤ gb118)); clear HB; have HB := n0_; have BK118 := n1_; have GW118 := n2_; have GE118 := n3_; clear n0_ n1_ n2_ n3_; clear hb hbox hg) | ((with_reducible refine gate_dst (N := 4) rfl ?_); refine box_event ?hg (N := 4) ?hd (cs := #[.int .i64 0, .string (⟨#[]⟩ : ByteArray), .string (⟨#[]⟩ : ByteArray), .int .i64 0, .int .i64 0]) (t := 41) ?hr ?_; (case hd => rfl); (case hg => rfl); (case hr => first | (go_simp; done) | (go_simp; rfl) | (go_simp; simp only [isEmpty_ne, isEmpty_eq]; done) | (go_simp; simp only [isEmpty_ne, isEmpty_eq]; rfl)); intro gb119 hg w13 hbox hb; have n0_ := Aside0.mk (blk_below (g := gb118) (o := .cells #[.int .i64 a0_0, .string a0_1, .string a0_2, .int .i64 a0_3, .int .i64 a0_4] 41 (0, 0)) (by (with_reducible repeat (first | refine blk_drewN ?_ _ | refine blk_drew ?_ | refine blk_alloc ?_ _)); exact BK118.out) hb); have n1_ := Aside0.mk (below_step (by repeat (first | (with_reducible first | exact HB.out | apply below_alloc | apply pw_below_drewN | apply below_drew1 | refine below_set ?_ GE118.out) | exact HB.out)) hb); have n2_ := Aside0.mk (hbox); have n3_ := Aside0.mk ((by rw [hg]; exact (below_size (by repeat (first | (with_reducible first | exact HB.out | apply below_alloc | apply pw_below_drewN | apply below_drew1 | refine below_set ?_ GE118.out) | exact HB.out))) : w.heap.size ≤ gb119)); have n4_ := Aside0.mk ((by rw [hg]; exact (below_size (by repeat (first | (with_reducible first | exact HB.out | apply below_alloc | apply pw_below_drewN | apply below_drew1 | refine below_set ?_ GE118.out) | exact HB.out))) : w.heap.size ≤ gb119)); have n5_ := Aside0.mk ((by rw [hg]; exact Nat.ne_of_lt (blk_lt (g := gb118) (o := .cells #[.int .i64 a0_0, .string a0_1, .string a0_2, .int .i64 a0_3, .int .i64 a0_4] 41 (0, 0)) (by (with_reducible repeat (first | refine blk_drewN ?_ _ | refine blk_drew ?_ | refine blk_alloc ?_ _)); exact BK118.out)) : gb118 ≠ gb119)); have n6_ := Aside0.mk ((by rw [hg]; exact Nat.ne_of_gt (blk_lt (g := gb118) (o := .cells #[.int .i64 a0_0, .string a0_1, .string a0_2, .int .i64 a0_3, .int .i64 a0_4] 41 (0, 0)) (by (with_reducible repeat (first | refine blk_drewN ?_ _ | refine blk_drew ?_ | refine blk_alloc ?_ _)); exact BK118.out)) : gb119 ≠ gb118)); clear BK118; clear HB; have BK118 := n0_; have HB := n1_; have BK119 := n2_; have GW119 := n3_; have GE119 := n4_; have NB118_119 := n5_; have NB119_118 := n6_; clear n0_ n1_ n2_ n3_ n4_ n5_ n6_; clear hb hbox hg) | ((with_reducible refine gate_dst (N := 6) rfl ?_); refine box_event ?hg (N := 6) ?hd (cs := #[.int .i64 0, .string (⟨#[]⟩ : ByteArray), .string (⟨#[]⟩ : ByteArray), .int .i64 0, .int .i64 0]) (t := 41) ?hr ?_; (case hd => rfl); (case hg => rfl); (case hr => first | (go_simp; done) | (go_simp; rfl) | (go_simp; simp only [isEmpty_ne, isEmpty_eq]; done) | (go_simp; simp only [isEmpty_ne, isEmpty_eq]; rfl)); intro gb120 hg w14 hbox hb; have n0_ := Aside0.mk (blk_below (g := gb118) (o := .cells #[.int .i64 a0_0, .string a0_1, .string a0_2, .int .i64 a0_3, .int .i64 a0_4] 41 (0, 0)) (by (with_reducible repeat (first | refine blk_drewN ?_ _ | refine blk_drew ?_ | refine blk_alloc ?_ _)); exact BK118.out) hb); have n1_ := Aside0.mk (blk_below (g := gb119) (o := .cells #[.int .i64 0, .string (⟨#[]⟩ : ByteArray), .string (⟨#[]⟩ : ByteArray), .int .i64 0, .int .i64 0] 41 (0, 0)) (by (with_reducible repeat (first | refine blk_drewN ?_ _ | refine blk_drew ?_ | refine blk_alloc ?_ _)); exact BK119.out) hb); have n2_ := Aside0.mk (below_step (by repeat (first | (with_reducible first | exact HB.out | apply below_alloc | apply pw_below_drewN | apply below_drew1 | refine below_set ?_ GE118.out | refine below_set ?_ GE119.out) | exact HB.out)) hb); have n3_ := Aside0.mk (hbox); have n4_ := Aside0.mk ((by rw [hg]; exact (below_size (by repeat (first | (with_reducible first | exact HB.out | apply below_alloc | apply pw_below_drewN | apply below_drew1 | refine below_set ?_ GE118.out | refine below_set ?_ GE119.out) | exact HB.out))) : w.heap.size ≤ gb120)); have n5_ := Aside0.mk ((by rw [hg]; exact (below_size (by repeat (first | (with_reducible first | exact HB.out | apply below_alloc | apply pw_below_drewN | apply below_drew1 | refine below_set ?_ GE118.out | refine below_set ?_ GE119.out) | exact HB.out))) : w.heap.size ≤ gb120)); have n6_ := Aside0.mk ((by rw [hg]; exact Nat.ne_of_lt (blk_lt (g := gb118) (o := .cells #[.int .i64 a0_0, .string a0_1, .string a0_2, .int .i64 a0_3, .int .i64 a0_4] 41 (0, 0)) (by (with_reducible repeat (first | refine blk_drewN ?_ _ | refine blk_drew ?_ | refine blk_alloc ?_ _)); exact BK118.out)) : gb118 ≠ gb120)); have n7_ := Aside0.mk ((by rw [hg]; exact Nat.ne_of_gt (blk_lt (g := gb118) (o := .cells #[.int .i64 a0_0, .string a0_1, .string a0_2, .int .i64 a0_3, .int .i64 a0_4] 41 (0, 0)) (by (with_reducible repeat (first | refine blk_drewN ?_ _ | refine blk_drew ?_ | refine blk_alloc ?_ _)); exact BK118.out)) : gb120 ≠ gb118)); have n8_ := Aside0.mk ((by rw [hg]; exact Nat.ne_of_lt (blk_lt (g := gb119) (o := .cells #[.int .i64 0, .string (⟨#[]⟩ : ByteArray), .string (⟨#[]⟩ : ByteArray), .int .i64 0, .int .i64 0] 41 (0, 0)) (by (with_reducible repeat (first | refine blk_drewN ?_ _ | refine blk_drew ?_ | refine blk_alloc ?_ _)); exact BK119.out)) : gb119 ≠ gb120)); have n9_ := Aside0.mk ((by rw [hg]; exact Nat.ne_of_gt (blk_lt (g := gb119) (o := .cells #[.int .i64 0, .string (⟨#[]⟩ : ByteArray), .string (⟨#[]⟩ : ByteArray), .int .i64 0, .int .i64 0] 41 (0, 0)) (by (with_reducible repeat (first | refine blk_drewN ?_ _ | refine blk_drew ?_ | refine blk_alloc ?_ _)); exact BK119.out)) : gb120 ≠ gb119)); clear BK118; clear BK119; clear HB; have BK118 := n0_; have BK119 := n1_; have HB := n2_; have BK120 := n3_; have GW120 := n4_; have GE120 := n5_; have NB118_120 := n6_; have NB120_118 := n7_; have NB119_120 := n8_; have NB120_119 := n9_; clear n0_ n1_ n2_ n3_ n4_ n5_ n6_ n7_ n8_ n9_; clear hb hbox hg; have hnb15 := NB120_118.out; have hnc15 := NB118_120.out; have hnb16 := NB120_119.out; have hnc16 := NB119_120.out; have hcz17_0 : w14.cell? ⟨gb120, 0, none⟩ = some (.int .i64 0) := (blk_cell BK120.out 0).trans rfl; have hcz17_1 : w14.cell? ⟨gb120, 1, none⟩ = some (.string (⟨#[]⟩ : ByteArray)) := (blk_cell BK120.out 1).trans rfl; have hcz17_2 : w14.cell? ⟨gb120, 2, none⟩ = some (.string (⟨#[]⟩ : ByteArray)) := (blk_cell BK120.out 2).trans rfl; have hcz17_3 : w14.cell? ⟨gb120, 3, none⟩ = some (.int .i64 0) := (blk_cell BK120.out 3).trans rfl; have hcz17_4 : w14.cell? ⟨gb120, 4, none⟩ = some (.int .i64 0) := (blk_cell BK120.out 4).trans rfl; have hfz17_0 := blk_frozen BK120.out 0; have hfz17_1 := blk_frozen BK120.out 1; have hfz17_2 := blk_frozen BK120.out 2; have hfz17_3 := blk_frozen BK120.out 3; have hfz17_4 := blk_frozen BK120.out 4; have hnb18 := NB119_118.out; have hnc18 := NB118_119.out; have hcz19_0 : w14.cell? ⟨gb119, 0, none⟩ = some (.int .i64 0) := (blk_cell BK119.out 0).trans rfl; have hcz19_1 : w14.cell? ⟨gb119, 1, none⟩ = some (.string (⟨#[]⟩ : ByteArray)) := (blk_cell BK119.out 1).trans rfl; have hcz19_2 : w14.cell? ⟨gb119, 2, none⟩ = some (.string (⟨#[]⟩ : ByteArray)) := (blk_cell BK119.out 2).trans rfl; have hcz19_3 : w14.cell? ⟨gb119, 3, none⟩ = some (.int .i64 0) := (blk_cell BK119.out 3).trans rfl; have hcz19_4 : w14.cell? ⟨gb119, 4, none⟩ = some (.int .i64 0) := (blk_cell BK119.out 4).trans rfl; have hfz19_0 := blk_frozen BK119.out 0; have hfz19_1 := blk_frozen BK119.out 1; have hfz19_2 := blk_frozen BK119.out 2; have hfz19_3 := blk_frozen BK119.out 3; have hfz19_4 := blk_frozen BK119.out 4))
    refine bodyPost_ret (results_ct rfl _ _ gb119 41 #[.int .i64 0, .string (⟨#[]⟩ : ByteArray), .string (⟨#[]⟩ : ByteArray), .int .i64 0, .int .i64 0] (0, 0) _ rfl (by (with_reducible repeat (first | refine blk_drewN ?_ _ | refine blk_drew ?_ | refine blk_alloc ?_ _)); refine blk_put (cs := #[.int .i64 0, .string (⟨#[]⟩ : ByteArray), .string (⟨#[]⟩ : ByteArray), .int .i64 0, .int .i64 0]) ?_ 4 _ rfl; (with_reducible repeat (first | refine blk_drewN ?_ _ | refine blk_drew ?_ | refine blk_alloc ?_ _)); refine blk_put (cs := #[.int .i64 0, .string (⟨#[]⟩ : ByteArray), .string (⟨#[]⟩ : ByteArray), .int .i64 0, .int .i64 0]) ?_ 3 _ rfl; (with_reducible repeat (first | refine blk_drewN ?_ _ | refine blk_drew ?_ | refine blk_alloc ?_ _)); refine blk_put (cs := #[.int .i64 0, .string (⟨#[]⟩ : ByteArray), .string (⟨#[]⟩ : ByteArray), .int .i64 0, .int .i64 0]) ?_ 2 _ rfl; (with_reducible repeat (first | refine blk_drewN ?_ _ | refine blk_drew ?_ | refine blk_alloc ?_ _)); refine blk_put (cs := #[.int .i64 0, .string (⟨#[]⟩ : ByteArray), .string (⟨#[]⟩ : ByteArray), .int .i64 0, .int .i64 0]) ?_ 1 _ rfl; (with_reducible repeat (first | refine blk_drewN ?_ _ | refine blk_drew ?_ | refine blk_alloc ?_ _)); refine blk_put (cs := #[.int .i64 0, .string (⟨#[]⟩ : ByteArray), .string (⟨#[]⟩ : ByteArray), .int .i64 0, .int .i64 0]) ?_ 0 _ rfl; (with_reducible repeat (first | refine blk_drewN ?_ _ | refine blk_drew ?_ | refine blk_alloc ?_ _)); exact BK119.out) Tryz.underlying41 rfl (by kernel_rfl)) rfl ?_
    exact ⟨by first | rfl | (simp [errW_none, errW_some] <;> rfl) | (simp [*, errW_none, errW_some] <;> rfl), by repeat (first | (with_reducible first | exact HB.out | apply below_alloc | apply pw_below_drewN | apply below_drew1 | refine below_set ?_ GE118.out | refine below_set ?_ GE119.out | refine below_set ?_ GE120.out) | exact HB.out)⟩
end Go.Proofs.YtbjbicaffblchaaGreatDoor.SA
end
section
namespace Go.Proofs.YtbjbicaffblchaaGreatDoor.Hand
open Go.RowKit Go.Proofs.YtbjbicaffblchaaGreatDoor.SA
def sch0 : Value := .agg #[.string ⟨#[100, 116, 110]⟩, .func (.func 50) #[] #[], .func (.func 51) #[] #[], .func (.func 52) #[] #[]]
def sch1 : Value := .agg #[.string ⟨#[100, 116, 110]⟩, .func (.func 53) #[] #[], .func (.func 54) #[] #[], .func (.func 55) #[] #[]]
def sch2 : Value := .agg #[.string ⟨#[105, 112, 110]⟩, .func (.func 56) #[] #[], .func (.func 57) #[] #[], .func (.func 59) #[] #[]]
def schs : Array MapEntry := #[⟨.int .i64 0, sch0, 0⟩, ⟨.int .i64 1, sch1, 1⟩, ⟨.int .i64 2, sch2, 2⟩]
def MT : TypeId := 78
theorem store_alloc (w : World) (es : Array MapEntry) (clock : Nat) (n : Int) (v : Value) (h : Instr.findNow (.int .i64) (.int .i64 n) es.toList 0 = some none) :
    (Instr.mapUpdate 78 (.map (some w.heap.size)) (.int .i64 n) v).run Tryz.prog (w.alloc (.map es clock)) = .ok () (w.alloc (.map (es.push ⟨.int .i64 n, v, clock⟩) (clock + 1))) := by
  rw [run_mapUpdate_miss (w.alloc (.map es clock)) w.heap.size es clock _ _ _ _ (.int .i64 n) v Tryz.underlying78 Tryz.underlying3 (fun e W => run_checkKey_int W _ _ Tryz.underlying3 e _ _) (World.alloc_heap_new _ _) h, putObj_alloc]
set_option maxRecDepth 100000 in
theorem schemes_calls (w : World) :
    Calls Tryz.prog 37 #[] w fun e w' => e = .returned (.map (some w.heap.size)) ∧ w.alloc (.map schs 3) = w' := by
  have hmm := @run_makeMap Tryz.prog
  have h0 := store_alloc w #[] 0 0 sch0 rfl
  have h1 := store_alloc w #[⟨.int .i64 0, sch0, 0⟩] 1 1 sch1 rfl
  have h2 := store_alloc w #[⟨.int .i64 0, sch0, 0⟩, ⟨.int .i64 1, sch1, 1⟩] 2 2 sch2 rfl
  simp only [List.push_toArray, List.nil_append, List.cons_append, Nat.reduceAdd] at h0 h1 h2
  simp only [sch0, sch1, sch2] at h0 h1 h2
  go_enter Tryz.func37, Tryz.ntmps37
  go_wp2
  go_ret
  exact ⟨rfl, rfl⟩
end Go.Proofs.YtbjbicaffblchaaGreatDoor.Hand
end
section
namespace Go.Proofs.YtbjbicaffblchaaGreatDoor.Hand
open Go.RowKit Go.Proofs.YtbjbicaffblchaaGreatDoor.SA
def schAt (n : Int) : Option Value := if n = 0 then some sch0 else if n = 1 then some sch1 else if n = 2 then some sch2 else none
def schZ : Value := .agg #[.string ⟨#[]⟩, .nilFunc, .nilFunc, .nilFunc]
theorem zero_sch (W : World) : (zeroValue 77).run Tryz.prog W = .ok schZ W := by kernel_rfl
theorem look_sch (n : Int) (ok : Bool) (W : World) (b : Nat) (hb : W.heap[b]? = some (.map schs 3)) :
    (Instr.lookup 78 (.map (some b)) (.int .i64 n) ok).run Tryz.prog W = .ok (match schAt n with | some v => if ok then .tuple #[v, .bool true] else v | none => if ok then .tuple #[schZ, .bool false] else schZ) W := by
  unfold schAt
  by_cases h0 : n = 0
  · subst h0
    exact run_lookup_hit W b schs 3 _ _ _ _ _ sch0 0 ok Tryz.underlying78 Tryz.underlying3 (fun e W => run_checkKey_int W _ _ Tryz.underlying3 e _ _) hb rfl
  by_cases h1 : n = 1
  · subst h1
    exact run_lookup_hit W b schs 3 _ _ _ _ _ sch1 1 ok Tryz.underlying78 Tryz.underlying3 (fun e W => run_checkKey_int W _ _ Tryz.underlying3 e _ _) hb rfl
  by_cases h2 : n = 2
  · subst h2
    exact run_lookup_hit W b schs 3 _ _ _ _ _ sch2 2 ok Tryz.underlying78 Tryz.underlying3 (fun e W => run_checkKey_int W _ _ Tryz.underlying3 e _ _) hb rfl
  rw [if_neg h0, if_neg h1, if_neg h2]
  refine run_lookup_miss W b schs 3 _ _ _ _ _ schZ ok Tryz.underlying78 Tryz.underlying3 (fun e W => run_checkKey_int W _ _ Tryz.underlying3 e _ _) hb zero_sch ?_
  have e0 : (n == 0) = false := beq_eq_false_iff_ne.2 h0
  have e1 : (n == 1) = false := beq_eq_false_iff_ne.2 h1
  have e2 : (n == 2) = false := beq_eq_false_iff_ne.2 h2
  simp [schs, Instr.findNow, Instr.sameNow, e0, e1, e2]
def schOf (wd : ByteArray) (i j k : Nat) : Value := .agg #[.string wd, .func (.func i) #[] #[], .func (.func j) #[] #[], .func (.func k) #[] #[]]
theorem look_some {n : Int} {wd : ByteArray} {i j k : Nat} (hs : schAt n = some (schOf wd i j k)) (ok : Bool) (W : World) (b : Nat) (hb : W.heap[b]? = some (.map schs 3)) :
    (Instr.lookup 78 (.map (some b)) (.int .i64 n) ok).run Tryz.prog W = .ok (if ok then .tuple #[schOf wd i j k, .bool true] else schOf wd i j k) W := by
  have h := look_sch n ok W b hb
  rw [hs] at h
  exact h
set_option maxRecDepth 100000 in
set_option maxHeartbeats 2000000 in
theorem right_some (n : Int) (a0_1 a0_2 : ByteArray) (a0_3 a0_4 : Int) (wd : ByteArray) (i j k : Nat) (hs : schAt n = some (schOf wd i j k)) (r : Bool) (hent : ∀ args w, (callFunc i args).run Tryz.prog w = .ok (.enter i args) w)
    (hcall : ∀ W : World, Calls Tryz.prog i #[.agg #[.int .i64 n, .string a0_1, .string a0_2, .int .i64 a0_3, .int .i64 a0_4]] W fun e w' => e = .returned (.bool r) ∧ Below W.heap.size W w') (w : World) :
    Calls Tryz.prog 36 #[.agg #[.int .i64 n, .string a0_1, .string a0_2, .int .i64 a0_3, .int .i64 a0_4]] w fun e w' => e = .returned (.bool r) ∧ Below w.heap.size w w' := by
  have hu := Tryz.underlying41
  have hus := Tryz.underlying77
  have HC := Lib.hid hcall
  clear hcall
  have HLK := Lib.hid (look_some hs true)
  clear hs
  go_enter Tryz.func36, Tryz.ntmps36
  go_wp2
  obtain ⟨w1, hw1⟩ : ∃ w1, w1 = w.alloc (.cells #[.int .i64 n, .string a0_1, .string a0_2, .int .i64 a0_3, .int .i64 a0_4] 41) := ⟨_, rfl⟩
  have hB : Below w.heap.size w w1 := by rw [hw1]; exact (Below.refl _ _).alloc (Nat.le_refl _) _
  have hc0 : w1.cell? ⟨w.heap.size, 0, none⟩ = some (.int .i64 n) := by rw [hw1]; simp
  have hb0 : w1.heap[w.heap.size]? = some (.cells #[.int .i64 n, .string a0_1, .string a0_2, .int .i64 a0_3, .int .i64 a0_4] 41) := by rw [hw1]; exact World.alloc_heap_new _ _
  have hlt : w.heap.size < w1.heap.size := by rw [hw1]; simp
  have hcA : ∀ o, (w1.alloc o).cell? ⟨w.heap.size, 0, none⟩ = some (.int .i64 n) := fun o => by rw [World.cell?_alloc_past _ _ _ hlt]; exact hc0
  have hcB : ∀ o o', ((w1.alloc o).alloc o').cell? ⟨w.heap.size, 0, none⟩ = some (.int .i64 n) := fun o o' => by rw [World.cell?_alloc_past _ _ _ (by simp; omega)]; exact hcA o
  rw [← hw1]
  clear hw1
  have hl1 : (Instr.lookup 78 (.map (some w1.heap.size)) (.int .i64 n) true).run Tryz.prog (w1.alloc (.map schs 3)).drew = .ok (.tuple #[schOf wd i j k, .bool true]) (w1.alloc (.map schs 3)).drew := HLK.out _ _ (World.alloc_heap_new _ _)
  have hl2 : ∀ o, (Instr.lookup 78 (.map (some w1.heap.size)) (.int .i64 n) true).run Tryz.prog ((w1.alloc (.map schs 3)).alloc o).drew = .ok (.tuple #[schOf wd i j k, .bool true]) ((w1.alloc (.map schs 3)).alloc o).drew := fun o => HLK.out _ _ ((Below.heap_alloc _ _ _ (by simp)).trans (World.alloc_heap_new _ _))
  have hl3 : ∀ o, (Instr.lookup 78 (.map (some (w1.heap.size + 1))) (.int .i64 n) true).run Tryz.prog ((w1.alloc o).alloc (.map schs 3)).drew = .ok (.tuple #[schOf wd i j k, .bool true]) ((w1.alloc o).alloc (.map schs 3)).drew := fun o => HLK.out _ _ (by have := World.alloc_heap_new (w1.alloc o) (.map schs 3); rwa [World.size_alloc] at this)
  simp only [schOf] at hl1 hl2 hl3
  go_upto_region 2 with (fail)
  go_cut [3, 4, 5, 6, 7, 8, 9, 10, 11] (fun s3 s4 _ _ _ _ _ _ _ wc => ∃ g : Nat, w1.heap.size ≤ g ∧ s3 = .pointer (some ⟨g, 0, none⟩) ∧ s4 = .bool true ∧ wc.cell? ⟨g, 1, none⟩ = some (.func (.func i) #[] #[]) ∧ Below w1.heap.size w1 wc)
  case first =>
    go_region_with (go_at_call 37; refine (schemes_calls _).mono ?_; rintro e w' ⟨rfl, rfl⟩)
    all_goals go_wp2
    all_goals go_meet
    all_goals (case rel => exact ⟨_, by first | exact Nat.le_refl _ | exact Nat.le_succ _, rfl, rfl, by first | rfl | (simp; done), by repeat (first | exact Below.refl _ _ | apply b_alloc | apply Below.drew)⟩)
  case rest =>
    obtain ⟨g, hg, rfl, rfl, hcell, hbw⟩ := hcut
    have hz := (hbw.block _ hlt).trans hb0
    have z0 := cell_blk hz 0
    have z1 := cell_blk hz 1
    have z2 := cell_blk hz 2
    have z3 := cell_blk hz 3
    have z4 := cell_blk hz 4
    simp at z0 z1 z2 z3 z4
    clear hcA hcB hc0 hb0 hl1 hl2 hl3 hz hlt
    go_wp2_with (first | ((with_reducible refine (HC.out _).mono ?_); rintro e w2 ⟨rfl, hb2⟩))
    go_ret
    exact ⟨rfl, hB.trans ((hbw.trans (hb2.mono hbw.size)).mono hB.size)⟩
theorem look_none {n : Int} (hs : schAt n = none) (ok : Bool) (W : World) (b : Nat) (hb : W.heap[b]? = some (.map schs 3)) :
    (Instr.lookup 78 (.map (some b)) (.int .i64 n) ok).run Tryz.prog W = .ok (if ok then .tuple #[schZ, .bool false] else schZ) W := by
  have h := look_sch n ok W b hb
  rw [hs] at h
  exact h
set_option maxRecDepth 100000 in
set_option maxHeartbeats 2000000 in
theorem right_none (n : Int) (a0_1 a0_2 : ByteArray) (a0_3 a0_4 : Int) (hs : schAt n = none) (w : World) :
    Calls Tryz.prog 36 #[.agg #[.int .i64 n, .string a0_1, .string a0_2, .int .i64 a0_3, .int .i64 a0_4]] w fun e w' => e = .returned (.bool false) ∧ Below w.heap.size w w' := by
  have hu := Tryz.underlying41
  have hus := Tryz.underlying77
  have HLK := Lib.hid (look_none hs true)
  clear hs
  go_enter Tryz.func36, Tryz.ntmps36
  go_wp2
  obtain ⟨w1, hw1⟩ : ∃ w1, w1 = w.alloc (.cells #[.int .i64 n, .string a0_1, .string a0_2, .int .i64 a0_3, .int .i64 a0_4] 41) := ⟨_, rfl⟩
  have hB : Below w.heap.size w w1 := by rw [hw1]; exact (Below.refl _ _).alloc (Nat.le_refl _) _
  have hc0 : w1.cell? ⟨w.heap.size, 0, none⟩ = some (.int .i64 n) := by rw [hw1]; simp
  have hb0 : w1.heap[w.heap.size]? = some (.cells #[.int .i64 n, .string a0_1, .string a0_2, .int .i64 a0_3, .int .i64 a0_4] 41) := by rw [hw1]; exact World.alloc_heap_new _ _
  have hlt : w.heap.size < w1.heap.size := by rw [hw1]; simp
  have hcA : ∀ o, (w1.alloc o).cell? ⟨w.heap.size, 0, none⟩ = some (.int .i64 n) := fun o => by rw [World.cell?_alloc_past _ _ _ hlt]; exact hc0
  have hcB : ∀ o o', ((w1.alloc o).alloc o').cell? ⟨w.heap.size, 0, none⟩ = some (.int .i64 n) := fun o o' => by rw [World.cell?_alloc_past _ _ _ (by simp; omega)]; exact hcA o
  rw [← hw1]
  clear hw1
  have hl1 : (Instr.lookup 78 (.map (some w1.heap.size)) (.int .i64 n) true).run Tryz.prog (w1.alloc (.map schs 3)).drew = .ok (.tuple #[schZ, .bool false]) (w1.alloc (.map schs 3)).drew := HLK.out _ _ (World.alloc_heap_new _ _)
  have hl2 : ∀ o, (Instr.lookup 78 (.map (some w1.heap.size)) (.int .i64 n) true).run Tryz.prog ((w1.alloc (.map schs 3)).alloc o).drew = .ok (.tuple #[schZ, .bool false]) ((w1.alloc (.map schs 3)).alloc o).drew := fun o => HLK.out _ _ ((Below.heap_alloc _ _ _ (by simp)).trans (World.alloc_heap_new _ _))
  have hl3 : ∀ o, (Instr.lookup 78 (.map (some (w1.heap.size + 1))) (.int .i64 n) true).run Tryz.prog ((w1.alloc o).alloc (.map schs 3)).drew = .ok (.tuple #[schZ, .bool false]) ((w1.alloc o).alloc (.map schs 3)).drew := fun o => HLK.out _ _ (by have := World.alloc_heap_new (w1.alloc o) (.map schs 3); rwa [World.size_alloc] at this)
  simp only [schZ] at hl1 hl2 hl3
  go_upto_region 2 with (fail)
  go_cut [3, 4, 5, 6, 7, 8, 9, 10, 11] (fun s3 s4 _ _ _ _ _ _ _ wc => ∃ g : Nat, w1.heap.size ≤ g ∧ s3 = .pointer (some ⟨g, 0, none⟩) ∧ s4 = .bool false ∧ Below w1.heap.size w1 wc)
  case first =>
    go_region_with (go_at_call 37; refine (schemes_calls _).mono ?_; rintro e w' ⟨rfl, rfl⟩)
    all_goals go_wp2
    all_goals go_meet
    all_goals (case rel => exact ⟨_, by first | exact Nat.le_refl _ | exact Nat.le_succ _, rfl, rfl, by repeat (first | exact Below.refl _ _ | apply b_alloc | apply Below.drew)⟩)
  case rest =>
    obtain ⟨g, hg, rfl, rfl, hbw⟩ := hcut
    clear hcA hcB hc0 hb0 hl1 hl2 hl3 hlt
    go_wp2
    go_ret
    exact ⟨rfl, hB.trans (hbw.mono hB.size)⟩
end Go.Proofs.YtbjbicaffblchaaGreatDoor.Hand
end
section
namespace Go.Proofs.YtbjbicaffblchaaGreatDoor.Hand
open Go.RowKit Go.Proofs.YtbjbicaffblchaaGreatDoor.SA
theorem areAll_from (l : List Bool) : ∀ (d k : Nat) (i : Int), 0 ≤ i → i ≤ l.length → (l.length : Int) - i = d → d < k → l.length ≤ 1000 → eid_areAll.l0 k l (l.length : Int) i = some ((l.drop i.toNat).all id) := by
  intro d
  induction d with
  | zero =>
    intro k i h0 h1 hd hk _
    obtain ⟨k, rfl⟩ : ∃ m, k = m + 1 := ⟨k - 1, by omega⟩
    simp only [eid_areAll.l0]
    rw [if_neg (by omega), List.drop_eq_nil_of_le (by omega)]
    rfl
  | succ d ih =>
    intro k i h0 h1 hd hk hl
    obtain ⟨k, rfl⟩ : ∃ m, k = m + 1 := ⟨k - 1, by omega⟩
    simp only [eid_areAll.l0]
    rw [if_pos (by omega), if_pos h0, if_pos (by omega)]
    have hw : wrap64 (i + 1) = i + 1 := by unfold wrap64; omega
    have hlt : i.toNat < l.length := by omega
    have hr : YtbjbicaffblchaaGreatDoorW.PrintWords.rdOf false l i = l[i.toNat] := by
      unfold YtbjbicaffblchaaGreatDoorW.PrintWords.rdOf
      simp [List.getD_eq_getElem?_getD, List.getElem?_eq_getElem hlt]
    rw [hr, hw, List.drop_eq_getElem_cons hlt, List.all_cons]
    have hi := ih k (i + 1) (by omega) (by omega) (by omega) (by omega) hl
    rw [show (i + 1).toNat = i.toNat + 1 by omega] at hi
    cases h : l[i.toNat] with
    | true => simp [hi]
    | false => simp
theorem areAll_is (l : List Bool) (k : Nat) (hk : l.length < k) (hl : l.length ≤ 1000) : eid_areAll.f k l = some (l.all id) := by
  unfold eid_areAll.f
  have := areAll_from l l.length k 0 (by omega) (by omega) (by omega) hk hl
  simpa using this
set_option maxRecDepth 100000 in
theorem rest4_calls (n : Int) (a1 a2 : ByteArray) (a3 a4 : Int) (w : World) (h1 : a1.size ≤ 1000000) (h2 : a2.size ≤ 1000000) :
    Calls Tryz.prog 54 #[.agg #[.int .i64 n, .string a1, .string a2, .int .i64 a3, .int .i64 a4]] w fun e w' => e = .returned (.string (⟨#[47, 47]⟩ ++ a1 ++ ⟨#[47]⟩ ++ a2)) ∧ Below w.heap.size w w' := by
  have hu := Tryz.underlying41
  go_enter Tryz.func54, Tryz.ntmps54
  go_wp2
  go_ret
  exact ⟨rfl, b_alloc (Below.refl _ _) _⟩
def rightS (n : Int) (a1 a2 : ByteArray) (a3 a4 : Int) : Bool :=
  if n = 0 then a1.toList == [] && (a2.toList == [] && (a3 == 0 && a4 == 0))
  else if n = 1 then a1.toList != [] && (partS a1 ⟨#[45, 46]⟩ && (partS a2 ⟨#[45, 46, 47]⟩ && (a3 == 0 && a4 == 0)))
  else if n = 2 then a1.toList == [] && (a2.toList == [] && (decide (a3 ≥ 1) && (decide (a3 ≤ 999999999) && (decide (a4 ≥ 0) && decide (a4 ≤ 999999999)))))
  else false
def eid_Right.f (a0_0 : Int) (a0_1 a0_2 : ByteArray) (a0_3 a0_4 : Int) : Option Bool := if a0_1.size ≤ maxLen ∧ a0_2.size ≤ maxLen then some (rightS a0_0 a0_1 a0_2 a0_3 a0_4) else none
theorem isDtn_is (n : Int) (a1 a2 : ByteArray) (a3 a4 : Int) (h1 : a1.size ≤ maxLen) (h2 : a2.size ≤ maxLen) :
    eid_isDtn.f 10 n a1 a2 a3 a4 = some (a1.toList != [] && (partS a1 ⟨#[45, 46]⟩ && (partS a2 ⟨#[45, 46, 47]⟩ && (a3 == 0 && a4 == 0)))) := by
  unfold eid_isDtn.f eid_isPart.f
  rw [if_pos ⟨h1, by decide⟩, if_pos ⟨h2, by decide⟩]
  simp only [Option.bind_some]
  rw [areAll_is _ _ (by simp) (by simp)]
  simp
theorem isIpn_is (n : Int) (a1 a2 : ByteArray) (a3 a4 : Int) :
    eid_isIpn.f 10 n a1 a2 a3 a4 = some (a1.toList == [] && (a2.toList == [] && (decide (a3 ≥ 1) && (decide (a3 ≤ 999999999) && (decide (a4 ≥ 0) && decide (a4 ≤ 999999999)))))) := by
  unfold eid_isIpn.f
  rw [areAll_is _ _ (by simp) (by simp)]
  simp
theorem eid_Right.calls (a0_0 : Int) (a0_1 a0_2 : ByteArray) (a0_3 a0_4 : Int) (r : Bool) (w : World) (h : eid_Right.f a0_0 a0_1 a0_2 a0_3 a0_4 = some r) :
    Calls Tryz.prog 36 #[.agg #[.int .i64 a0_0, .string a0_1, .string a0_2, .int .i64 a0_3, .int .i64 a0_4]] w fun e w' => e = .returned (.bool r) ∧ Below w.heap.size w w' := by
  unfold eid_Right.f at h
  split at h
  case isFalse => cases h
  rename_i hc
  obtain ⟨h1, h2⟩ := hc
  obtain rfl := Option.some.inj h
  unfold rightS
  by_cases e0 : a0_0 = 0
  · subst e0
    rw [if_pos rfl]
    exact right_some 0 a0_1 a0_2 a0_3 a0_4 _ _ _ _ (by rw [schAt, if_pos rfl]; rfl) _ (Go.Proofs.enters_of Tryz.func50 (by kernel_rfl) rfl)
      (fun W => (eid_schemes_1.calls 0 a0_1 a0_2 a0_3 a0_4 _ W (by unfold eid_schemes_1.f; rfl)).mono fun _ _ h => ⟨by rw [h.1]; simp, h.2⟩) w
  rw [if_neg e0]
  by_cases e1 : a0_0 = 1
  · subst e1
    rw [if_pos rfl]
    exact right_some 1 a0_1 a0_2 a0_3 a0_4 _ _ _ _ (by rw [schAt, if_neg (by decide), if_pos rfl]; rfl) _ (Go.Proofs.enters_of Tryz.func53 (by kernel_rfl) rfl)
      (fun W => eid_isDtn.calls 10 1 a0_1 a0_2 a0_3 a0_4 _ W (isDtn_is _ _ _ _ _ h1 h2)) w
  rw [if_neg e1]
  by_cases e2 : a0_0 = 2
  · subst e2
    rw [if_pos rfl]
    exact right_some 2 a0_1 a0_2 a0_3 a0_4 _ _ _ _ (by rw [schAt, if_neg (by decide), if_neg (by decide), if_pos rfl]; rfl) _ (Go.Proofs.enters_of Tryz.func56 (by kernel_rfl) rfl)
      (fun W => eid_isIpn.calls 10 2 a0_1 a0_2 a0_3 a0_4 _ W (isIpn_is _ _ _ _ _)) w
  rw [if_neg e2]
  exact right_none a0_0 a0_1 a0_2 a0_3 a0_4 (by rw [schAt, if_neg e0, if_neg e1, if_neg e2]) w
end Go.Proofs.YtbjbicaffblchaaGreatDoor.Hand
end
section
namespace Go.Proofs.YtbjbicaffblchaaGreatDoor.SB
open Go.Proofs.YtbjbicaffblchaaGreatDoor.Hand
open Go.RowKit Go.Proofs.YtbjbicaffblchaaGreatDoorW.PrintWords Go.Proofs.YtbjbicaffblchaaGreatDoorW.PrintLast Go.Proofs.YtbjbicaffblchaaGreatDoorW.PrintMore
attribute [local go_sem] max2_int min2_int max_two min_two max_three min_three max_four min_four
set_option linter.unusedVariables false
set_option linter.unusedSimpArgs false
def errW : Option Int → Value
  | none => .nilIface
  | some c => .iface 0 (.int .i64 c)
theorem errW_none : errW none = .nilIface := rfl
theorem errW_some (c : Int) : errW (some c) = .iface 0 (.int .i64 c) := rfl
end Go.Proofs.YtbjbicaffblchaaGreatDoor.SB
end
section
namespace Go.Proofs.YtbjbicaffblchaaGreatDoor.SB
open Go.Proofs.YtbjbicaffblchaaGreatDoor.Hand
open Go.RowKit Go.Proofs.YtbjbicaffblchaaGreatDoorW.PrintWords Go.Proofs.YtbjbicaffblchaaGreatDoorW.PrintLast Go.Proofs.YtbjbicaffblchaaGreatDoorW.PrintMore
attribute [local go_sem] max2_int min2_int max_two min_two max_three min_three max_four min_four
set_option linter.unusedVariables false
set_option linter.unusedSimpArgs false
def eid_schemes_5.f (a0_0 : Int) (a0_1 : ByteArray) (a0_2 : ByteArray) (a0_3 : Int) (a0_4 : Int) : Option (ByteArray) := (strconv_Itoa.f a0_3).bind fun t102 => (if t102.size + 1 ≤ 9223372036854775807 then ((strconv_Itoa.f a0_4).bind fun t103 => (if t102.size + 1 + t103.size ≤ 9223372036854775807 then (some ((t102 ++ (⟨#[46]⟩ : ByteArray)) ++ t103)) else (none))) else (none))
def eid_schemes_5.T1 : Bool × List (List Nat × List Nat) := (true, [([], []), ([0], [0]), ([1], [1]), ([2], [2]), ([], []), ([4], [4]), ([5, 2], [5]), ([3, 6], [3, 6]), ([7, 6, 0, 1, 2, 3, 4, 5, 6, 7], [7])])
def eid_schemes_5.B1 : List Nat := [0, 1, 3, 7, 0, 16, 55, 127, 255]
theorem eid_schemes_5.tab1 : rtab .any (opsOf Tryz.f57 1) = eid_schemes_5.T1 := by kernel_rfl
theorem eid_schemes_5.bits1 : waitsOk eid_schemes_5.T1.2 eid_schemes_5.B1 = true := by kernel_rfl
set_option maxHeartbeats 8000000 in
set_option maxRecDepth 100000 in
theorem eid_schemes_5.calls (a0_0 : Int) (a0_1 : ByteArray) (a0_2 : ByteArray) (a0_3 : Int) (a0_4 : Int) (r : ByteArray) (w : World) (hLd : Laid w) (h : eid_schemes_5.f a0_0 a0_1 a0_2 a0_3 a0_4 = some r) :
    Calls Tryz.prog 57 #[.agg #[.int .i64 a0_0, .string a0_1, .string a0_2, .int .i64 a0_3, .int .i64 a0_4]] w fun e w' => e = .returned (.string r) ∧ Below w.heap.size w w' := by
  have hu41 := Tryz.underlying41
  have HLD := Aside0.mk hLd
  clear hLd
  have HB := Aside0.mk (Below.refl w.heap.size w)
  have H : ((strconv_Itoa.f a0_3).bind fun t102 => (if t102.size + 1 ≤ 9223372036854775807 then ((strconv_Itoa.f a0_4).bind fun t103 => (if t102.size + 1 + t103.size ≤ 9223372036854775807 then (some ((t102 ++ (⟨#[46]⟩ : ByteArray)) ++ t103)) else (none))) else (none))) = some r := h
  clear h
  replace H := Option.bind_eq_some_iff.mp H
  obtain ⟨t102, A20, H⟩ := H
  replace H : (if t102.size + 1 ≤ 9223372036854775807 then ((strconv_Itoa.f a0_4).bind fun t103 => (if t102.size + 1 + t103.size ≤ 9223372036854775807 then (some ((t102 ++ (⟨#[46]⟩ : ByteArray)) ++ t103)) else (none))) else (none)) = some r := H
  have A2 := Aside0.mk A20
  clear A20
  by_cases c3 : t102.size + 1 ≤ 9223372036854775807
  · rw [if_pos c3] at H
    have c3b0 := eq_true c3
    have c3b1 : decide (t102.size + 1 ≤ 9223372036854775807) = true := decide_eq_true c3
    try have c3b2 : (9223372036854775807 < t102.size + 1) = False := eq_false (Nat.not_lt.2 c3)
    replace H := Option.bind_eq_some_iff.mp H
    obtain ⟨t103, A40, H⟩ := H
    replace H : (if t102.size + 1 + t103.size ≤ 9223372036854775807 then (some ((t102 ++ (⟨#[46]⟩ : ByteArray)) ++ t103)) else (none)) = some r := H
    have A4 := Aside0.mk A40
    clear A40
    by_cases c5 : t102.size + 1 + t103.size ≤ 9223372036854775807
    · rw [if_pos c5] at H
      have c5b0 := eq_true c5
      have c5b1 : decide (t102.size + 1 + t103.size ≤ 9223372036854775807) = true := decide_eq_true c5
      try have c5b2 : (9223372036854775807 < t102.size + 1 + t103.size) = False := eq_false (Nat.not_lt.2 c5)
      obtain rfl := Option.some.inj H
      go_enter Tryz.func57, Tryz.ntmps57
      try go_wp2_with (first | ((with_reducible refine gate_dst (N := 1) rfl ?_); refine box_event ?hg (N := 1) ?hd (cs := #[.int .i64 a0_0, .string a0_1, .string a0_2, .int .i64 a0_3, .int .i64 a0_4]) (t := 41) ?hr ?_; (case hd => rfl); (case hg => rfl); (case hr => first | (go_simp; done) | (go_simp; rfl) | (go_simp; simp only [isEmpty_ne, isEmpty_eq]; done) | (go_simp; simp only [isEmpty_ne, isEmpty_eq]; rfl)); intro gb101 hg w6 hbox hb; have n0_ := Aside0.mk (below_step (by repeat (first | (with_reducible first | exact HB.out | apply below_alloc | apply pw_below_drewN | apply below_drew1) | exact HB.out)) hb); have n1_ := Aside0.mk (hbox); have n2_ := Aside0.mk ((by rw [hg]; exact (below_size (by repeat (first | (with_reducible first | exact HB.out | apply below_alloc | apply pw_below_drewN | apply below_drew1) | exact HB.out))) : w.heap.size ≤ gb101)); have n3_ := Aside0.mk ((by rw [hg]; exact (below_size (by repeat (first | (with_reducible first | exact HB.out | apply below_alloc | apply pw_below_drewN | apply below_drew1) | exact HB.out))) : w.heap.size ≤ gb101)); clear HB; have HB := n0_; have BK101 := n1_; have GW101 := n2_; have GE101 := n3_; clear n0_ n1_ n2_ n3_; clear hb hbox hg))
      have n0_ := Aside0.mk (blk_drew BK101.out)
      have n1_ := Aside0.mk (below_drew1 HB.out)
      clear BK101
      clear HB
      have BK101 := n0_
      have HB := n1_
      clear n0_ n1_
      refine start_ (n := 9) (S := fun w' => w'.cell? ⟨gb101, 0, none⟩ = some (.int .i64 a0_0) ∧ w'.cell? ⟨gb101, 1, none⟩ = some (.string a0_1) ∧ w'.cell? ⟨gb101, 2, none⟩ = some (.string a0_2) ∧ w'.cell? ⟨gb101, 3, none⟩ = some (.int .i64 a0_3) ∧ w'.cell? ⟨gb101, 4, none⟩ = some (.int .i64 a0_4)) (ds := []) #[false, false, false, false, false, false, false, false, false] (by kernel_rfl) rfl rfl ⟨(blk_cell BK101.out 0).trans rfl, (blk_cell BK101.out 1).trans rfl, (blk_cell BK101.out 2).trans rfl, (blk_cell BK101.out 3).trans rfl, (blk_cell BK101.out 4).trans rfl⟩ (fun hHeld => ?_); refine with_tabW eid_schemes_5.tab1 eid_schemes_5.bits1 (fun HT_ HW_ => ?_)
      generalize w6.drew = w7 at BK101 HB hHeld ⊢
      refine pure_ (i := 0) (N := some 3) (v := ?_) (a' := ?_) #[true, false, false, false, false, false, false, false, false] rfl rfl (any_of HT_.out (by kernel_rfl)) (fun _ _ _ h => h) (Or.inl ⟨by rfl, ?_⟩) ?_ ?_
      rotate_left
      · intro w'
        go_simp
        with_reducible rfl
      rotate_left
      · simp only [Act.put, List.setIfInBounds_toArray, List.set_cons_zero, List.set_cons_succ, i64_w, i32_w]
        rfl
      refine pure_ (i := 4) (N := some 7) (v := ?_) (a' := ?_) #[true, false, false, false, true, false, false, false, false] rfl rfl (any_of HT_.out (by kernel_rfl)) (fun _ _ _ h => h) (Or.inl ⟨by rfl, ?_⟩) ?_ ?_
      rotate_left
      · intro w'
        go_simp
        with_reducible rfl
      rotate_left
      · simp only [Act.put, List.setIfInBounds_toArray, List.set_cons_zero, List.set_cons_succ, i64_w, i32_w]
        rfl
      refine take_ (i := 1) (N := some 4) (v := ?_) (a' := ?_) #[true, true, false, false, true, false, false, false, false] rfl rfl (take_ofW HT_.out HW_.out (by kernel_rfl)) (fun _ _ _ h => h) (Or.inl ⟨by rfl, ?_⟩) hHeld ?_ ?_
      rotate_left
      · rintro w' ⟨s0, s1, s2, s3, s4⟩
        go_simp
        with_reducible rfl
      rotate_left
      · simp only [Act.put, List.setIfInBounds_toArray, List.set_cons_zero, List.set_cons_succ, i64_w, i32_w]
        rfl
      refine take_ (i := 5) (N := some 8) (v := ?_) (a' := ?_) #[true, true, false, false, true, true, false, false, false] rfl rfl (take_ofW HT_.out HW_.out (by kernel_rfl)) (fun _ _ _ h => h) (Or.inl ⟨by rfl, ?_⟩) hHeld ?_ ?_
      rotate_left
      · rintro w' ⟨s0, s1, s2, s3, s4⟩
        go_simp
        with_reducible rfl
      rotate_left
      · simp only [Act.put, List.setIfInBounds_toArray, List.set_cons_zero, List.set_cons_succ, i64_w, i32_w]
        rfl
      refine one_ (i := 2) (N := some 5) #[true, true, true, false, true, true, false, false, false] rfl rfl (one_of HT_.out (by kernel_rfl)) (by decide) (fun K hK => ?_)
      refine goes_ Tryz.func58 (by kernel_rfl) rfl #[.int .i64 a0_3] (by rfl) rfl rfl (by (try simp only [List.map_toArray, List.map_cons, List.map_nil]); first | done | rfl | (simp only [List.length_drop, List.length_take]; rfl)) ?_
      with_reducible refine (strconv_Itoa.calls a0_3 t102 _ ?side1 A2.out).mono ?_
      (case side1 => exact Laid.below HLD.out (by repeat (first | (with_reducible first | exact HB.out | apply below_alloc | apply pw_below_drewN | apply below_drew1 | refine below_set ?_ GE101.out) | exact HB.out)))
      rintro e w8 ⟨rfl, hb⟩
      refine ⟨_, rfl, ?_⟩
      have n0_ := Aside0.mk (blk_below (g := gb101) (o := .cells #[.int .i64 a0_0, .string a0_1, .string a0_2, .int .i64 a0_3, .int .i64 a0_4] 41 (0, 0)) (by (with_reducible repeat (first | refine blk_drewN ?_ _ | refine blk_drew ?_ | refine blk_alloc ?_ _)); exact BK101.out) hb)
      have n1_ := Aside0.mk (below_step (by repeat (first | (with_reducible first | exact HB.out | apply below_alloc | apply pw_below_drewN | apply below_drew1 | refine below_set ?_ GE101.out) | exact HB.out)) hb)
      clear BK101
      clear HB
      have BK101 := n0_
      have HB := n1_
      clear n0_ n1_
      (try clear hb)
      (try clear hb2)
      (try clear hk)
      (try clear hi)
      refine hK.out _ _ ⟨(blk_cell BK101.out 0).trans rfl, (blk_cell BK101.out 1).trans rfl, (blk_cell BK101.out 2).trans rfl, (blk_cell BK101.out 3).trans rfl, (blk_cell BK101.out 4).trans rfl⟩ (fun hHeld => ?_)
      clear hK K
      refine norm_ (a' := ?_) ?_ ?_
      rotate_left
      · show Act.put _ (some 5) _ = _
        simp only [Act.put, List.setIfInBounds_toArray, List.set_cons_zero, List.set_cons_succ, i64_w, i32_w]
        rfl
      refine pure_ (i := 3) (N := some 6) (v := ?_) (a' := ?_) #[true, true, true, true, true, true, false, false, false] rfl rfl (any_of HT_.out (by kernel_rfl)) (fun _ _ _ h => h) (Or.inl ⟨by rfl, ?_⟩) ?_ ?_
      rotate_left
      · intro w'
        go_simp
        with_reducible rfl
      rotate_left
      · simp only [Act.put, List.setIfInBounds_toArray, List.set_cons_zero, List.set_cons_succ, i64_w, i32_w]
        rfl
      refine one_ (i := 6) (N := some 9) #[true, true, true, true, true, true, true, false, false] rfl rfl (one_of HT_.out (by kernel_rfl)) (by decide) (fun K hK => ?_)
      refine goes_ Tryz.func58 (by kernel_rfl) rfl #[.int .i64 a0_4] (by rfl) rfl rfl (by (try simp only [List.map_toArray, List.map_cons, List.map_nil]); first | done | rfl | (simp only [List.length_drop, List.length_take]; rfl)) ?_
      with_reducible refine (strconv_Itoa.calls a0_4 t103 _ ?side1 A4.out).mono ?_
      (case side1 => exact Laid.below HLD.out (by repeat (first | (with_reducible first | exact HB.out | apply below_alloc | apply pw_below_drewN | apply below_drew1 | refine below_set ?_ GE101.out) | exact HB.out)))
      rintro e w9 ⟨rfl, hb⟩
      refine ⟨_, rfl, ?_⟩
      have n0_ := Aside0.mk (blk_below (g := gb101) (o := .cells #[.int .i64 a0_0, .string a0_1, .string a0_2, .int .i64 a0_3, .int .i64 a0_4] 41 (0, 0)) (by (with_reducible repeat (first | refine blk_drewN ?_ _ | refine blk_drew ?_ | refine blk_alloc ?_ _)); exact BK101.out) hb)
      have n1_ := Aside0.mk (below_step (by repeat (first | (with_reducible first | exact HB.out | apply below_alloc | apply pw_below_drewN | apply below_drew1 | refine below_set ?_ GE101.out) | exact HB.out)) hb)
      clear BK101
      clear HB
      have BK101 := n0_
      have HB := n1_
      clear n0_ n1_
      (try clear hb)
      (try clear hb2)
      (try clear hk)
      (try clear hi)
      refine hK.out _ _ ⟨(blk_cell BK101.out 0).trans rfl, (blk_cell BK101.out 1).trans rfl, (blk_cell BK101.out 2).trans rfl, (blk_cell BK101.out 3).trans rfl, (blk_cell BK101.out 4).trans rfl⟩ (fun hHeld => ?_)
      clear hK K
      refine norm_ (a' := ?_) ?_ ?_
      rotate_left
      · show Act.put _ (some 9) _ = _
        simp only [Act.put, List.setIfInBounds_toArray, List.set_cons_zero, List.set_cons_succ, i64_w, i32_w]
        rfl
      refine pure_ (i := 7) (N := some 10) (v := ?_) (a' := ?_) #[true, true, true, true, true, true, true, true, false] rfl rfl (any_of HT_.out (by kernel_rfl)) (fun _ _ _ h => h) (Or.inl ⟨by rfl, ?_⟩) ?_ ?_
      rotate_left
      · intro w'
        go_simp
        with_reducible rfl
      rotate_left
      · simp only [Act.put, List.setIfInBounds_toArray, List.set_cons_zero, List.set_cons_succ, i64_w, i32_w]
        rfl
      refine pure_ (i := 8) (N := some 2) (v := ?_) (a' := ?_) #[true, true, true, true, true, true, true, true, true] rfl rfl (any_of HT_.out (by kernel_rfl)) (fun _ _ _ h => h) (Or.inl ⟨by rfl, ?_⟩) ?_ ?_
      rotate_left
      · intro w'
        go_simp
        with_reducible rfl
      rotate_left
      · simp only [Act.put, List.setIfInBounds_toArray, List.set_cons_zero, List.set_cons_succ, i64_w, i32_w]
        rfl
      refine done_ (done_of HT_.out (by kernel_rfl)) ?_
      try go_wp2
      all_goals (first | (go_ret; exact ⟨by first | rfl | (simp [errW_none, errW_some] <;> rfl) | (simp [*, errW_none, errW_some] <;> rfl) | (simp_all; done), by repeat (first | (with_reducible first | exact HB.out | apply below_alloc | apply pw_below_drewN | apply below_drew1 | refine below_set ?_ GE101.out) | exact HB.out)⟩) | (exfalso; simp_all; done))
    · rw [if_neg c5] at H
      exact absurd H (by simp)
  · rw [if_neg c3] at H
    exact absurd H (by simp)
def eid_schemes_4.f (a0_0 : Int) (a0_1 : ByteArray) (a0_2 : ByteArray) (a0_3 : Int) (a0_4 : Int) : Option (ByteArray) := if 2 + a0_1.size ≤ 9223372036854775807 then (if 2 + a0_1.size + 1 ≤ 9223372036854775807 then (if 2 + a0_1.size + 1 + a0_2.size ≤ 9223372036854775807 then (some ((((⟨#[47, 47]⟩ : ByteArray) ++ a0_1) ++ (⟨#[47]⟩ : ByteArray)) ++ a0_2)) else (none)) else (none)) else (none)
set_option maxHeartbeats 8000000 in
set_option maxRecDepth 100000 in
theorem eid_schemes_4.calls (a0_0 : Int) (a0_1 : ByteArray) (a0_2 : ByteArray) (a0_3 : Int) (a0_4 : Int) (r : ByteArray) (w : World) (h : eid_schemes_4.f a0_0 a0_1 a0_2 a0_3 a0_4 = some r) :
    Calls Tryz.prog 54 #[.agg #[.int .i64 a0_0, .string a0_1, .string a0_2, .int .i64 a0_3, .int .i64 a0_4]] w fun e w' => e = .returned (.string r) ∧ Below w.heap.size w w' := by
  have hu41 := Tryz.underlying41
  have HB := Aside0.mk (Below.refl w.heap.size w)
  have H : (if 2 + a0_1.size ≤ 9223372036854775807 then (if 2 + a0_1.size + 1 ≤ 9223372036854775807 then (if 2 + a0_1.size + 1 + a0_2.size ≤ 9223372036854775807 then (some ((((⟨#[47, 47]⟩ : ByteArray) ++ a0_1) ++ (⟨#[47]⟩ : ByteArray)) ++ a0_2)) else (none)) else (none)) else (none)) = some r := h
  clear h
  by_cases c2 : 2 + a0_1.size ≤ 9223372036854775807
  · rw [if_pos c2] at H
    have c2b0 := eq_true c2
    have c2b1 : decide (2 + a0_1.size ≤ 9223372036854775807) = true := decide_eq_true c2
    try have c2b2 : (9223372036854775807 < 2 + a0_1.size) = False := eq_false (Nat.not_lt.2 c2)
    by_cases c3 : 2 + a0_1.size + 1 ≤ 9223372036854775807
    · rw [if_pos c3] at H
      have c3b0 := eq_true c3
      have c3b1 : decide (2 + a0_1.size + 1 ≤ 9223372036854775807) = true := decide_eq_true c3
      try have c3b2 : (9223372036854775807 < 2 + a0_1.size + 1) = False := eq_false (Nat.not_lt.2 c3)
      by_cases c4 : 2 + a0_1.size + 1 + a0_2.size ≤ 9223372036854775807
      · rw [if_pos c4] at H
        have c4b0 := eq_true c4
        have c4b1 : decide (2 + a0_1.size + 1 + a0_2.size ≤ 9223372036854775807) = true := decide_eq_true c4
        try have c4b2 : (9223372036854775807 < 2 + a0_1.size + 1 + a0_2.size) = False := eq_false (Nat.not_lt.2 c4)
        obtain rfl := Option.some.inj H
        go_enter Tryz.func54, Tryz.ntmps54
        go_wp2_with (first | ((with_reducible refine gate_dst (N := 1) rfl ?_); refine box_event ?hg (N := 1) ?hd (cs := #[.int .i64 a0_0, .string a0_1, .string a0_2, .int .i64 a0_3, .int .i64 a0_4]) (t := 41) ?hr ?_; (case hd => rfl); (case hg => rfl); (case hr => first | (go_simp; done) | (go_simp; rfl) | (go_simp; simp only [isEmpty_ne, isEmpty_eq]; done) | (go_simp; simp only [isEmpty_ne, isEmpty_eq]; rfl)); intro gb104 hg w5 hbox hb; have n0_ := Aside0.mk (below_step (by repeat (first | (with_reducible first | exact HB.out | apply below_alloc | apply pw_below_drewN | apply below_drew1) | exact HB.out)) hb); have n1_ := Aside0.mk (hbox); have n2_ := Aside0.mk ((by rw [hg]; exact (below_size (by repeat (first | (with_reducible first | exact HB.out | apply below_alloc | apply pw_below_drewN | apply below_drew1) | exact HB.out))) : w.heap.size ≤ gb104)); have n3_ := Aside0.mk ((by rw [hg]; exact (below_size (by repeat (first | (with_reducible first | exact HB.out | apply below_alloc | apply pw_below_drewN | apply below_drew1) | exact HB.out))) : w.heap.size ≤ gb104)); clear HB; have HB := n0_; have BK104 := n1_; have GW104 := n2_; have GE104 := n3_; clear n0_ n1_ n2_ n3_; clear hb hbox hg; have hcz6_0 : w5.cell? ⟨gb104, 0, none⟩ = some (.int .i64 a0_0) := (blk_cell BK104.out 0).trans rfl; have hcz6_1 : w5.cell? ⟨gb104, 1, none⟩ = some (.string a0_1) := (blk_cell BK104.out 1).trans rfl; have hcz6_2 : w5.cell? ⟨gb104, 2, none⟩ = some (.string a0_2) := (blk_cell BK104.out 2).trans rfl; have hcz6_3 : w5.cell? ⟨gb104, 3, none⟩ = some (.int .i64 a0_3) := (blk_cell BK104.out 3).trans rfl; have hcz6_4 : w5.cell? ⟨gb104, 4, none⟩ = some (.int .i64 a0_4) := (blk_cell BK104.out 4).trans rfl; have hfz6_0 := blk_frozen BK104.out 0; have hfz6_1 := blk_frozen BK104.out 1; have hfz6_2 := blk_frozen BK104.out 2; have hfz6_3 := blk_frozen BK104.out 3; have hfz6_4 := blk_frozen BK104.out 4))
        all_goals (first | (go_ret; exact ⟨by first | rfl | (simp [errW_none, errW_some] <;> rfl) | (simp [*, errW_none, errW_some] <;> rfl) | (simp_all; done), by repeat (first | (with_reducible first | exact HB.out | apply below_alloc | apply pw_below_drewN | apply below_drew1 | refine below_set ?_ GE104.out) | exact HB.out)⟩) | (exfalso; simp_all; done))
      · rw [if_neg c4] at H
        exact absurd H (by simp)
    · rw [if_neg c3] at H
      exact absurd H (by simp)
  · rw [if_neg c2] at H
    exact absurd H (by simp)
end Go.Proofs.YtbjbicaffblchaaGreatDoor.SB
end
section
namespace Go.Proofs.YtbjbicaffblchaaGreatDoor.Hand
open Go.RowKit Go.Proofs.YtbjbicaffblchaaGreatDoor.SA Go.Proofs.YtbjbicaffblchaaGreatDoor.SB
set_option maxRecDepth 100000 in
set_option maxHeartbeats 1000000 in
theorem halves_no (n : Int) (a0_1 a0_2 : ByteArray) (a0_3 a0_4 : Int) (w : World) (hr : eid_Right.f n a0_1 a0_2 a0_3 a0_4 = some false) :
    Calls Tryz.prog 22 #[.agg #[.int .i64 n, .string a0_1, .string a0_2, .int .i64 a0_3, .int .i64 a0_4]] w fun e w' => e = .returned (.tuple #[.string ⟨#[]⟩, .string ⟨#[]⟩, .int .i64 60]) ∧ Below w.heap.size w w' := by
  have hu := Tryz.underlying41
  have HR := Lib.hid hr
  clear hr
  go_enter Tryz.func22, Tryz.ntmps22
  go_wp2_with (first | (go_at_call 36; refine (eid_Right.calls _ _ _ _ _ _ _ HR.out).mono ?_; rintro e w2 ⟨rfl, hb2⟩))
  go_ret3
  exact ⟨rfl, (b_alloc (Below.refl _ _) _).trans (hb2.mono (by simp))⟩
set_option maxRecDepth 100000 in
set_option maxHeartbeats 4000000 in
theorem halves_some (n : Int) (a0_1 a0_2 : ByteArray) (a0_3 a0_4 : Int) (wd rs : ByteArray) (i j k : Nat) (hs : schAt n = some (schOf wd i j k)) (hent : ∀ args w, (callFunc j args).run Tryz.prog w = .ok (.enter j args) w)
    (hcall : ∀ W : World, Laid W → Calls Tryz.prog j #[.agg #[.int .i64 n, .string a0_1, .string a0_2, .int .i64 a0_3, .int .i64 a0_4]] W fun e w' => e = .returned (.string rs) ∧ Below W.heap.size W w') (w : World) (hL : Laid w) (hr : eid_Right.f n a0_1 a0_2 a0_3 a0_4 = some true) :
    Calls Tryz.prog 22 #[.agg #[.int .i64 n, .string a0_1, .string a0_2, .int .i64 a0_3, .int .i64 a0_4]] w fun e w' => e = .returned (.tuple #[.string wd, .string rs, .int .i64 0]) ∧ Below w.heap.size w w' := by
  have hu := Tryz.underlying41
  have hus := Tryz.underlying77
  have HC := Lib.hid hcall
  have HL := Lib.hid hL
  have HR := Lib.hid hr
  have HLK := Lib.hid (look_some hs false)
  clear hs hcall hL hr
  go_enter Tryz.func22, Tryz.ntmps22
  go_wp2_with fail
  obtain ⟨w0, hw0⟩ : ∃ w0, w0 = w.alloc (.cells #[.int .i64 n, .string a0_1, .string a0_2, .int .i64 a0_3, .int .i64 a0_4] 41) := ⟨_, rfl⟩
  have hB0 : Below w.heap.size w w0 := by rw [hw0]; exact (Below.refl _ _).alloc (Nat.le_refl _) _
  have hb0 : w0.heap[w.heap.size]? = some (.cells #[.int .i64 n, .string a0_1, .string a0_2, .int .i64 a0_3, .int .i64 a0_4] 41) := by rw [hw0]; exact World.alloc_heap_new _ _
  have hlt0 : w.heap.size < w0.heap.size := by rw [hw0]; simp
  rw [← hw0]
  clear hw0
  refine (eid_Right.calls _ _ _ _ _ _ _ HR.out).mono ?_
  rintro e w1 ⟨rfl, hb1⟩
  have hB : Below w.heap.size w w1 := hB0.trans (hb1.mono hB0.size)
  have hb0' := (hb1.block _ hlt0).trans hb0
  have hlt : w.heap.size < w1.heap.size := Nat.lt_of_lt_of_le hlt0 hb1.size
  clear hB0 hb1 hb0 hlt0
  have hc0 : w1.cell? ⟨w.heap.size, 0, none⟩ = some (.int .i64 n) := (cell_blk hb0' 0).trans rfl
  have hcA : ∀ o, (w1.alloc o).cell? ⟨w.heap.size, 0, none⟩ = some (.int .i64 n) := fun o => by rw [World.cell?_alloc_past _ _ _ hlt]; exact hc0
  have hcB : ∀ o o', ((w1.alloc o).alloc o').cell? ⟨w.heap.size, 0, none⟩ = some (.int .i64 n) := fun o o' => by rw [World.cell?_alloc_past _ _ _ (by simp; omega)]; exact hcA o
  have hl1 : (Instr.lookup 78 (.map (some w1.heap.size)) (.int .i64 n) false).run Tryz.prog (w1.alloc (.map schs 3)).drew = .ok (schOf wd i j k) (w1.alloc (.map schs 3)).drew := HLK.out _ _ (World.alloc_heap_new _ _)
  have hl2 : ∀ o, (Instr.lookup 78 (.map (some w1.heap.size)) (.int .i64 n) false).run Tryz.prog ((w1.alloc (.map schs 3)).alloc o).drew = .ok (schOf wd i j k) ((w1.alloc (.map schs 3)).alloc o).drew := fun o => HLK.out _ _ ((Below.heap_alloc _ _ _ (by simp)).trans (World.alloc_heap_new _ _))
  have hl3 : ∀ o, (Instr.lookup 78 (.map (some (w1.heap.size + 1))) (.int .i64 n) false).run Tryz.prog ((w1.alloc o).alloc (.map schs 3)).drew = .ok (schOf wd i j k) ((w1.alloc o).alloc (.map schs 3)).drew := fun o => HLK.out _ _ (by have := World.alloc_heap_new (w1.alloc o) (.map schs 3); rwa [World.size_alloc] at this)
  simp only [schOf] at hl1 hl2 hl3
  go_wp2_with fail
  go_upto_region 4 with (fail)
  go_cut [5, 9, 10, 11, 12] (fun s5 _ _ _ _ wc => ∃ g : Nat, w1.heap.size ≤ g ∧ g < wc.heap.size ∧ s5 = .pointer (some ⟨g, 0, none⟩) ∧ wc.cell? ⟨g, 0, none⟩ = some (.string wd) ∧ wc.cell? ⟨g, 2, none⟩ = some (.func (.func j) #[] #[]) ∧ Below w1.heap.size w1 wc)
  case first =>
    go_region_with (go_at_call 37; refine (schemes_calls _).mono ?_; rintro e w' ⟨rfl, rfl⟩)
    all_goals go_wp2
    all_goals go_meet
    all_goals (case rel => exact ⟨_, by first | exact Nat.le_refl _ | exact Nat.le_succ _, by first | (simp; done) | (simp; omega), rfl, by first | rfl | (simp; done), by first | rfl | (simp; done), by repeat (first | exact Below.refl _ _ | apply b_alloc | apply Below.drew)⟩)
  case rest =>
    obtain ⟨g, hg, hglt, rfl, hg0, hg2, hbw⟩ := hcut
    have hz := (hbw.block _ hlt).trans hb0'
    have z0 := cell_blk hz 0
    have z1 := cell_blk hz 1
    have z2 := cell_blk hz 2
    have z3 := cell_blk hz 3
    have z4 := cell_blk hz 4
    simp at z0 z1 z2 z3 z4
    have hltw : w.heap.size < wc.heap.size := Nat.lt_of_lt_of_le hlt hbw.size
    clear hcA hcB hc0 hb0' hl1 hl2 hl3 hz hlt
    go_wp2_with fail
    go_region_with (first | ((with_reducible refine (HC.out _ (HL.out.below (hB.trans ((hbw.drew).mono hB.size)))).mono ?_); rintro e w2 ⟨rfl, hb2⟩; have y0 : w2.cell? ⟨g, 0, none⟩ = some (.string wd) := (hb2.cell (p := ⟨g, 0, none⟩) hglt).trans hg0; have HB2 := Lib.hid hb2; clear hb2))
    all_goals go_wp2
    all_goals go_ret3
    all_goals exact ⟨rfl, hB.trans (((hbw.drew).trans (HB2.out.mono hbw.size)).mono hB.size)⟩
end Go.Proofs.YtbjbicaffblchaaGreatDoor.Hand
end
section
namespace Go.Proofs.YtbjbicaffblchaaGreatDoor.Hand
open Go.RowKit Go.Proofs.YtbjbicaffblchaaGreatDoor.SA Go.Proofs.YtbjbicaffblchaaGreatDoor.SB
def wDtn : ByteArray := ⟨#[100, 116, 110]⟩
def wIpn : ByteArray := ⟨#[105, 112, 110]⟩
def wNone : ByteArray := ⟨#[110, 111, 110, 101]⟩
def restDtn (a1 a2 : ByteArray) : ByteArray := (((⟨#[47, 47]⟩ : ByteArray) ++ a1) ++ (⟨#[47]⟩ : ByteArray)) ++ a2
def restIpn (a3 a4 : Int) : ByteArray := (txt (Lib.itoa a3) ++ (⟨#[46]⟩ : ByteArray)) ++ txt (Lib.itoa a4)
def restS (n : Int) (a1 a2 : ByteArray) (a3 a4 : Int) : ByteArray := if n = 0 then wNone else if n = 1 then restDtn a1 a2 else restIpn a3 a4
def wordS (n : Int) : ByteArray := if n = 2 then wIpn else wDtn
def halvesS (n : Int) (a1 a2 : ByteArray) (a3 a4 : Int) : ByteArray × ByteArray × Int :=
  if rightS n a1 a2 a3 a4 = true then (wordS n, restS n a1 a2 a3 a4, 0) else (⟨#[]⟩, ⟨#[]⟩, 60)
theorem partS_size {s signs : ByteArray} (h : partS s signs = true) : s.size ≤ 20 := by
  unfold partS at h
  simp only [Bool.and_eq_true, decide_eq_true_eq] at h
  exact h.2
theorem right_dtn {a1 a2 : ByteArray} {a3 a4 : Int} (h : rightS 1 a1 a2 a3 a4 = true) : a1.toList ≠ [] ∧ partS a1 ⟨#[45, 46]⟩ = true ∧ partS a2 ⟨#[45, 46, 47]⟩ = true ∧ a3 = 0 ∧ a4 = 0 := by
  unfold rightS at h
  rw [if_neg (by decide), if_pos rfl] at h
  simpa [Bool.and_eq_true] using h
theorem right_ipn {a1 a2 : ByteArray} {a3 a4 : Int} (h : rightS 2 a1 a2 a3 a4 = true) : a1.toList = [] ∧ a2.toList = [] ∧ 1 ≤ a3 ∧ a3 ≤ 999999999 ∧ 0 ≤ a4 ∧ a4 ≤ 999999999 := by
  unfold rightS at h
  rw [if_neg (by decide), if_neg (by decide), if_pos rfl] at h
  simpa [Bool.and_eq_true] using h
theorem right_none' {a1 a2 : ByteArray} {a3 a4 : Int} (h : rightS 0 a1 a2 a3 a4 = true) : a1.toList = [] ∧ a2.toList = [] ∧ a3 = 0 ∧ a4 = 0 := by
  unfold rightS at h
  rw [if_pos rfl] at h
  simpa [Bool.and_eq_true] using h
theorem right_scheme {n : Int} {a1 a2 : ByteArray} {a3 a4 : Int} (h : rightS n a1 a2 a3 a4 = true) : n = 0 ∨ n = 1 ∨ n = 2 := by
  unfold rightS at h
  by_cases e0 : n = 0
  · exact .inl e0
  by_cases e1 : n = 1
  · exact .inr (.inl e1)
  by_cases e2 : n = 2
  · exact .inr (.inr e2)
  rw [if_neg e0, if_neg e1, if_neg e2] at h
  cases h
theorem txt_size (l : List UInt8) : (txt l).size = l.length := by simp [txt, ByteArray.size]
theorem itoa_short (n : Int) (h0 : 0 ≤ n) (h1 : n ≤ 9223372036854775807) : (txt (Lib.itoa n)).size ≤ 21 := by
  rw [txt_size]; exact Lib.itoa_length_le n (by omega) h1
def eid_Halves.f (a0_0 : Int) (a0_1 a0_2 : ByteArray) (a0_3 a0_4 : Int) : Option (ByteArray × ByteArray × Int) :=
  if a0_1.size ≤ maxLen ∧ a0_2.size ≤ maxLen then some (halvesS a0_0 a0_1 a0_2 a0_3 a0_4) else none
theorem eid_Halves.calls (a0_0 : Int) (a0_1 a0_2 : ByteArray) (a0_3 a0_4 : Int) (r1 r2 : ByteArray) (r3 : Int) (w : World) (hLd : Laid w) (h : eid_Halves.f a0_0 a0_1 a0_2 a0_3 a0_4 = some (r1, r2, r3)) :
    Calls Tryz.prog 22 #[.agg #[.int .i64 a0_0, .string a0_1, .string a0_2, .int .i64 a0_3, .int .i64 a0_4]] w fun e w' => e = .returned (.tuple #[.string r1, .string r2, .int .i64 r3]) ∧ Below w.heap.size w w' := by
  unfold eid_Halves.f at h
  split at h
  case isFalse => cases h
  rename_i hc
  obtain ⟨h1, h2⟩ := hc
  unfold halvesS at h
  have hR : eid_Right.f a0_0 a0_1 a0_2 a0_3 a0_4 = some (rightS a0_0 a0_1 a0_2 a0_3 a0_4) := by unfold eid_Right.f; rw [if_pos ⟨h1, h2⟩]
  cases hr : rightS a0_0 a0_1 a0_2 a0_3 a0_4 with
  | false =>
    rw [hr, if_neg (by decide)] at h
    simp only [Option.some.injEq, Prod.mk.injEq] at h
    obtain ⟨rfl, rfl, rfl⟩ := h
    exact halves_no a0_0 a0_1 a0_2 a0_3 a0_4 w (by rw [hR, hr])
  | true =>
    rw [hr, if_pos rfl] at h
    simp only [Option.some.injEq, Prod.mk.injEq] at h
    obtain ⟨rfl, rfl, rfl⟩ := h
    rcases right_scheme hr with rfl | rfl | rfl
    · exact halves_some 0 a0_1 a0_2 a0_3 a0_4 wDtn wNone _ _ _ (by rw [schAt, if_pos rfl]; rfl) (Go.Proofs.enters_of Tryz.func51 (by kernel_rfl) rfl)
        (fun W _ => eid_schemes_2.calls 0 a0_1 a0_2 a0_3 a0_4 _ W rfl) w hLd (by rw [hR, hr])
    · obtain ⟨_, p1, p2, _, _⟩ := right_dtn hr
      have s1 := partS_size p1
      have s2 := partS_size p2
      refine halves_some 1 a0_1 a0_2 a0_3 a0_4 wDtn (restDtn a0_1 a0_2) _ _ _ (by rw [schAt, if_neg (by decide), if_pos rfl]; rfl) (Go.Proofs.enters_of Tryz.func54 (by kernel_rfl) rfl)
        (fun W _ => eid_schemes_4.calls 1 a0_1 a0_2 a0_3 a0_4 _ W ?_) w hLd (by rw [hR, hr])
      unfold eid_schemes_4.f
      rw [if_pos (by omega), if_pos (by omega), if_pos (by omega)]
      rfl
    · obtain ⟨_, _, p3, p4, p5, p6⟩ := right_ipn hr
      have s1 := itoa_short a0_3 (by omega) (by omega)
      have s2 := itoa_short a0_4 (by omega) (by omega)
      refine halves_some 2 a0_1 a0_2 a0_3 a0_4 wIpn (restIpn a0_3 a0_4) _ _ _ (by rw [schAt, if_neg (by decide), if_neg (by decide), if_pos rfl]; rfl) (Go.Proofs.enters_of Tryz.func57 (by kernel_rfl) rfl)
        (fun W hW => eid_schemes_5.calls 2 a0_1 a0_2 a0_3 a0_4 _ W hW ?_) w hLd (by rw [hR, hr])
      unfold eid_schemes_5.f strconv_Itoa.f
      rw [if_pos (by omega), if_pos (by omega)]
      simp only [Option.bind_some]
      rw [if_pos (by omega), if_pos (by omega)]
      rfl
end Go.Proofs.YtbjbicaffblchaaGreatDoor.Hand
end
section
namespace Go.Proofs.YtbjbicaffblchaaGreatDoor.Hand
open Go.RowKit Go.Proofs.YtbjbicaffblchaaGreatDoor.SA Go.Proofs.YtbjbicaffblchaaGreatDoor.SB
set_option maxRecDepth 100000 in
theorem parse0_calls (p : Value) (rest : ByteArray) (w : World) :
    Calls Tryz.prog 52 #[p, .string rest] w fun e w' => e = .returned (.tuple #[]) ∧ Below w.heap.size w w' := by
  go_enter Tryz.func52, Tryz.ntmps52
  go_wp2
  go_end0
  exact ⟨rfl, Below.refl _ _⟩
def dtnParts (rest : ByteArray) : ByteArray × ByteArray :=
  ((txt (Lib.cut (Lib.trimPrefix rest.data.toList [47, 47]) [47]).1), txt (Lib.cut (Lib.trimPrefix rest.data.toList [47, 47]) [47]).2.1)
theorem trim_size (l : List UInt8) : (⟨l.toArray⟩ : ByteArray).size = l.length := by simp [ByteArray.size]
theorem trim_le (rest : ByteArray) : (Lib.trimPrefix rest.data.toList [47, 47]).length ≤ rest.size := by
  unfold Lib.trimPrefix
  split
  · simp
  · simp
theorem cut_sizes (l s : List UInt8) : (Lib.cut l s).1.length ≤ l.length ∧ (Lib.cut l s).2.1.length ≤ l.length := by
  unfold Lib.cut
  split <;> simp
  omega
set_option maxRecDepth 100000 in
set_option maxHeartbeats 1000000 in
theorem parse1_calls (b : Nat) (s0 : Int) (n0 v0 : ByteArray) (x0 y0 : Int) (rest : ByteArray) (w : World) (hL : Laid w) (hr : rest.size < 4294967281)
    (hb : w.heap[b]? = some (.cells #[.int .i64 s0, .string n0, .string v0, .int .i64 x0, .int .i64 y0] 110)) :
    Calls Tryz.prog 55 #[.pointer (some ⟨b, 0, none⟩), .string rest] w fun e w' => e = .returned (.tuple #[]) ∧ Below b w w' ∧ w'.heap[b]? = some (.cells #[.int .i64 s0, .string (dtnParts rest).1, .string (dtnParts rest).2, .int .i64 x0, .int .i64 y0] 110) := by
  have hu := Tryz.underlying41
  have hup := Tryz.underlying110
  have HL := Lib.hid hL
  clear hL
  have hlt : b < w.heap.size := (Array.getElem?_eq_some_iff.1 hb).1
  go_enter Tryz.func55, Tryz.ntmps55
  go_wp2_with (fail)
  refine (Tryz.strings_TrimPrefix rest ⟨#[47, 47]⟩ w).mono ?_
  rintro e w' ⟨rfl, hw'⟩
  subst w'
  go_wp2_with (fail)
  refine (strings_Cut.calls _ _ (dtnParts rest).1 (dtnParts rest).2 (Lib.cut (Lib.trimPrefix rest.data.toList [47, 47]) [47]).2.2 _ HL.out ?_).mono ?_
  · unfold strings_Cut.f
    rw [if_pos (by rw [trim_size]; exact Nat.lt_of_le_of_lt (trim_le rest) hr)]
    rfl
  · rintro e w2 ⟨rfl, hb2⟩
    have hb' := (hb2.block b hlt).trans hb
    have hlt2 : b < w2.heap.size := Nat.lt_of_lt_of_le hlt hb2.size
    have c1 := (cell_blk hb' 1).trans rfl
    have c2 := (cell_blk hb' 2).trans rfl
    have f1 := frozen_blk hb' 1
    have f2 := frozen_blk hb' 2
    have HB := Lib.hid hb'
    have HB2 := Lib.hid hb2
    clear hb hb' hb2
    go_wp2
    go_end0
    refine ⟨rfl, ?_, ?_⟩
    · exact ((HB2.out.mono (Nat.le_of_lt hlt)).setCell (p := ⟨b, 1, none⟩) (Nat.le_refl _) _).setCell (p := ⟨b, 2, none⟩) (Nat.le_refl _) _
    · exact YtbjbicaffblchaaGreatDoorW.PrintWords.blk_set (YtbjbicaffblchaaGreatDoorW.PrintWords.blk_set HB.out 1 _) 2 _
def ipnParts (rest : ByteArray) : Int × Int := (atoiNum (Lib.cut rest.data.toList [46]).1, atoiNum (Lib.cut rest.data.toList [46]).2.1)
theorem atoi_txt (l : List UInt8) (w : World) (hL : Laid w) (hs : l.length ≤ 281474976710656) :
    Calls Tryz.prog 71 #[.string (txt l)] w fun e w' => (∃ v, e = .returned (.tuple #[.int .i64 (atoiNum l), v])) ∧ Below w.heap.size w w' := by
  have h := atoi_calls (txt l) w hL (by rw [txt_size]; exact hs)
  simpa [txt] using h
set_option maxRecDepth 100000 in
set_option maxHeartbeats 1000000 in
theorem parse2_calls (b : Nat) (s0 : Int) (n0 v0 : ByteArray) (x0 y0 : Int) (rest : ByteArray) (w : World) (hL : Laid w) (hr : rest.size < 4294967281)
    (hb : w.heap[b]? = some (.cells #[.int .i64 s0, .string n0, .string v0, .int .i64 x0, .int .i64 y0] 110)) (hg : 6 < b) :
    Calls Tryz.prog 59 #[.pointer (some ⟨b, 0, none⟩), .string rest] w fun e w' => e = .returned (.tuple #[]) ∧ Below b w w' ∧ w'.heap[b]? = some (.cells #[.int .i64 s0, .string n0, .string v0, .int .i64 (ipnParts rest).1, .int .i64 (ipnParts rest).2] 110) := by
  have hu := Tryz.underlying41
  have hup := Tryz.underlying110
  have HL := Lib.hid hL
  clear hL
  have hlt : b < w.heap.size := (Array.getElem?_eq_some_iff.1 hb).1
  have hcs := cut_sizes rest.data.toList [46]
  rw [Array.length_toList, show rest.data.size = rest.size from rfl] at hcs
  obtain ⟨hcs1, hcs2⟩ := hcs
  go_enter Tryz.func59, Tryz.ntmps59
  go_wp2_with (fail)
  refine (strings_Cut.calls rest ⟨#[46]⟩ (txt (Lib.cut rest.data.toList [46]).1) (txt (Lib.cut rest.data.toList [46]).2.1) (Lib.cut rest.data.toList [46]).2.2 _ HL.out ?_).mono ?_
  · unfold strings_Cut.f
    rw [if_pos hr]
  · rintro e w2 ⟨rfl, hb2⟩
    have hL2 := HL.out.below hb2
    have hb' := (hb2.block b hlt).trans hb
    have hlt2 : b < w2.heap.size := Nat.lt_of_lt_of_le hlt hb2.size
    have HB := Lib.hid hb'
    have HB2 := Lib.hid hb2
    have HL2 := Lib.hid hL2
    clear hb hb' hb2 hL2
    go_wp2_with (fail)
    refine (atoi_txt _ _ HL2.out (by omega)).mono ?_
    rintro e w3 ⟨⟨v3, rfl⟩, hb3⟩
    have hL3 := HL2.out.below hb3
    have hb' := (hb3.block b hlt2).trans HB.out
    have hlt3 : b < w3.heap.size := Nat.lt_of_lt_of_le hlt2 hb3.size
    have c3 := (cell_blk hb' 3).trans rfl
    have f3 := frozen_blk hb' 3
    have HB' := Lib.hid hb'
    have HB3 := Lib.hid hb3
    have HL3 := Lib.hid hL3
    clear hb' hb3 hL3 HB
    go_wp2_with (fail)
    have hset := YtbjbicaffblchaaGreatDoorW.PrintWords.blk_set HB'.out 3 (.int .i64 (ipnParts rest).1)
    have hbs : Below b w3 (w3.setCell ⟨b, 3, none⟩ (.int .i64 (ipnParts rest).1)) := (Below.refl b w3).setCell (p := ⟨b, 3, none⟩) (Nat.le_refl _) _
    have hL4 := HL3.out.belowAt hbs hg
    obtain ⟨w4, hw4⟩ : ∃ w4, w4 = w3.setCell ⟨b, 3, none⟩ (.int .i64 (ipnParts rest).1) := ⟨_, rfl⟩
    rw [← hw4] at hset hbs hL4
    rw [show w3.setCell ⟨b, 3, none⟩ (.int .i64 (atoiNum (Lib.cut rest.data.toList [46]).1)) = w4 from hw4.symm]
    have hlt4 : b < w4.heap.size := (Array.getElem?_eq_some_iff.1 hset).1
    have HS := Lib.hid hset
    have HBS := Lib.hid hbs
    have HL4 := Lib.hid hL4
    clear hset hbs hL4 hw4 c3 f3
    refine (atoi_txt _ _ HL4.out (by omega)).mono ?_
    rintro e w5 ⟨⟨v5, rfl⟩, hb5⟩
    have hb' := (hb5.block b hlt4).trans HS.out
    have c4 := (cell_blk hb' 4).trans rfl
    have f4 := frozen_blk hb' 4
    have HB'' := Lib.hid hb'
    have HB5 := Lib.hid hb5
    clear hb' hb5
    go_wp2
    go_end0
    refine ⟨rfl, ?_, ?_⟩
    · exact ((((HB2.out.mono (Nat.le_of_lt hlt)).trans (HB3.out.mono (Nat.le_of_lt hlt2))).trans HBS.out).trans (HB5.out.mono (Nat.le_of_lt hlt4))).setCell (p := ⟨b, 4, none⟩) (Nat.le_refl _) _
    · exact YtbjbicaffblchaaGreatDoorW.PrintWords.blk_set HB''.out 4 _
end Go.Proofs.YtbjbicaffblchaaGreatDoor.Hand
end

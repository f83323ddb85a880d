import Derived.Test.YtbjbicaffblchaaGreatDoorZDictBuilds0
import Derived.ArgAppend
import Derived.Below
import Derived.BigQuiet
import Derived.BigRegion
import Derived.Carry
import Derived.Deep.AppendLies
import Derived.Deep.CutBlock
import Derived.Deep.DeepCutAuto
import Derived.Deep.DeepHandedRow
import Derived.Deep.DeepWitnessRowRef
import Derived.Deep.Draws
import Derived.Deep.LoopGhost
import Derived.Deep.OwnRows
import Derived.Deep.QuietTactic
import Derived.Deep.RegionHeld3
import Derived.Deep.RegionWith
import Derived.KernelRfl
import Derived.LaidEql
import Derived.LaidMore
import Derived.Laws.BitsLemmas
import Derived.Laws.BytesArg
import Derived.Laws.EntriesVeiled
import Derived.Laws.IdiomCopy
import Derived.Laws.MakeOwn
import Derived.Laws.OwnMore
import Derived.Laws.RangeAny
import Derived.Laws.RangeString
import Derived.Laws.ResultCell
import Derived.Laws.Rows
import Derived.Laws.Slices
import Derived.Lib.AppendStr
import Derived.Lib.ConvBytes
import Derived.Lib.Hide
import Derived.Lib.ItoaLen
import Derived.Lib.LaidTab
import Derived.Lib.OthersKept
import Derived.Lib.SmallJoins
import Derived.LoopIn
import Derived.LoopNIn
import Derived.MakeChecks
import Derived.Maps.AppendAt
import Derived.OpenShut
import Derived.OrdersHeld
import Derived.Outline
import Derived.OwnWalk
import Derived.OwnWalkIn
import Derived.ProofKit
import Derived.RangeFuncBound
import Derived.RangeFuncCalls
import Derived.RangeFuncLeaves
import Derived.RangeFuncNested
import Derived.RangeFuncRecord
import Derived.RangeFuncStops
import Derived.RowKit
import Derived.RowKit3
import Derived.Shelf.Abstract
import Derived.Shelf.LaysC
import Derived.Shelf.LaysM
import Derived.Shelf.Strconv.Atoi
import Derived.Shelf.Strconv.AtoiAll
import Derived.Shelf.Strconv.AtoiErrFast
import Derived.Shelf.Strconv.AtoiFail
import Derived.Shelf.Strconv.AtoiInnerAll
import Derived.Shelf.Strconv.AtoiLong
import Derived.Shelf.Strconv.Clone
import Derived.Shelf.Strconv.ErrVarAll
import Derived.Shelf.Strconv.Itoa0
import Derived.Shelf.Strconv.Itoa1
import Derived.Shelf.Strconv.Itoa2
import Derived.Shelf.Strconv.Itoa3
import Derived.Shelf.Strconv.Lower
import Derived.Shelf.Strconv.ParseInt10
import Derived.Shelf.Strconv.ParseIntEmpty
import Derived.Shelf.Strconv.ParseUint10
import Derived.Shelf.Strconv.ParseUint10Any
import Derived.Shelf.Strconv.ParseUint10Empty
import Derived.Shelf.Strconv.RangeError
import Derived.Shelf.Strconv.SyntaxError
import Derived.Shelf.Strconv.ToError
import Derived.Shelf.Strconv.ToErrorRange
import Derived.Shelf.Strings.Cut
import Derived.Shelf.Strings.Prefix
import Derived.Shelf.Strings.Search1
import Derived.Shelf.Strings.Search2
import Derived.Shelf.Strings.Shaped
import Derived.Stop.Asserts
import Derived.Stop.LaidErr
import Derived.Tactics
import Derived.TacticsInMore
import Derived.Test.YtbjbicaffblchaaGreatDoorCards
import Derived.Test.YtbjbicaffblchaaGreatDoorProg
import Derived.Test.YtbjbicaffblchaaGreatDoorTie
import Derived.WalkKit
import Derived.WalkLawsBesides
import Derived.WalkMore
import Derived.WalkSmall
import Derived.WalkSpells
import Derived.WideLaws
section
namespace Go.Proofs.YtbjbicaffblchaaGreatDoor.Hand
open Go.RowKit
theorem isEmpty_ne (l : List UInt8) : (!l.isEmpty) = (l != []) := by cases l <;> rfl
theorem isEmpty_eq (l : List UInt8) : l.isEmpty = (l == []) := by cases l <;> rfl
theorem below_run {w0 w w' : World} (h : Below w0.heap.size w0 w) (hb : Below w.heap.size w w') : Below w0.heap.size w0 w' := h.trans (hb.mono h.size)
theorem b_alloc {w W : World} (h : Below w.heap.size w W) (o : Obj) : Below w.heap.size w (W.alloc o) := h.alloc h.size o
theorem cell_blk {w : World} {b : Nat} {cs : Array Value} {t : TypeId} {fr : Nat × Nat} (h : w.heap[b]? = some (.cells cs t fr)) (j : Nat) : w.cell? ⟨b, j, none⟩ = cs[j]? := by
  simp [World.cell?, h]
theorem frozen_blk {w : World} {b : Nat} {cs : Array Value} {t : TypeId} (h : w.heap[b]? = some (.cells cs t)) (j : Nat) : w.frozen? ⟨b, j, none⟩ = false := by
  simp [World.frozen?, h]
end Go.Proofs.YtbjbicaffblchaaGreatDoor.Hand
end
section
namespace Go.Proofs
open Go.Shelf
def Tryz.laysM171_ren : Go.Shelf.Ren := ⟨fun | 171 => 58 | 243 => 70 | 246 => 76 | 283 => 84 | 284 => 85 | 285 => 86 | 286 => 87 | 129 => 96 | 317 => 95 | 318 => 97 | 319 => 98 | 320 => 99 | 337 => 103 | 338 => 104 | n => n, fun | 3 => 3 | 9 => 9 | 2 => 2 | 4 => 4 | 171 => 132 | 0 => 0 | 53 => 133 | 37 => 59 | 5 => 5 | 173 => 136 | 212 => 148 | 51 => 144 | 20 => 20 | 213 => 149 | 46 => 131 | 232 => 163 | 233 => 164 | n => n, fun | 17 => 4 | 18 => 7 | 19 => 8 | n => n⟩
theorem Tryz.laysM171 : Go.Proofs.LaysM.n171 Tryz.prog Tryz.laysM171_ren := {
  mixed := by kernel_rfl
  f129 := Tryz.func96.trans (congrArg some (by kernel_rfl))
  f171 := Tryz.func58.trans (congrArg some (by kernel_rfl))
  f243 := Tryz.func70.trans (congrArg some (by kernel_rfl))
  f246 := Tryz.func76.trans (congrArg some (by kernel_rfl))
  f283 := Tryz.func84.trans (congrArg some (by kernel_rfl))
  f284 := Tryz.func85.trans (congrArg some (by kernel_rfl))
  f285 := Tryz.func86.trans (congrArg some (by kernel_rfl))
  f286 := Tryz.func87.trans (congrArg some (by kernel_rfl))
  f317 := Tryz.func95.trans (congrArg some (by kernel_rfl))
  f318 := Tryz.func97.trans (congrArg some (by kernel_rfl))
  f319 := Tryz.func98.trans (congrArg some (by kernel_rfl))
  f320 := Tryz.func99.trans (congrArg some (by kernel_rfl))
  f337 := Tryz.func103.trans (congrArg some (by kernel_rfl))
  f338 := Tryz.func104.trans (congrArg some (by kernel_rfl))
  t0 := Tryz.underlying0
  a0 := Tryz.isAgg0
  z0 := Tryz.sizeOf0
  v0 := Tryz.zeroValue0
  t2 := Tryz.underlying2
  a2 := Tryz.isAgg2
  z2 := Tryz.sizeOf2
  v2 := Tryz.zeroValue2
  t3 := Tryz.underlying3
  a3 := Tryz.isAgg3
  z3 := Tryz.sizeOf3
  v3 := Tryz.zeroValue3
  t4 := Tryz.underlying4
  a4 := Tryz.isAgg4
  z4 := Tryz.sizeOf4
  v4 := Tryz.zeroValue4
  t5 := Tryz.underlying5
  a5 := Tryz.isAgg5
  z5 := Tryz.sizeOf5
  v5 := Tryz.zeroValue5
  t9 := Tryz.underlying9
  a9 := Tryz.isAgg9
  z9 := Tryz.sizeOf9
  v9 := Tryz.zeroValue9
  t20 := Tryz.underlying20
  a20 := Tryz.isAgg20
  z20 := Tryz.sizeOf20
  v20 := Tryz.zeroValue20
  t37 := Tryz.underlying59
  a37 := Tryz.isAgg59
  z37 := Tryz.sizeOf59
  v37 := Tryz.zeroValue59
  t46 := Tryz.underlying131
  a46 := Tryz.isAgg131
  z46 := Tryz.sizeOf131
  v46 := Tryz.zeroValue131
  t51 := Tryz.underlying144
  a51 := Tryz.isAgg144
  z51 := Tryz.sizeOf144
  v51 := Tryz.zeroValue144
  t53 := Tryz.underlying133
  a53 := Tryz.isAgg133
  z53 := Tryz.sizeOf133
  v53 := Tryz.zeroValue133
  t171 := Tryz.underlying132
  a171 := Tryz.isAgg132
  z171 := Tryz.sizeOf132
  v171 := Tryz.zeroValue132
  t173 := Tryz.underlying136
  a173 := Tryz.isAgg136
  z173 := Tryz.sizeOf136
  v173 := Tryz.zeroValue136
  t212 := Tryz.underlying148
  a212 := Tryz.isAgg148
  z212 := Tryz.sizeOf148
  v212 := Tryz.zeroValue148
  t213 := Tryz.underlying149
  a213 := Tryz.isAgg149
  z213 := Tryz.sizeOf149
  t232 := Tryz.underlying163
  a232 := Tryz.isAgg163
  z232 := Tryz.sizeOf163
  v232 := Tryz.zeroValue163
  t233 := Tryz.underlying164
  a233 := Tryz.isAgg164
  z233 := Tryz.sizeOf164
  v233 := Tryz.zeroValue164
  g17 := by kernel_rfl
  g18 := by kernel_rfl
  g19 := by kernel_rfl
  i0 := by kernel_rfl
  i2 := by kernel_rfl
  i3 := by kernel_rfl
  i4 := by kernel_rfl
  i5 := by kernel_rfl
  i9 := by kernel_rfl
  i20 := by kernel_rfl
  i37 := by kernel_rfl
  i46 := by kernel_rfl
  i51 := by kernel_rfl
  i53 := by kernel_rfl
  i171 := by kernel_rfl
  i173 := by kernel_rfl
  i212 := by kernel_rfl
  i232 := by kernel_rfl
  i233 := by kernel_rfl
  m17 := by kernel_rfl
  m18 := by kernel_rfl
  m19 := by kernel_rfl }
open Go.RowKit Go.Sort Go.Lib in
theorem Tryz.strconv_Itoa (n : Int) (h0 : -9223372036854775808 ≤ n) (h1 : n ≤ 9223372036854775807) (w : World) (htab : Lib.TabIs Tryz.prog w "internal/strconv.uint64pow10" .u64 Lib.pow10Tab) :
    Calls Tryz.prog 58 #[.int .i64 n] w fun e w' => e = .returned (.string ⟨(Lib.itoa n).toArray⟩) ∧ ∃ k os, w' = grow (w.drewN k) os := Any.strconv_Itoa Tryz.laysM171 n h0 h1 w htab
def Tryz.laysC172_ren : Go.Shelf.Ren := ⟨fun | 172 => 71 | 244 => 77 | 245 => 78 | 247 => 88 | 279 => 89 | 280 => 90 | 281 => 91 | 282 => 92 | 287 => 100 | 316 => 101 | 171 => 58 | 205 => 102 | 321 => 105 | 322 => 106 | 243 => 70 | 246 => 76 | 283 => 84 | 284 => 85 | 285 => 86 | 286 => 87 | 129 => 96 | 317 => 95 | 318 => 97 | 319 => 98 | 320 => 99 | 337 => 103 | 338 => 104 | n => n, fun | 9 => 9 | 3 => 3 | 75 => 51 | 76 => 111 | 4 => 4 | 5 => 5 | 167 => 138 | 37 => 59 | 0 => 0 | 85 => 139 | 2 => 2 | 168 => 141 | 53 => 133 | 175 => 152 | 46 => 131 | 210 => 155 | 127 => 159 | 145 => 162 | 143 => 160 | 21 => 21 | 171 => 132 | 173 => 136 | 212 => 148 | 51 => 144 | 20 => 20 | 213 => 149 | 232 => 163 | 233 => 164 | 80 => 165 | n => n, fun | 15 => 5 | 16 => 6 | 17 => 4 | 18 => 7 | 19 => 8 | n => n⟩
theorem Tryz.laysC172 : Go.Proofs.LaysC.n172 Tryz.prog Tryz.laysC172_ren := {
  mixed := by kernel_rfl
  f129 := Tryz.func96.trans (congrArg some (by kernel_rfl))
  f171 := Tryz.func58.trans (congrArg some (by kernel_rfl))
  f172 := Tryz.func71.trans (congrArg some (by kernel_rfl))
  f205 := Tryz.func102.trans (congrArg some (by kernel_rfl))
  f243 := Tryz.func70.trans (congrArg some (by kernel_rfl))
  f244 := Tryz.func77.trans (congrArg some (by kernel_rfl))
  f245 := Tryz.func78.trans (congrArg some (by kernel_rfl))
  f246 := Tryz.func76.trans (congrArg some (by kernel_rfl))
  f247 := Tryz.func88.trans (congrArg some (by kernel_rfl))
  f279 := Tryz.func89.trans (congrArg some (by kernel_rfl))
  f280 := Tryz.func90.trans (congrArg some (by kernel_rfl))
  f281 := Tryz.func91.trans (congrArg some (by kernel_rfl))
  f282 := Tryz.func92.trans (congrArg some (by kernel_rfl))
  f283 := Tryz.func84.trans (congrArg some (by kernel_rfl))
  f284 := Tryz.func85.trans (congrArg some (by kernel_rfl))
  f285 := Tryz.func86.trans (congrArg some (by kernel_rfl))
  f286 := Tryz.func87.trans (congrArg some (by kernel_rfl))
  f287 := Tryz.func100.trans (congrArg some (by kernel_rfl))
  f316 := Tryz.func101.trans (congrArg some (by kernel_rfl))
  f317 := Tryz.func95.trans (congrArg some (by kernel_rfl))
  f318 := Tryz.func97.trans (congrArg some (by kernel_rfl))
  f319 := Tryz.func98.trans (congrArg some (by kernel_rfl))
  f320 := Tryz.func99.trans (congrArg some (by kernel_rfl))
  f321 := Tryz.func105.trans (congrArg some (by kernel_rfl))
  f322 := Tryz.func106.trans (congrArg some (by kernel_rfl))
  f337 := Tryz.func103.trans (congrArg some (by kernel_rfl))
  f338 := Tryz.func104.trans (congrArg some (by kernel_rfl))
  t0 := Tryz.underlying0
  a0 := Tryz.isAgg0
  z0 := Tryz.sizeOf0
  v0 := Tryz.zeroValue0
  t2 := Tryz.underlying2
  a2 := Tryz.isAgg2
  z2 := Tryz.sizeOf2
  v2 := Tryz.zeroValue2
  t3 := Tryz.underlying3
  a3 := Tryz.isAgg3
  z3 := Tryz.sizeOf3
  v3 := Tryz.zeroValue3
  t4 := Tryz.underlying4
  a4 := Tryz.isAgg4
  z4 := Tryz.sizeOf4
  v4 := Tryz.zeroValue4
  t5 := Tryz.underlying5
  a5 := Tryz.isAgg5
  z5 := Tryz.sizeOf5
  v5 := Tryz.zeroValue5
  t9 := Tryz.underlying9
  a9 := Tryz.isAgg9
  z9 := Tryz.sizeOf9
  v9 := Tryz.zeroValue9
  t20 := Tryz.underlying20
  a20 := Tryz.isAgg20
  z20 := Tryz.sizeOf20
  v20 := Tryz.zeroValue20
  t21 := Tryz.underlying21
  a21 := Tryz.isAgg21
  z21 := Tryz.sizeOf21
  v21 := Tryz.zeroValue21
  t37 := Tryz.underlying59
  a37 := Tryz.isAgg59
  z37 := Tryz.sizeOf59
  v37 := Tryz.zeroValue59
  t46 := Tryz.underlying131
  a46 := Tryz.isAgg131
  z46 := Tryz.sizeOf131
  v46 := Tryz.zeroValue131
  t51 := Tryz.underlying144
  a51 := Tryz.isAgg144
  z51 := Tryz.sizeOf144
  v51 := Tryz.zeroValue144
  t53 := Tryz.underlying133
  a53 := Tryz.isAgg133
  z53 := Tryz.sizeOf133
  v53 := Tryz.zeroValue133
  t75 := Tryz.underlying51
  a75 := Tryz.isAgg51
  z75 := Tryz.sizeOf51
  v75 := Tryz.zeroValue51
  t76 := Tryz.underlying111
  a76 := Tryz.isAgg111
  z76 := Tryz.sizeOf111
  v76 := Tryz.zeroValue111
  t85 := Tryz.underlying139
  a85 := Tryz.isAgg139
  z85 := Tryz.sizeOf139
  v85 := Tryz.zeroValue139
  t127 := Tryz.underlying159
  a127 := Tryz.isAgg159
  z127 := Tryz.sizeOf159
  v127 := Tryz.zeroValue159
  t143 := Tryz.underlying160
  a143 := Tryz.isAgg160
  z143 := Tryz.sizeOf160
  v143 := Tryz.zeroValue160
  t145 := Tryz.underlying162
  a145 := Tryz.isAgg162
  z145 := Tryz.sizeOf162
  v145 := Tryz.zeroValue162
  t167 := Tryz.underlying138
  a167 := Tryz.isAgg138
  z167 := Tryz.sizeOf138
  v167 := Tryz.zeroValue138
  t168 := Tryz.underlying141
  a168 := Tryz.isAgg141
  z168 := Tryz.sizeOf141
  v168 := Tryz.zeroValue141
  t171 := Tryz.underlying132
  a171 := Tryz.isAgg132
  z171 := Tryz.sizeOf132
  v171 := Tryz.zeroValue132
  t173 := Tryz.underlying136
  a173 := Tryz.isAgg136
  z173 := Tryz.sizeOf136
  v173 := Tryz.zeroValue136
  t175 := Tryz.underlying152
  a175 := Tryz.isAgg152
  z175 := Tryz.sizeOf152
  v175 := Tryz.zeroValue152
  t210 := Tryz.underlying155
  a210 := Tryz.isAgg155
  z210 := Tryz.sizeOf155
  v210 := Tryz.zeroValue155
  t212 := Tryz.underlying148
  a212 := Tryz.isAgg148
  z212 := Tryz.sizeOf148
  v212 := Tryz.zeroValue148
  t213 := Tryz.underlying149
  a213 := Tryz.isAgg149
  z213 := Tryz.sizeOf149
  t232 := Tryz.underlying163
  a232 := Tryz.isAgg163
  z232 := Tryz.sizeOf163
  v232 := Tryz.zeroValue163
  t233 := Tryz.underlying164
  a233 := Tryz.isAgg164
  z233 := Tryz.sizeOf164
  v233 := Tryz.zeroValue164
  g15 := by kernel_rfl
  g16 := by kernel_rfl
  g17 := by kernel_rfl
  g18 := by kernel_rfl
  g19 := by kernel_rfl
  t80 := Tryz.underlying165
  a80 := Tryz.isAgg165
  z80 := Tryz.sizeOf165
  v80 := Tryz.zeroValue165
  i0 := by kernel_rfl
  i2 := by kernel_rfl
  i3 := by kernel_rfl
  i4 := by kernel_rfl
  i5 := by kernel_rfl
  i9 := by kernel_rfl
  i20 := by kernel_rfl
  i21 := by kernel_rfl
  i37 := by kernel_rfl
  i46 := by kernel_rfl
  i51 := by kernel_rfl
  i53 := by kernel_rfl
  i75 := by kernel_rfl
  i76 := by kernel_rfl
  i80 := by kernel_rfl
  i85 := by kernel_rfl
  i127 := by kernel_rfl
  i143 := by kernel_rfl
  i145 := by kernel_rfl
  i167 := by kernel_rfl
  i168 := by kernel_rfl
  i171 := by kernel_rfl
  i173 := by kernel_rfl
  i175 := by kernel_rfl
  i210 := by kernel_rfl
  i212 := by kernel_rfl
  i232 := by kernel_rfl
  i233 := by kernel_rfl
  m15 := by kernel_rfl
  m16 := by kernel_rfl
  m17 := by kernel_rfl
  m18 := by kernel_rfl
  m19 := by kernel_rfl
  c0 := by kernel_rfl
  c2 := by kernel_rfl
  c3 := by kernel_rfl
  c4 := by kernel_rfl
  c5 := by kernel_rfl
  c9 := by kernel_rfl
  c20 := by kernel_rfl
  c21 := by kernel_rfl
  c37 := by kernel_rfl
  c46 := by kernel_rfl
  c51 := by kernel_rfl
  c53 := by kernel_rfl
  c75 := by kernel_rfl
  c76 := by kernel_rfl
  c80 := by kernel_rfl
  c85 := by kernel_rfl
  c127 := by kernel_rfl
  c143 := by kernel_rfl
  c145 := by kernel_rfl
  c167 := by kernel_rfl
  c168 := by kernel_rfl
  c171 := by kernel_rfl
  c173 := by kernel_rfl
  c175 := by kernel_rfl
  c210 := by kernel_rfl
  c212 := by kernel_rfl
  c213 := by kernel_rfl
  c232 := by kernel_rfl
  c233 := by kernel_rfl }
open Go.RowKit in
theorem Tryz.strconv_Atoi_ok (s : ByteArray) (hmax : s.size ≤ 9223372036854775806) (v : Int) (h : Lib.atoiAll s.data.toList = .ok v) (w : World) :
    Calls Tryz.prog 71 #[.string s] w fun e w' => e = .returned (.tuple #[.int .i64 v, .nilIface]) ∧ (w' = w ∨ ∃ t, w' = Lib.bytesWorld w 5 t) := Any.strconv_Atoi_ok Tryz.laysC172 s hmax v h w
open Go.RowKit in
theorem Tryz.strconv_Atoi_syntax (s : ByteArray) (hlim : s.size ≤ 281474976710656) (h : Lib.atoiAll s.data.toList = Lib.atoiAll []) (ev : Value) (w : World) (hv : w.cell? ⟨5, 0, none⟩ = some ev) (hev : ev = .nilIface ∨ ∃ te pe, ev = .iface te pe) :
    Calls Tryz.prog 71 #[.string s] w fun e w' => ∃ N, e = .returned (.tuple #[.int .i64 (0), .iface 141 (.pointer (some ⟨N, 0, none⟩))]) ∧ w.heap.size ≤ N ∧ w'.heap[N]? = some (.cells #[.string ⟨#[65, 116, 111, 105]⟩, .string s, ev] 155 (0, 0)) ∧ Below w.heap.size w w' := Any.strconv_Atoi_syntax Tryz.laysC172 s hlim h ev w hv hev
open Go.RowKit in
theorem Tryz.strconv_Atoi_range (s : ByteArray) (hlim : s.size ≤ 281474976710656) (h : Lib.atoiAll s.data.toList = .range) (ev : Value) (w : World) (hv : w.cell? ⟨6, 0, none⟩ = some ev) (hev : ev = .nilIface ∨ ∃ te pe, ev = .iface te pe) :
    Calls Tryz.prog 71 #[.string s] w fun e w' => ∃ N, e = .returned (.tuple #[.int .i64 (Lib.atoiSat s.data.toList), .iface 141 (.pointer (some ⟨N, 0, none⟩))]) ∧ w.heap.size ≤ N ∧ w'.heap[N]? = some (.cells #[.string ⟨#[65, 116, 111, 105]⟩, .string s, ev] 155 (0, 0)) ∧ Below w.heap.size w w' := Any.strconv_Atoi_range Tryz.laysC172 s hlim h ev w hv hev
def Tryz.lays145_ren : Go.Shelf.Ren := ⟨fun | 145 => 49 | 220 => 67 | 219 => 73 | 217 => 79 | 225 => 80 | 224 => 81 | 267 => 82 | 266 => 93 | 314 => 94 | n => n, fun | 9 => 9 | 4 => 4 | 59 => 90 | 3 => 3 | 5 => 5 | 46 => 131 | 146 => 145 | 51 => 144 | n => n, fun | 1 => 3 | n => n⟩
theorem Tryz.lays145 : Go.Proofs.Lays.n145 Tryz.prog Tryz.lays145_ren := {
  mixed := by kernel_rfl
  f145 := Tryz.func49.trans (congrArg some (by kernel_rfl))
  f217 := Tryz.func79.trans (congrArg some (by kernel_rfl))
  f219 := Tryz.func73.trans (congrArg some (by kernel_rfl))
  f220 := Tryz.func67.trans (congrArg some (by kernel_rfl))
  f224 := Tryz.func81.trans (congrArg some (by kernel_rfl))
  f225 := Tryz.func80.trans (congrArg some (by kernel_rfl))
  f266 := Tryz.func93.trans (congrArg some (by kernel_rfl))
  f267 := Tryz.func82.trans (congrArg some (by kernel_rfl))
  f314 := Tryz.func94.trans (congrArg some (by kernel_rfl))
  t3 := Tryz.underlying3
  a3 := Tryz.isAgg3
  z3 := Tryz.sizeOf3
  v3 := Tryz.zeroValue3
  t4 := Tryz.underlying4
  a4 := Tryz.isAgg4
  z4 := Tryz.sizeOf4
  v4 := Tryz.zeroValue4
  t5 := Tryz.underlying5
  a5 := Tryz.isAgg5
  z5 := Tryz.sizeOf5
  v5 := Tryz.zeroValue5
  t9 := Tryz.underlying9
  a9 := Tryz.isAgg9
  z9 := Tryz.sizeOf9
  v9 := Tryz.zeroValue9
  t46 := Tryz.underlying131
  a46 := Tryz.isAgg131
  z46 := Tryz.sizeOf131
  v46 := Tryz.zeroValue131
  t51 := Tryz.underlying144
  a51 := Tryz.isAgg144
  z51 := Tryz.sizeOf144
  v51 := Tryz.zeroValue144
  t59 := Tryz.underlying90
  a59 := Tryz.isAgg90
  z59 := Tryz.sizeOf90
  v59 := Tryz.zeroValue90
  t146 := Tryz.underlying145
  a146 := Tryz.isAgg145
  z146 := Tryz.sizeOf145
  v146 := Tryz.zeroValue145
  g1 := by kernel_rfl }
open Go.RowKit Go.Lib in
theorem Tryz.strings_Cut (s sep : ByteArray) (m : Int) (w : World) (hs : s.size < 4294967281) (hm : w.cell? ⟨3, 0, none⟩ = some (.int .i64 m)) :
    Calls Tryz.prog 49 #[.string s, .string sep] w fun e w' => e = .returned (.tuple #[.string ⟨(Lib.cut s.data.toList sep.data.toList).1.toArray⟩, .string ⟨(Lib.cut s.data.toList sep.data.toList).2.1.toArray⟩, .bool (Lib.cut s.data.toList sep.data.toList).2.2]) ∧ ∃ n, w' = w.drewN n := Any.strings_Cut Tryz.lays145 s sep m w hs hm
def Tryz.lays101_ren : Go.Shelf.Ren := ⟨fun | 101 => 69 | 208 => 75 | 206 => 83 | n => n, fun | 9 => 9 | 4 => 4 | 3 => 3 | n => n, fun | n => n⟩
theorem Tryz.lays101 : Go.Proofs.Lays.n101 Tryz.prog Tryz.lays101_ren := {
  mixed := by kernel_rfl
  f101 := Tryz.func69.trans (congrArg some (by kernel_rfl))
  f206 := Tryz.func83.trans (congrArg some (by kernel_rfl))
  f208 := Tryz.func75.trans (congrArg some (by kernel_rfl))
  t3 := Tryz.underlying3
  a3 := Tryz.isAgg3
  z3 := Tryz.sizeOf3
  v3 := Tryz.zeroValue3
  t4 := Tryz.underlying4
  a4 := Tryz.isAgg4
  z4 := Tryz.sizeOf4
  v4 := Tryz.zeroValue4
  t9 := Tryz.underlying9
  a9 := Tryz.isAgg9
  z9 := Tryz.sizeOf9
  v9 := Tryz.zeroValue9 }
open Go.RowKit Go.Lib in
theorem Tryz.strings_TrimPrefix (s p : ByteArray) (w : World) :
    Calls Tryz.prog 69 #[.string s, .string p] w fun e w' => e = .returned (.string ⟨(Lib.trimPrefix s.data.toList p.data.toList).toArray⟩) ∧ w' = w := Any.strings_TrimPrefix Tryz.lays101 s p w
end Go.Proofs
end
section
namespace Go.Proofs.YtbjbicaffblchaaGreatDoor.Hand
open Go.RowKit
structure Laid (w : World) : Prop where
  max : ∃ m, w.cell? ⟨3, 0, none⟩ = some (.int .i64 m)
  tab : Lib.TabIs Tryz.prog w "internal/strconv.uint64pow10" .u64 Lib.pow10Tab
  syn : ∃ te pe, w.cell? ⟨5, 0, none⟩ = some (.iface te pe)
  rng : ∃ te pe, w.cell? ⟨6, 0, none⟩ = some (.iface te pe)
theorem gTab : Tryz.prog.globalNamed "internal/strconv.uint64pow10" = some 4 := by kernel_rfl
theorem cell_keep {w w' : World} (hb : Below w.heap.size w w') {a : Addr} {v : Value} (hc : w.cell? a = some v) : w'.cell? a = some v := (hb.cell (World.block_lt_of_cell? w a hc)).trans hc
theorem Laid.below {w w' : World} (h : Laid w) (hb : Below w.heap.size w w') : Laid w' := by
  obtain ⟨⟨m, hm⟩, ht, ⟨t1, p1, h1⟩, ⟨t2, p2, h2⟩⟩ := h
  refine ⟨⟨m, cell_keep hb hm⟩, ?_, ⟨t1, p1, cell_keep hb h1⟩, ⟨t2, p2, cell_keep hb h2⟩⟩
  have hc := ht.cell gTab 0 (by rw [Lib.pow10Tab_length]; decide)
  exact var?_below hb gTab (World.block_lt_of_cell? w _ hc) ht
def NG : Nat := 6 + 1
theorem Laid.same {w w' : World} (h : Laid w) (hb : ∀ k, k < NG → w'.heap[k]? = w.heap[k]?) : Laid w' := by
  obtain ⟨⟨m, hm⟩, ht, ⟨t1, p1, h1⟩, ⟨t2, p2, h2⟩⟩ := h
  have hc : ∀ (g : Nat) (v : Value), g < NG → w.cell? ⟨g, 0, none⟩ = some v → w'.cell? ⟨g, 0, none⟩ = some v := fun g v hg hv => by
    have := hb g hg
    simpa [World.cell?, this] using hv
  refine ⟨⟨m, hc _ _ (by decide) hm⟩, ?_, ⟨t1, p1, hc _ _ (by decide) h1⟩, ⟨t2, p2, hc _ _ (by decide) h2⟩⟩
  have ht' : w.var? Tryz.prog "internal/strconv.uint64pow10" = _ := ht
  unfold Lib.TabIs World.var? at *
  rw [gTab] at ht' ⊢
  simp only [Option.bind_some] at ht' ⊢
  rw [hb _ (by decide)]
  exact ht'
theorem Laid.belowAt {w w' : World} {B : Nat} (h : Laid w) (hb : Below B w w') (hB : 6 < B) : Laid w' := by
  obtain ⟨⟨m, hm⟩, ht, ⟨t1, p1, h1⟩, ⟨t2, p2, h2⟩⟩ := h
  exact ⟨⟨m, (hb.cell (show _ < B by show 3 < B; omega)).trans hm⟩, var?_below hb gTab (by omega) ht, ⟨t1, p1, (hb.cell (show _ < B by show 5 < B; omega)).trans h1⟩, ⟨t2, p2, (hb.cell (show _ < B by show 6 < B; omega)).trans h2⟩⟩
theorem below_drewN (w : World) (n : Nat) : Below w.heap.size w (w.drewN n) := ⟨rfl, rfl, rfl, Nat.le_refl _, fun _ _ => rfl⟩
theorem below_grow (w : World) (os : Array Obj) : Below w.heap.size w (Sort.grow w os) :=
  ⟨rfl, rfl, rfl, by simp, fun k hk => by simp [Sort.grow, Array.getElem?_append, hk]⟩
theorem below_bytes (w : World) (e : TypeId) (s : ByteArray) : Below w.heap.size w (Lib.bytesWorld w e s) :=
  ⟨rfl, rfl, rfl, by rw [Lib.bytesWorld_size]; omega, fun k hk => Lib.bytesWorld_at_old w e s k hk⟩
def txt (l : List UInt8) : ByteArray := ⟨l.toArray⟩
theorem itoa_calls (n : Int) (w : World) (hL : Laid w) (h0 : -9223372036854775808 ≤ n) (h1 : n ≤ 9223372036854775807) :
    Calls Tryz.prog 58 #[.int .i64 n] w fun e w' => e = .returned (.string (txt (Lib.itoa n))) ∧ Below w.heap.size w w' :=
  (Tryz.strconv_Itoa n h0 h1 w hL.tab).mono fun _ _ ⟨he, k, os, hw⟩ => ⟨he, by rw [hw]; exact (below_drewN w k).trans (below_grow (w.drewN k) os)⟩
def atoiNum (l : List UInt8) : Int := match Lib.atoiAll l with | .ok v => v | .range => Lib.atoiSat l | _ => 0
theorem atoi_calls (s : ByteArray) (w : World) (hL : Laid w) (hs : s.size ≤ 281474976710656) :
    Calls Tryz.prog 71 #[.string s] w fun e w' => (∃ v, e = .returned (.tuple #[.int .i64 (atoiNum s.data.toList), v])) ∧ Below w.heap.size w w' := by
  unfold atoiNum
  cases h : Lib.atoiAll s.data.toList
  · rename_i v
    refine (Tryz.strconv_Atoi_ok s (by omega) v h w).mono fun _ _ ⟨he, hw⟩ => ⟨⟨_, he⟩, ?_⟩
    rcases hw with rfl | ⟨t, rfl⟩
    · exact Below.refl _ _
    · exact below_bytes _ _ _
  · obtain ⟨te, pe, hv⟩ := hL.syn
    exact (Tryz.strconv_Atoi_syntax s hs h _ w hv (.inr ⟨te, pe, rfl⟩)).mono fun _ _ ⟨N, he, _, _, hb⟩ => ⟨⟨_, he⟩, hb⟩
  · obtain ⟨te, pe, hv⟩ := hL.rng
    exact (Tryz.strconv_Atoi_range s hs h _ w hv (.inr ⟨te, pe, rfl⟩)).mono fun _ _ ⟨N, he, _, _, hb⟩ => ⟨⟨_, he⟩, hb⟩
def strings_Cut.f (a0 a1 : ByteArray) : Option (ByteArray × ByteArray × Bool) :=
  if a0.size < 4294967281 then some (txt (Lib.cut a0.data.toList a1.data.toList).1, txt (Lib.cut a0.data.toList a1.data.toList).2.1, (Lib.cut a0.data.toList a1.data.toList).2.2) else none
theorem strings_Cut.calls (a0 a1 r1 r2 : ByteArray) (r3 : Bool) (w : World) (hLd : Laid w) (h : strings_Cut.f a0 a1 = some (r1, r2, r3)) :
    Calls Tryz.prog 49 #[.string a0, .string a1] w fun e w' => e = .returned (.tuple #[.string r1, .string r2, .bool r3]) ∧ Below w.heap.size w w' := by
  unfold strings_Cut.f at h
  split at h
  · rename_i hs
    simp only [Option.some.injEq, Prod.mk.injEq] at h
    obtain ⟨rfl, rfl, rfl⟩ := h
    obtain ⟨m, hm⟩ := hLd.max
    exact (Tryz.strings_Cut a0 a1 m w hs hm).mono fun _ _ ⟨he, n, hw⟩ => ⟨he, by rw [hw]; exact below_drewN w n⟩
  · cases h
def strconv_Itoa.f (a0 : Int) : Option ByteArray := if -9223372036854775808 ≤ a0 ∧ a0 ≤ 9223372036854775807 then some (txt (Lib.itoa a0)) else none
theorem strconv_Itoa.calls (a0 : Int) (r : ByteArray) (w : World) (hLd : Laid w) (h : strconv_Itoa.f a0 = some r) :
    Calls Tryz.prog 58 #[.int .i64 a0] w fun e w' => e = .returned (.string r) ∧ Below w.heap.size w w' := by
  unfold strconv_Itoa.f at h
  split at h
  · rename_i hs
    obtain rfl := Option.some.inj h
    exact itoa_calls a0 w hLd hs.1 hs.2
  · cases h
end Go.Proofs.YtbjbicaffblchaaGreatDoor.Hand
end
section
namespace Go.Proofs.YtbjbicaffblchaaGreatDoor.Hand
open Go.RowKit Go.Extern.Stop Go.Stop Go.Extern
theorem er_typeOf (v : Value) (w : World) : (Extern.ReflectliteType.typeOf #[.iface 160 v]).run Tryz.prog w = .ok (.iface 115 (.agg #[.pointer (some ⟨9, 160, none⟩)])) w := by kernel_rfl
def erCmp : TypeId → Sem Value := fun t => do Extern.Rtype.noPackHeld "Comparable" t; pure (.bool (← typeInfo t).comparable)
theorem er_comparable (w : World) : ((Extern.ReflectliteType.method erCmp) #[.agg #[.pointer (some ⟨9, 160, none⟩)]]).run Tryz.prog w = .ok (.bool true) w := by kernel_rfl
theorem er_method (v : Value) (w : World) : (Go.method 297 115 v "Comparable").run Tryz.prog w = .ok (125, v) w := by kernel_rfl
theorem er_comp : (Tryz.prog.info? 160).map (·.comparable) = some true := by kernel_rfl
theorem er_size : (Tryz.prog.info? 162).map (·.size) = some 1 := by kernel_rfl
theorem er_noIs (v : Value) (xT : TypeId) (w : World) : (Instr.typeAssert (.iface 160 v) xT 117 true).run Tryz.prog w = .ok (.tuple #[.nilIface, .bool false]) w := run_typeAssert_lacksB Tryz.underlying117 (by kernel_rfl) (by kernel_rfl) v xT w
theorem er_noUnwrap (v : Value) (xT : TypeId) (w : World) : (Instr.typeAssert (.iface 160 v) xT 120 true).run Tryz.prog w = .ok (.tuple #[.nilIface, .bool false]) w := run_typeAssert_lacksB Tryz.underlying120 (by kernel_rfl) (by kernel_rfl) v xT w
theorem er_noUnwraps (v : Value) (xT : TypeId) (w : World) : (Instr.typeAssert (.iface 160 v) xT 122 true).run Tryz.prog w = .ok (.tuple #[.nilIface, .bool false]) w := run_typeAssert_lacksB Tryz.underlying122 (by kernel_rfl) (by kernel_rfl) v xT w
set_option maxRecDepth 100000 in
theorem is_same (a : Addr) (w : World) :
    Calls Tryz.prog 42 #[.iface 160 (.pointer (some a)), .iface 160 (.pointer (some a))] w fun e w' => e = .returned (.bool true) ∧ w' = w := by
  obtain ⟨i, hi, hcmp⟩ := Option.map_eq_some_iff.1 er_comp
  obtain ⟨j, hj, hjs⟩ := Option.map_eq_some_iff.1 er_size
  have h8 := @run_callFunc_extern Tryz.prog 62 _ Extern.ReflectliteType.typeOf Tryz.func62 (by kernel_rfl) (by kernel_rfl) (by kernel_rfl) (by kernel_rfl)
  have h32 := @run_callFunc_extern Tryz.prog 125 _ (Extern.ReflectliteType.method erCmp) Tryz.func125 (by kernel_rfl) (by kernel_rfl) (by kernel_rfl) (by kernel_rfl)
  have tT := er_typeOf
  have cT := er_comparable
  have mR := er_method
  have heq := run_eql_iface_ptr_same (P := Tryz.prog) w a Tryz.underlying51 Tryz.underlying160 hi hcmp hj
  go_enter Tryz.func42, Tryz.ntmps42
  go_wp2
  refine wp_loop_rounds 1 ?_
  rw [rounds_succ]
  go_wp2
  go_ret
  exact ⟨rfl, rfl⟩
theorem is_nil (b : Addr) (w : World) :
    Calls Tryz.prog 42 #[.nilIface, .iface 160 (.pointer (some b))] w fun e w' => e = .returned (.bool false) ∧ w' = w := by
  have hn := run_eql_iface_nil_left (P := Tryz.prog) w 160 (.pointer (some b)) Tryz.underlying51
  go_enter Tryz.func42, Tryz.ntmps42
  go_wp2
  go_ret
  exact ⟨rfl, rfl⟩
set_option maxRecDepth 100000 in
theorem is_other (a b : Addr) (ca cb : Array Value) (ta tb : TypeId) (w : World) (hne : a ≠ b) (ha : w.heap[a.block]? = some (.cells ca ta (0, 0))) (hb : w.heap[b.block]? = some (.cells cb tb (0, 0))) :
    Calls Tryz.prog 42 #[.iface 160 (.pointer (some a)), .iface 160 (.pointer (some b))] w fun e w' => e = .returned (.bool false) ∧ w' = w := by
  obtain ⟨i, hi, hcmp⟩ := Option.map_eq_some_iff.1 er_comp
  obtain ⟨j, hj, hjs⟩ := Option.map_eq_some_iff.1 er_size
  have h8 := @run_callFunc_extern Tryz.prog 62 _ Extern.ReflectliteType.typeOf Tryz.func62 (by kernel_rfl) (by kernel_rfl) (by kernel_rfl) (by kernel_rfl)
  have h32 := @run_callFunc_extern Tryz.prog 125 _ (Extern.ReflectliteType.method erCmp) Tryz.func125 (by kernel_rfl) (by kernel_rfl) (by kernel_rfl) (by kernel_rfl)
  have tT := er_typeOf
  have cT := er_comparable
  have mR := er_method
  have nE := er_noIs
  have uE := er_noUnwrap
  have vE := er_noUnwraps
  have heq := run_eql_iface_ptr_other (P := Tryz.prog) w Tryz.underlying51 Tryz.underlying160 hi hcmp hj (by rw [hjs]; decide) hne ha hb
  go_enter Tryz.func42, Tryz.ntmps42
  go_wp2
  refine wp_loop_rounds 1 ?_
  rw [rounds_succ]
  go_wp2
  go_ret
  exact ⟨rfl, rfl⟩
def ErrAt (w : World) (g : Nat) (a : Addr) : Prop := w.cell? ⟨g, 0, none⟩ = some (.iface 160 (.pointer (some a))) ∧ ∃ c t, w.heap[a.block]? = some (.cells c t (0, 0))
theorem ErrAt.below {w w' : World} {g : Nat} {a : Addr} (h : ErrAt w g a) (hb : Below w.heap.size w w') : ErrAt w' g a := by
  obtain ⟨h1, c, t, h2⟩ := h
  exact ⟨cell_keep hb h1, c, t, (hb.block _ (Array.getElem?_eq_some_iff.1 h2).1).trans h2⟩
def errV (a : Addr) : Value := .iface 160 (.pointer (some a))
end Go.Proofs.YtbjbicaffblchaaGreatDoor.Hand
end
section
namespace Go.Proofs.YtbjbicaffblchaaGreatDoor.Hand
open Go.RowKit
def runeIn (s : ByteArray) (r : Int) : Bool := s.data.toList.any fun c => (c.toNat : Int) == r
theorem runeIn_hit (s : ByteArray) (r : Int) (k : Nat) (h : k < s.size) (e : ((s[k]'h).toNat : Int) = r) : runeIn s r = true := by
  unfold runeIn
  rw [List.any_eq_true]
  exact ⟨s[k], by rw [show s[k] = s.data[k] from rfl]; exact Array.getElem_mem_toList _, by simp [e]⟩
theorem runeIn_miss (s : ByteArray) (r : Int) (h : ∀ k (hk : k < s.size), ((s[k]'hk).toNat : Int) ≠ r) : runeIn s r = false := by
  unfold runeIn
  rw [List.any_eq_false]
  intro c hc
  obtain ⟨k, hk, rfl⟩ := List.mem_iff_getElem.1 hc
  have hk' : k < s.size := by simpa using hk
  have := h k hk'
  simp only [beq_iff_eq]
  exact this
theorem iter_below (w : World) (s : ByteArray) (p : Nat) : Below w.heap.size w (w.iter s p) := (Below.refl _ w).alloc (Nat.le_refl _) _
set_option maxRecDepth 100000 in
theorem hasRune_calls (s : ByteArray) (r : Int) (w : World) (hs : ∀ k (hk : k < s.size), (s[k]'hk).toNat < 128) :
    Calls Tryz.prog 74 #[.string s, .int .i32 r] w fun e w' => e = .returned (.bool (runeIn s r)) ∧ Below w.heap.size w w' := by
  go_enter Tryz.func74, Tryz.ntmps74
  go_wp2
  go_loopw [6, 9, 10, 11, 12, 13, 14] (fun _ _ _ _ _ _ _ w' => ∃ (pos : Nat), w' = w.iter s pos ∧ pos ≤ s.size ∧ (∀ k (hk : k < s.size), k < pos → ((s[k]'hk).toNat : Int) ≠ r)) (fun _ _ _ _ _ _ _ w' => s.size - w'.iterPos w.heap.size)
  case atStart => exact ⟨0, rfl, by omega, fun k _ h => by omega⟩
  case round =>
    obtain ⟨pos, rfl, hp, hno⟩ := hrel
    have HS := Hid.out (p := ∀ k (hk : k < s.size), (s[k]'hk).toNat < 128) hs
    by_cases hlt : pos < s.size
    · have ha := hs pos hlt
      have hnx : ∀ ty, (Instr.next (.pointer (some ⟨w.heap.size, 0, none⟩)) true ty).run Tryz.prog (w.iter s pos) = _ := fun ty => run_next_ascii w s pos ty hlt ha
      clear hs HS
      by_cases he : ((s[pos]'hlt).toNat : Int) = r
      · have hb : (((s[pos]'hlt).toNat : Int) == r) = true := beq_iff_eq.2 he
        have hr := Lib.hid (runeIn_hit s r pos hlt he)
        clear he hno
        go_wp2
        go_ret
        exact ⟨by rw [hr.out]; rfl, iter_below _ _ _⟩
      · have hb : (((s[pos]'hlt).toNat : Int) == r) = false := beq_eq_false_iff_ne.2 he
        have hno' : ∀ k (hk : k < s.size), k < pos + 1 → ((s[k]'hk).toNat : Int) ≠ r := fun k hk hl => by
          by_cases e : k = pos
          · subst e; exact he
          · exact hno k hk (by omega)
        have HN := Lib.hid hno'
        clear he hno hno'
        go_wp2
        go_roundw
        case rel => exact ⟨pos + 1, rfl, by omega, HN.out⟩
        case measure => simp; omega
    · have hnx : ∀ ty, (Instr.next (.pointer (some ⟨w.heap.size, 0, none⟩)) true ty).run Tryz.prog (w.iter s pos) = _ := fun ty => run_next_end w s pos ty hlt
      have hr := Lib.hid (runeIn_miss s r fun k hk => hno k hk (by omega))
      clear hs HS hno
      go_wp2
      go_ret
      exact ⟨by rw [hr.out]; rfl, iter_below _ _ _⟩
def okByte (signs : ByteArray) (c : UInt8) : Bool := (decide (97 ≤ c.toNat) && decide (c.toNat ≤ 122)) || (decide (48 ≤ c.toNat) && decide (c.toNat ≤ 57)) || runeIn signs c.toNat
def partS (s signs : ByteArray) : Bool := s.data.toList.all (okByte signs) && decide (s.size ≤ 20)
theorem partS_no (s signs : ByteArray) (k : Nat) (h : k < s.size) (e : okByte signs (s[k]'h) = false) : partS s signs = false := by
  unfold partS
  have : s.data.toList.all (okByte signs) = false := by
    rw [List.all_eq_false]
    exact ⟨s[k], by rw [show s[k] = s.data[k] from rfl]; exact Array.getElem_mem_toList _, by simp [e]⟩
  rw [this, Bool.false_and]
theorem partS_all (s signs : ByteArray) (h : ∀ k (hk : k < s.size), okByte signs (s[k]'hk) = true) : partS s signs = decide (s.size ≤ 20) := by
  unfold partS
  have : s.data.toList.all (okByte signs) = true := by
    rw [List.all_eq_true]
    intro c hc
    obtain ⟨k, hk, rfl⟩ := List.mem_iff_getElem.1 hc
    have hk' : k < s.size := by simpa using hk
    exact h k hk'
  rw [this, Bool.true_and]
theorem runeIn_high (signs : ByteArray) (hs : ∀ k (hk : k < signs.size), (signs[k]'hk).toNat < 128) (r : Int) (h : 128 ≤ r) : runeIn signs r = false :=
  runeIn_miss signs r fun k hk => by have := hs k hk; omega
theorem okByte_high (signs : ByteArray) (hs : ∀ k (hk : k < signs.size), (signs[k]'hk).toNat < 128) (c : UInt8) (h : 128 ≤ c.toNat) : okByte signs c = false := by
  unfold okByte
  rw [runeIn_high signs hs _ (by omega)]
  simp; omega
theorem rune_at (s signs : ByteArray) (hs : ∀ k (hk : k < signs.size), (signs[k]'hk).toNat < 128) (pos : Nat) (h : pos < s.size) :
    ∃ (r : Int) (p' : Nat), 0 ≤ r ∧ r ≤ 2147483647 ∧ (r < 128 → p' = pos + 1) ∧ okByte signs (s[pos]'h) = ((decide (97 ≤ r) && decide (r ≤ 122)) || (decide (48 ≤ r) && decide (r ≤ 57)) || runeIn signs r) ∧ (128 ≤ r → okByte signs (s[pos]'h) = false) ∧
      ∀ (w : World) (ty : TypeId) (k : Nat), w.heap[k]? = some (.stringIter s pos) → (Instr.next (.pointer (some ⟨k, 0, none⟩)) true ty).run Tryz.prog w = .ok (.tuple #[.bool true, .int .i64 pos, .int .i32 r]) (w.iterAt k s p') := by
  by_cases ha : (s[pos]'h).toNat < 128
  · refine ⟨(s[pos]'h).toNat, pos + 1, by omega, by omega, fun _ => rfl, ?_, fun hh => by omega, fun w ty k hk => Lib.run_next_ascii_at w k s pos ty hk h ha⟩
    unfold okByte
    congr 1
    rw [Bool.eq_iff_iff]
    simp only [Bool.or_eq_true, Bool.and_eq_true, decide_eq_true_eq]
    omega
  · have hd := (decode_high s pos h (by omega)).1
    have hl := decode_le s pos
    have hf := okByte_high signs hs (s[pos]'h) (by omega)
    refine ⟨(Utf8.decode s pos).1, pos + (Utf8.decode s pos).2, by omega, by omega, fun _ => by omega, ?_, fun _ => hf, fun w ty k hk => Lib.run_next_any_at w k s pos ty hk h⟩
    rw [hf, runeIn_high signs hs _ (by omega)]
    symm
    simp
    omega
theorem iterPos_of {w : World} {k p : Nat} {s : ByteArray} (h : w.heap[k]? = some (.stringIter s p)) : w.iterPos k = p := by simp [World.iterPos, h]
set_option maxHeartbeats 1000000 in
set_option maxRecDepth 100000 in
theorem isPart_calls (s signs : ByteArray) (w : World) (hsz : s.size ≤ maxLen) (hs : ∀ k (hk : k < signs.size), (signs[k]'hk).toNat < 128) :
    Calls Tryz.prog 68 #[.string s, .string signs] w fun e w' => e = .returned (.bool (partS s signs)) ∧ Below w.heap.size w w' := by
  unfold maxLen at hsz
  go_enter Tryz.func68, Tryz.ntmps68
  go_wp2
  go_loopw [6, 9, 10, 11, 12, 13, 14, 15, 16, 17, 18, 19, 20, 21, 22, 23, 24, 25, 26, 27, 28, 29, 30, 31] (fun _ _ _ _ _ _ _ _ _ _ _ _ _ _ _ _ _ _ _ _ _ _ _ _ w' => ∃ (pos : Nat), w'.heap[w.heap.size]? = some (.stringIter s pos) ∧ pos ≤ s.size ∧ Below w.heap.size w w' ∧ (∀ k (hk : k < s.size), k < pos → okByte signs (s[k]'hk) = true)) (fun _ _ _ _ _ _ _ _ _ _ _ _ _ _ _ _ _ _ _ _ _ _ _ _ w' => s.size - w'.iterPos w.heap.size)
  case atStart => exact ⟨0, World.iter_heap _ _ _, by omega, iter_below _ _ _, fun k _ h => by omega⟩
  case round =>
    obtain ⟨pos, hit, hp, hbw, hno⟩ := hrel
    by_cases hlt : pos < s.size
    · obtain ⟨r, p', h0, h1, hp', hok, hhi, hnx0⟩ := rune_at s signs hs pos hlt
      have hnx : ∀ ty, (Instr.next (.pointer (some ⟨w.heap.size, 0, none⟩)) true ty).run Tryz.prog wr = _ := fun ty => hnx0 wr ty w.heap.size hit
      have hb1 : Below w.heap.size w (wr.iterAt w.heap.size s p') := Lib.below_iterAt hbw (Nat.le_refl _) s p'
      have hit1 : (wr.iterAt w.heap.size s p').heap[w.heap.size]? = some (.stringIter s p') := Lib.iterAt_heap wr w.heap.size s pos p' hit
      obtain ⟨w1, hw1⟩ : ∃ w1, w1 = wr.iterAt w.heap.size s p' := ⟨_, rfl⟩
      rw [← hw1] at hb1 hit1
      simp only [← hw1] at hnx
      have hlt1 : w.heap.size < w1.heap.size := (Array.getElem?_eq_some_iff.1 hit1).1
      clear hw1 hnx0 hbw
      have hst : okByte signs (s[pos]'hlt) = true → ∀ k (hk : k < s.size), k < pos + 1 → okByte signs (s[k]'hk) = true := fun hh k hk hl => by
        by_cases e : k = pos
        · subst e; exact hh
        · exact hno k hk (by omega)
      have hsf : okByte signs (s[pos]'hlt) = false → partS s signs = false := partS_no s signs pos hlt
      have HST := Lib.hid hst
      have HSF := Lib.hid hsf
      have HIP := Lib.hid (iterPos_of hit)
      have HS := Lib.hid hs
      clear hst hsf hit hno hs
      by_cases hA : 97 ≤ r ∧ r ≤ 122
      · have HO := Lib.hid (show okByte signs (s[pos]'hlt) = true by rw [hok]; simp [hA])
        clear hok hhi
        obtain ⟨hA1, hA2⟩ := hA
        have hp2 := hp' (by omega)
        subst hp2
        go_wp2
        go_roundw
        case rel => exact ⟨pos + 1, hit1, by omega, hb1, HST.out HO.out⟩
        case measure => rw [iterPos_of hit1, HIP.out]; omega
      · have hout : r < 97 ∨ 122 < r := by omega
        by_cases hB : 48 ≤ r ∧ r ≤ 57
        · have HO := Lib.hid (show okByte signs (s[pos]'hlt) = true by rw [hok]; simp [hB])
          clear hok hhi hA
          obtain ⟨hB1, hB2⟩ := hB
          have hout' : r < 97 := by omega
          clear hout
          have hp2 := hp' (by omega)
          subst hp2
          go_wp2
          go_roundw
          case rel => exact ⟨pos + 1, hit1, by omega, hb1, HST.out HO.out⟩
          case measure => rw [iterPos_of hit1, HIP.out]; omega
        · have hok2 : okByte signs (s[pos]'hlt) = runeIn signs r := by
            rw [hok]
            have e1 : (decide (97 ≤ r) && decide (r ≤ 122)) = false := by simp; omega
            have e2 : (decide (48 ≤ r) && decide (r ≤ 57)) = false := by simp; omega
            rw [e1, e2]; rfl
          cases hr : runeIn signs r with
          | true =>
            have HO := Lib.hid (show okByte signs (s[pos]'hlt) = true by rw [hok2, hr])
            have hlt2 : r < 128 := by
              rcases Int.lt_or_le r 128 with h | h
              · exact h
              · rw [hhi h] at hok2; rw [hr] at hok2; cases hok2
            have hp2 := hp' (by omega)
            subst hp2
            have HR := Lib.hid hr
            clear hok hhi hA hok2 hr
            have hB' : r < 48 ∨ 57 < r := by omega
            clear hB
            rcases hout with ho | ho
            · rcases hB' with hB | hB
              · have q0 : decide (97 ≤ r) = false := by simp; omega
                have q1 : decide (48 ≤ r) = false := by simp; omega
                go_wp2_with (go_at_call 74; refine (hasRune_calls signs r _ HS.out).mono ?_; rintro e w2 ⟨rfl, hb2⟩; have HB2 := Lib.hid hb2; clear hb2; rw [HR.out])
                go_roundw
                case rel => exact ⟨pos + 1, (HB2.out.block _ hlt1).trans hit1, by omega, below_run hb1 HB2.out, HST.out HO.out⟩
                case measure => rw [iterPos_of ((HB2.out.block _ hlt1).trans hit1), HIP.out]; omega
              · have q0 : decide (97 ≤ r) = false := by simp; omega
                have q1 : decide (48 ≤ r) = true := by simp; omega
                have q2 : decide (r ≤ 57) = false := by simp; omega
                go_wp2_with (go_at_call 74; refine (hasRune_calls signs r _ HS.out).mono ?_; rintro e w2 ⟨rfl, hb2⟩; have HB2 := Lib.hid hb2; clear hb2; rw [HR.out])
                go_roundw
                case rel => exact ⟨pos + 1, (HB2.out.block _ hlt1).trans hit1, by omega, below_run hb1 HB2.out, HST.out HO.out⟩
                case measure => rw [iterPos_of ((HB2.out.block _ hlt1).trans hit1), HIP.out]; omega
            · have hB : 57 < r := by omega
              clear hB'
              have q0 : decide (97 ≤ r) = true := by simp; omega
              have q1 : decide (r ≤ 122) = false := by simp; omega
              have q2 : decide (48 ≤ r) = true := by simp; omega
              have q3 : decide (r ≤ 57) = false := by simp; omega
              go_wp2_with (go_at_call 74; refine (hasRune_calls signs r _ HS.out).mono ?_; rintro e w2 ⟨rfl, hb2⟩; have HB2 := Lib.hid hb2; clear hb2; rw [HR.out])
              go_roundw
              case rel => exact ⟨pos + 1, (HB2.out.block _ hlt1).trans hit1, by omega, below_run hb1 HB2.out, HST.out HO.out⟩
              case measure => rw [iterPos_of ((HB2.out.block _ hlt1).trans hit1), HIP.out]; omega
          | false =>
            have HO := Lib.hid (show okByte signs (s[pos]'hlt) = false by rw [hok2, hr])
            have HR := Lib.hid hr
            clear hok hhi hA hok2 hr
            have hB' : r < 48 ∨ 57 < r := by omega
            clear hB
            rcases hout with ho | ho
            · rcases hB' with hB | hB
              · have q0 : decide (97 ≤ r) = false := by simp; omega
                have q1 : decide (48 ≤ r) = false := by simp; omega
                go_wp2_with (go_at_call 74; refine (hasRune_calls signs r _ HS.out).mono ?_; rintro e w2 ⟨rfl, hb2⟩; have HB2 := Lib.hid hb2; clear hb2; rw [HR.out])
                go_ret
                exact ⟨by rw [HSF.out HO.out]; rfl, below_run hb1 HB2.out⟩
              · have q0 : decide (97 ≤ r) = false := by simp; omega
                have q1 : decide (48 ≤ r) = true := by simp; omega
                have q2 : decide (r ≤ 57) = false := by simp; omega
                go_wp2_with (go_at_call 74; refine (hasRune_calls signs r _ HS.out).mono ?_; rintro e w2 ⟨rfl, hb2⟩; have HB2 := Lib.hid hb2; clear hb2; rw [HR.out])
                go_ret
                exact ⟨by rw [HSF.out HO.out]; rfl, below_run hb1 HB2.out⟩
            · have hB : 57 < r := by omega
              clear hB'
              have q0 : decide (97 ≤ r) = true := by simp; omega
              have q1 : decide (r ≤ 122) = false := by simp; omega
              have q2 : decide (48 ≤ r) = true := by simp; omega
              have q3 : decide (r ≤ 57) = false := by simp; omega
              go_wp2_with (go_at_call 74; refine (hasRune_calls signs r _ HS.out).mono ?_; rintro e w2 ⟨rfl, hb2⟩; have HB2 := Lib.hid hb2; clear hb2; rw [HR.out])
              go_ret
              exact ⟨by rw [HSF.out HO.out]; rfl, below_run hb1 HB2.out⟩
    · have hnx : ∀ ty, (Instr.next (.pointer (some ⟨w.heap.size, 0, none⟩)) true ty).run Tryz.prog wr = _ := fun ty => Lib.run_next_end_at wr w.heap.size s pos ty hit hlt
      have HP := Lib.hid (partS_all s signs fun k hk => hno k hk (by omega))
      clear hs hit hno
      go_wp2
      all_goals go_ret
      all_goals exact ⟨by rw [HP.out]; first | rfl | (simp; omega), hbw⟩
def ascii (s : ByteArray) : Bool := s.data.toList.all fun c => decide (c.toNat < 128)
theorem ascii_at {s : ByteArray} (h : ascii s = true) (k : Nat) (hk : k < s.size) : (s[k]'hk).toNat < 128 := by
  unfold ascii at h
  rw [List.all_eq_true] at h
  have := h s[k] (by rw [show s[k] = s.data[k] from rfl]; exact Array.getElem_mem_toList _)
  simpa using this
def eid_isPart.f (a0 a1 : ByteArray) : Option Bool := if a0.size ≤ maxLen ∧ ascii a1 = true then some (partS a0 a1) else none
theorem eid_isPart.calls (a0 a1 : ByteArray) (r : Bool) (w : World) (h : eid_isPart.f a0 a1 = some r) :
    Calls Tryz.prog 68 #[.string a0, .string a1] w fun e w' => e = .returned (.bool r) ∧ Below w.heap.size w w' := by
  unfold eid_isPart.f at h
  split at h
  · rename_i hc
    obtain rfl := Option.some.inj h
    exact isPart_calls a0 a1 w hc.1 (fun k hk => ascii_at hc.2 k hk)
  · cases h
end Go.Proofs.YtbjbicaffblchaaGreatDoor.Hand
end
section
namespace Go.Proofs.YtbjbicaffblchaaGreatDoor.Hand
open Go.RowKit Go.Instr
variable {P : Program}
theorem run_checkKey_int' (m : Nat) (W : World) (K : TypeId) (k : IntKind) (hK : P.underlying K = some (.int k)) (e : Bool) (j : IntKind) (n : Int) : (checkKey e (m + 1) K (.int j n)).run P W = .ok () W := by
  simp only [checkKey, Sem.run_bind, run_underlying hK, Result.andThen_ok, Sem.run_pure]
theorem run_checkKey_int (W : World) (K : TypeId) (k : IntKind) (hK : P.underlying K = some (.int k)) (e : Bool) (j : IntKind) (n : Int) : (checkKey e 10000 K (.int j n)).run P W = .ok () W := run_checkKey_int' 9999 W K k hK e j n
theorem run_lookup_hit (W : World) (b : Nat) (es : Array MapEntry) (clock : Nat) (T K E : TypeId) (kd : TypeDesc) (kv v : Value) (i : Nat) (ok : Bool) (hT : P.underlying T = some (.map K E)) (hK : P.underlying K = some kd)
    (hc : ∀ e W, (checkKey e 10000 K kv).run P W = .ok () W) (hb : W.heap[b]? = some (.map es clock)) (h : findNow kd kv es.toList 0 = some (some (i, v))) :
    (Instr.lookup T (.map (some b)) kv ok).run P W = .ok (if ok then .tuple #[v, .bool true] else v) W := by
  have hg : (getObj b).run P W = .ok (.map es clock) W := by simp [getObj, Sem.run, hb]
  simp only [Instr.lookup, Sem.run_bind, run_underlying hT, Result.andThen_ok, Sem.run_pure, hg, hc, findKey, run_underlying hK, h]
theorem run_lookup_miss (W : World) (b : Nat) (es : Array MapEntry) (clock : Nat) (T K E : TypeId) (kd : TypeDesc) (kv z : Value) (ok : Bool) (hT : P.underlying T = some (.map K E)) (hK : P.underlying K = some kd)
    (hc : ∀ e W, (checkKey e 10000 K kv).run P W = .ok () W) (hb : W.heap[b]? = some (.map es clock)) (hz : ∀ W, (zeroValue E).run P W = .ok z W) (h : findNow kd kv es.toList 0 = some none) :
    (Instr.lookup T (.map (some b)) kv ok).run P W = .ok (if ok then .tuple #[z, .bool false] else z) W := by
  have hg : (getObj b).run P W = .ok (.map es clock) W := by simp [getObj, Sem.run, hb]
  simp only [Instr.lookup, Sem.run_bind, run_underlying hT, Result.andThen_ok, Sem.run_pure, hg, hc, findKey, run_underlying hK, h, hz]
theorem run_mapUpdate_miss (W : World) (b : Nat) (es : Array MapEntry) (clock : Nat) (T K E : TypeId) (kd : TypeDesc) (kv v : Value) (hT : P.underlying T = some (.map K E)) (hK : P.underlying K = some kd)
    (hc : ∀ e W, (checkKey e 10000 K kv).run P W = .ok () W) (hb : W.heap[b]? = some (.map es clock)) (h : findNow kd kv es.toList 0 = some none) :
    (Instr.mapUpdate T (.map (some b)) kv v).run P W = .ok () (W.putObj b (.map (es.push { key := kv, val := v, born := clock }) (clock + 1))) := by
  have hg : (getObj b).run P W = .ok (.map es clock) W := by simp [getObj, Sem.run, hb]
  simp only [Instr.mapUpdate, Sem.run_bind, run_underlying hT, Result.andThen_ok, Sem.run_pure, hg, hc, findKey, run_underlying hK, h]
  simp only [setObj, Sem.run, hb]
  rfl
theorem putObj_alloc (W : World) (o o' : Obj) : (W.alloc o).putObj W.heap.size o' = W.alloc o' := by
  have h : (W.heap.push o).setIfInBounds W.heap.size o' = W.heap.push o' := by
    apply Array.ext
    · simp
    · intro i h1 h2
      rw [Array.getElem_setIfInBounds (by simpa using h1), Array.getElem_push, Array.getElem_push]
      by_cases hi : W.heap.size = i
      · subst hi; simp
      · rw [if_neg hi]
        have : i < W.heap.size := by simp at h1; omega
        simp [this]
  show { (W.alloc o) with heap := (W.heap.push o).setIfInBounds W.heap.size o' } = W.alloc o'
  rw [h]
  rfl
end Go.Proofs.YtbjbicaffblchaaGreatDoor.Hand
end
section
namespace Go.Proofs.YtbjbicaffblchaaGreatDoor.SA
open Go.Proofs.YtbjbicaffblchaaGreatDoor.Hand
open Go.RowKit Go.Proofs.YtbjbicaffblchaaGreatDoorW.PrintWords Go.Proofs.YtbjbicaffblchaaGreatDoorW.PrintLast Go.Proofs.YtbjbicaffblchaaGreatDoorW.PrintMore
attribute [local go_sem] max2_int min2_int max_two min_two max_three min_three max_four min_four
set_option linter.unusedVariables false
set_option linter.unusedSimpArgs false
def errW : Option Int → Value
  | none => .nilIface
  | some c => .iface 0 (.int .i64 c)
theorem errW_none : errW none = .nilIface := rfl
theorem errW_some (c : Int) : errW (some c) = .iface 0 (.int .i64 c) := rfl
end Go.Proofs.YtbjbicaffblchaaGreatDoor.SA
end
section
namespace Go.Proofs.YtbjbicaffblchaaGreatDoor.SA
open Go.Proofs.YtbjbicaffblchaaGreatDoor.Hand
open Go.RowKit Go.Proofs.YtbjbicaffblchaaGreatDoorW.PrintWords Go.Proofs.YtbjbicaffblchaaGreatDoorW.PrintLast Go.Proofs.YtbjbicaffblchaaGreatDoorW.PrintMore
attribute [local go_sem] max2_int min2_int max_two min_two max_three min_three max_four min_four
set_option linter.unusedVariables false
set_option linter.unusedSimpArgs false
theorem eqA41 (d : Nat) (w : World) (x0 y0 : Int) (x1 y1 : ByteArray) (x2 y2 : ByteArray) (x3 y3 : Int) (x4 y4 : Int) :
    (Op.equalIn (d + 2) 41 (.agg #[.int .i64 x0, .string x1, .string x2, .int .i64 x3, .int .i64 x4]) (.agg #[.int .i64 y0, .string y1, .string y2, .int .i64 y3, .int .i64 y4])).run Tryz.prog w = .ok (x0 == y0 && (x1.toList == y1.toList && (x2.toList == y2.toList && (x3 == y3 && (x4 == y4))))) w := by
  refine eqA_of Tryz.underlying41 (by kernel_rfl) ?_
  refine eqf_cons (by rfl) (by go_simp; rfl) (by go_simp; rfl) (by go_simp) ?_
  refine eqf_cons (by rfl) (by go_simp; rfl) (by go_simp; rfl) (by go_simp) ?_
  refine eqf_cons (by rfl) (by go_simp; rfl) (by go_simp; rfl) (by go_simp) ?_
  refine eqf_cons (by rfl) (by go_simp; rfl) (by go_simp; rfl) (by go_simp) ?_
  exact eqf_last (by rfl) (by go_simp; rfl) (by go_simp; rfl) (by go_simp)
end Go.Proofs.YtbjbicaffblchaaGreatDoor.SA
end
section
namespace Go.Proofs.YtbjbicaffblchaaGreatDoor.SA
open Go.Proofs.YtbjbicaffblchaaGreatDoor.Hand
open Go.RowKit Go.Proofs.YtbjbicaffblchaaGreatDoorW.PrintWords Go.Proofs.YtbjbicaffblchaaGreatDoorW.PrintLast Go.Proofs.YtbjbicaffblchaaGreatDoorW.PrintMore
attribute [local go_sem] max2_int min2_int max_two min_two max_three min_three max_four min_four
set_option linter.unusedVariables false
set_option linter.unusedSimpArgs false
attribute [local go_sem high] eqA41
def eid_areAll.l0 : Nat → List Bool → Int → Int → Option (Bool)
  | 0, _, _, _ => none
  | k + 1, x5, x6, x7 => if x7 < x6 then (if 0 ≤ x7 then (if x7 < (x5.length : Int) then (if rdOf false x5 x7 = true then (eid_areAll.l0 k x5 x6 (wrap64 (x7 + 1))) else (some false)) else (none)) else (none)) else (some true)
def eid_areAll.f (k : Nat) (l0 : List Bool) : Option (Bool) := eid_areAll.l0 k l0 (l0.length : Int) 0
theorem eid_areAll.mono_l : ∀ k, (∀ y0 y1 y2, LeO (eid_areAll.l0 k y0 y1 y2) (eid_areAll.l0 (k + 1) y0 y1 y2))
  | 0 => fun _ _ _ r h => by simp [eid_areAll.l0] at h
  | k + 1 => by
    have ih0 := eid_areAll.mono_l k
    · intro y0 y1 y2
      unfold eid_areAll.l0
      repeat' first
      | (with_reducible exact ih0 _ _ _)
      | (with_reducible exact LeO.refl _)
      | (with_reducible exact LeO.none _)
      | (with_reducible refine LeO.ite ?_ ?_)
      | (with_reducible refine LeO.bind ?_ (fun _ => ?_))
      | exact ih0 _ _ _
      | exact LeO.none _
      | refine LeO.ite ?_ ?_
      | refine LeO.bind ?_ (fun _ => ?_)
theorem eid_areAll.mono : ∀ a0 k, LeO (eid_areAll.f k a0) (eid_areAll.f (k + 1) a0) := by
  intro a0 k
  have ih0 := eid_areAll.mono_l k
  unfold eid_areAll.f
  repeat' first
      | (with_reducible exact ih0 _ _ _)
      | (with_reducible exact LeO.refl _)
      | (with_reducible exact LeO.none _)
      | (with_reducible refine LeO.ite ?_ ?_)
      | (with_reducible refine LeO.bind ?_ (fun _ => ?_))
      | exact ih0 _ _ _
      | exact LeO.none _
      | refine LeO.ite ?_ ?_
      | refine LeO.bind ?_ (fun _ => ?_)
set_option maxHeartbeats 8000000 in
set_option maxRecDepth 100000 in
theorem eid_areAll.calls (k : Nat) (A0 : Option Addr) (c0 : Nat) (l0 : List Bool) (r : Bool) (w : World) (hr0 : Kd.C Kd.bool w A0 l0.length l0) (hc0 : l0.length ≤ c0) (h : eid_areAll.f k l0 = some r) :
    Calls Tryz.prog 65 #[.slice A0 l0.length c0] w fun e w' => e = .returned (.bool r) ∧ Drawn0 w w' := by
  have HR0 := Aside0.mk hr0
  have HC0 := Aside0.mk hc0
  clear hr0 hc0
  have H : (eid_areAll.l0 k l0 (l0.length : Int) 0) = some r := h
  clear h
  have H' := Aside0.mk H
  clear H
  go_enter Tryz.func65, Tryz.ntmps65
  go_wp2
  go_loopg [7] k (fun kq v7 w' => ∃ (x7_1 : Int), v7 = .int .i64 x7_1 ∧ Aside0 (eid_areAll.l0 kq l0 (l0.length : Int) x7_1 = some r) ∧ Aside0 (kq ≤ k) ∧ Drawn0 w w')
  case atStart => exact ⟨(0), (by first | rfl | (simp; done) | (simp [*]; done)), H', ⟨Nat.le_refl _⟩, by repeat (first | exact Drawn0.refl _ | apply Drawn0.step)⟩
  case round =>
    clear H'
    obtain ⟨x7_1, rfl, HA, HK1, ⟨m1, rfl⟩⟩ := hrel
    cases gk with
    | zero => exact absurd HA.out (by simp [eid_areAll.l0])
    | succ k1 =>
      have H := HA.out
      clear HA
      simp only [eid_areAll.l0] at H
      by_cases c2 : x7_1 < (l0.length : Int)
      · rw [if_pos c2] at H
        have c2b0 : decide (x7_1 < (l0.length : Int)) = true := decide_eq_true c2
        clear c2
        by_cases c3 : 0 ≤ x7_1
        · rw [if_pos c3] at H
          have c3b0 : decide (0 ≤ x7_1) = true := decide_eq_true c3
          clear c3
          by_cases c4 : x7_1 < (l0.length : Int)
          · rw [if_pos c4] at H
            have c4b0 : decide (x7_1 < (l0.length : Int)) = true := decide_eq_true c4
            clear c4
            obtain ⟨bq5, hbq5⟩ : ∃ b_ : Bool, b_ = (rdOf false l0 x7_1) := ⟨_, rfl⟩
            replace H : (if bq5 = true then (eid_areAll.l0 k1 l0 (l0.length : Int) (wrap64 (x7_1 + 1))) else (some false)) = some r := by rw [← hbq5] at H; exact H
            have Nbq5 := Aside0.mk hbq5
            clear hbq5
            by_cases c6 : bq5 = true
            · subst c6
              have H1 : (eid_areAll.l0 k1 l0 (l0.length : Int) (wrap64 (x7_1 + 1))) = some r := by rw [if_pos rfl] at H; exact H
              clear H
              have H := H1
              clear H1
              have H' := Aside0.mk H
              clear H
              have p101 : 0 ≤ (x7_1 : Int) := of_decide_eq_true (by first | (with_reducible assumption) | assumption)
              have q101 : x7_1 < (l0.length : Int) := of_decide_eq_true (by first | (with_reducible assumption) | assumption)
              obtain ⟨ad101, e101, hx101_0⟩ := Kd.at_bool HR0.out x7_1 p101 q101
              (try rw [← Nbq5.out] at hx101_0)
              cases e101
              replace p101 := eq_true p101
              replace q101 := eq_true q101
              go_wp2
              go_roundg k1
              case measure => have := HK1.out; omega
              case rel => exact ⟨(wrap64 (x7_1 + 1)), (by first | rfl | (simp; done) | (simp [*]; done)), H', ⟨by have := HK1.out; omega⟩, by repeat (first | exact Drawn0.refl _ | apply Drawn0.step)⟩
            · replace c6 := Bool.eq_false_iff.mpr c6
              subst c6
              have H1 : (some false) = some r := by rw [if_neg (show ¬ (false = true) by decide)] at H; exact H
              clear H
              have H := H1
              clear H1
              obtain rfl := Option.some.inj H
              have p101 : 0 ≤ (x7_1 : Int) := of_decide_eq_true (by first | (with_reducible assumption) | assumption)
              have q101 : x7_1 < (l0.length : Int) := of_decide_eq_true (by first | (with_reducible assumption) | assumption)
              obtain ⟨ad101, e101, hx101_0⟩ := Kd.at_bool HR0.out x7_1 p101 q101
              (try rw [← Nbq5.out] at hx101_0)
              cases e101
              replace p101 := eq_true p101
              replace q101 := eq_true q101
              go_wp2
              all_goals (first | (go_ret; exact ⟨by first | rfl | (simp; done) | (simp [*]; done) | (simp_all; done), by repeat (first | exact Drawn0.refl _ | apply Drawn0.step)⟩) | (exfalso; simp_all; done))
          · rw [if_neg c4] at H
            exact absurd H (by simp)
        · rw [if_neg c3] at H
          exact absurd H (by simp)
      · rw [if_neg c2] at H
        have c2b0 : decide (x7_1 < (l0.length : Int)) = false := decide_eq_false c2
        clear c2
        obtain rfl := Option.some.inj H
        go_wp2
        all_goals (first | (go_ret; exact ⟨by first | rfl | (simp; done) | (simp [*]; done) | (simp_all; done), by repeat (first | exact Drawn0.refl _ | apply Drawn0.step)⟩) | (exfalso; simp_all; done))
def eid_isDtn.f (k : Nat) (a0_0 : Int) (a0_1 : ByteArray) (a0_2 : ByteArray) (a0_3 : Int) (a0_4 : Int) : Option (Bool) := (eid_isPart.f a0_1 (⟨#[45, 46]⟩ : ByteArray)).bind fun t103 => ((eid_isPart.f a0_2 (⟨#[45, 46, 47]⟩ : ByteArray)).bind fun t104 => ((eid_areAll.f k (([(a0_1.toList != ([] : List UInt8)), t103, t104, (a0_3 == 0), (a0_4 == 0)] : List Bool))).bind fun t108 => (some t108)))
theorem eid_isDtn.mono : ∀ a0 a1 a2 a3 a4 k, LeO (eid_isDtn.f k a0 a1 a2 a3 a4) (eid_isDtn.f (k + 1) a0 a1 a2 a3 a4) := by
  intro a0 a1 a2 a3 a4 k
  unfold eid_isDtn.f
  repeat' first
      | (with_reducible exact eid_areAll.mono _ _)
      | (with_reducible exact LeO.refl _)
      | (with_reducible exact LeO.none _)
      | (with_reducible refine LeO.ite ?_ ?_)
      | (with_reducible refine LeO.bind ?_ (fun _ => ?_))
      | exact eid_areAll.mono _ _
      | exact LeO.none _
      | refine LeO.ite ?_ ?_
      | refine LeO.bind ?_ (fun _ => ?_)
def eid_isDtn.T1 : Bool × List (List Nat × List Nat) := (true, [([], []), ([0], [0]), ([1], [1]), ([], []), ([3], [3]), ([4], [4]), ([], []), ([6], [6]), ([7, 5], [7]), ([], []), ([9], [9]), ([10], [10]), ([], []), ([12], [12]), ([13], [13]), ([2, 5, 8, 11, 14], [2, 5, 8, 11, 14]), ([15, 8], [15]), ([16, 16, 0, 1, 2, 3, 4, 5, 6, 7, 8, 9, 10, 11, 12, 13, 14, 15, 16], [16])])
def eid_isDtn.B1 : List Nat := [0, 1, 3, 0, 8, 24, 0, 64, 248, 0, 512, 1536, 0, 4096, 12288, 32767, 65535, 131071]
theorem eid_isDtn.tab1 : rtab .any (opsOf Tryz.f53 1) = eid_isDtn.T1 := by kernel_rfl
theorem eid_isDtn.bits1 : waitsOk eid_isDtn.T1.2 eid_isDtn.B1 = true := by kernel_rfl
set_option maxHeartbeats 8000000 in
set_option maxRecDepth 100000 in
theorem eid_isDtn.calls (k : Nat) (a0_0 : Int) (a0_1 : ByteArray) (a0_2 : ByteArray) (a0_3 : Int) (a0_4 : Int) (r : Bool) (w : World) (h : eid_isDtn.f k a0_0 a0_1 a0_2 a0_3 a0_4 = some r) :
    Calls Tryz.prog 53 #[.agg #[.int .i64 a0_0, .string a0_1, .string a0_2, .int .i64 a0_3, .int .i64 a0_4]] w fun e w' => e = .returned (.bool r) ∧ Below w.heap.size w w' := by
  have hu41 := Tryz.underlying41
  have HB := Aside0.mk (Below.refl w.heap.size w)
  have H : ((eid_isPart.f a0_1 (⟨#[45, 46]⟩ : ByteArray)).bind fun t103 => ((eid_isPart.f a0_2 (⟨#[45, 46, 47]⟩ : ByteArray)).bind fun t104 => ((eid_areAll.f k (([(a0_1.toList != ([] : List UInt8)), t103, t104, (a0_3 == 0), (a0_4 == 0)] : List Bool))).bind fun t108 => (some t108)))) = some r := h
  clear h
  replace H := Option.bind_eq_some_iff.mp H
  obtain ⟨t103, A20, H⟩ := H
  replace H : ((eid_isPart.f a0_2 (⟨#[45, 46, 47]⟩ : ByteArray)).bind fun t104 => ((eid_areAll.f k (([(a0_1.toList != ([] : List UInt8)), t103, t104, (a0_3 == 0), (a0_4 == 0)] : List Bool))).bind fun t108 => (some t108))) = some r := H
  have A2 := Aside0.mk A20
  clear A20
  replace H := Option.bind_eq_some_iff.mp H
  obtain ⟨t104, A30, H⟩ := H
  replace H : ((eid_areAll.f k (([(a0_1.toList != ([] : List UInt8)), t103, t104, (a0_3 == 0), (a0_4 == 0)] : List Bool))).bind fun t108 => (some t108)) = some r := H
  have A3 := Aside0.mk A30
  clear A30
  obtain ⟨y105, hy105⟩ : ∃ y_ : List Bool, y_ = (([(a0_1.toList != ([] : List UInt8)), t103, t104, (a0_3 == 0), (a0_4 == 0)] : List Bool)) := ⟨_, rfl⟩
  replace H : ((eid_areAll.f k y105).bind fun t108 => (some t108)) = some r := by first | (rw [hy105]; with_reducible exact H) | (have H2_ := (Option.bind_some _ _).symm.trans H; rw [hy105]; with_reducible exact H2_) | (have H2_ := (Option.bind_some _ _).symm.trans H; with_reducible exact H2_) | with_reducible exact H | (rw [hy105]; exact H) | exact H
  have Ny105 := Aside0.mk hy105
  clear hy105
  replace H := Option.bind_eq_some_iff.mp H
  obtain ⟨t108, A40, H⟩ := H
  replace H : (some t108) = some r := H
  have A4 := Aside0.mk A40
  clear A40
  obtain rfl := Option.some.inj H
  go_enter Tryz.func53, Tryz.ntmps53
  try go_wp2_with (first | ((with_reducible refine gate_dst (N := 1) rfl ?_); refine box_event ?hg (N := 1) ?hd (cs := #[.int .i64 a0_0, .string a0_1, .string a0_2, .int .i64 a0_3, .int .i64 a0_4]) (t := 41) ?hr ?_; (case hd => rfl); (case hg => rfl); (case hr => first | (go_simp; done) | (go_simp; rfl) | (go_simp; simp only [isEmpty_ne, isEmpty_eq]; done) | (go_simp; simp only [isEmpty_ne, isEmpty_eq]; rfl)); intro gb102 hg w5 hbox hb; have n0_ := Aside0.mk (below_step (by repeat (first | (with_reducible first | exact HB.out | apply below_alloc | apply pw_below_drewN | apply below_drew1) | exact HB.out)) hb); have n1_ := Aside0.mk (hbox); have n2_ := Aside0.mk ((by rw [hg]; exact (below_size (by repeat (first | (with_reducible first | exact HB.out | apply below_alloc | apply pw_below_drewN | apply below_drew1) | exact HB.out))) : w.heap.size ≤ gb102)); have n3_ := Aside0.mk ((by rw [hg]; exact (below_size (by repeat (first | (with_reducible first | exact HB.out | apply below_alloc | apply pw_below_drewN | apply below_drew1) | exact HB.out))) : w.heap.size ≤ gb102)); clear HB; have HB := n0_; have BK102 := n1_; have GW102 := n2_; have GE102 := n3_; clear n0_ n1_ n2_ n3_; clear hb hbox hg))
  have n0_ := Aside0.mk (blk_drew BK102.out)
  have n1_ := Aside0.mk (below_drew1 HB.out)
  clear BK102
  clear HB
  have BK102 := n0_
  have HB := n1_
  clear n0_ n1_
  refine start_ (n := 18) (S := fun w' => w'.cell? ⟨gb102, 0, none⟩ = some (.int .i64 a0_0) ∧ w'.cell? ⟨gb102, 1, none⟩ = some (.string a0_1) ∧ w'.cell? ⟨gb102, 2, none⟩ = some (.string a0_2) ∧ w'.cell? ⟨gb102, 3, none⟩ = some (.int .i64 a0_3) ∧ w'.cell? ⟨gb102, 4, none⟩ = some (.int .i64 a0_4)) (ds := []) #[false, false, false, false, false, false, false, false, false, false, false, false, false, false, false, false, false, false] (by kernel_rfl) rfl rfl ⟨(blk_cell BK102.out 0).trans rfl, (blk_cell BK102.out 1).trans rfl, (blk_cell BK102.out 2).trans rfl, (blk_cell BK102.out 3).trans rfl, (blk_cell BK102.out 4).trans rfl⟩ (fun hHeld => ?_); refine with_tabW eid_isDtn.tab1 eid_isDtn.bits1 (fun HT_ HW_ => ?_)
  generalize w5.drew = w6 at BK102 HB hHeld ⊢
  refine pure_ (i := 0) (N := some 3) (v := ?_) (a' := ?_) #[true, false, false, false, false, false, false, false, false, false, false, false, false, false, false, false, false, false] rfl rfl (any_of HT_.out (by kernel_rfl)) (fun _ _ _ h => h) (Or.inl ⟨by rfl, ?_⟩) ?_ ?_
  rotate_left
  · intro w'
    go_simp
    with_reducible rfl
  rotate_left
  · simp only [Act.put, List.setIfInBounds_toArray, List.set_cons_zero, List.set_cons_succ, i64_w, i32_w]
    rfl
  refine pure_ (i := 3) (N := some 6) (v := ?_) (a' := ?_) #[true, false, false, true, false, false, false, false, false, false, false, false, false, false, false, false, false, false] rfl rfl (any_of HT_.out (by kernel_rfl)) (fun _ _ _ h => h) (Or.inl ⟨by rfl, ?_⟩) ?_ ?_
  rotate_left
  · intro w'
    go_simp
    with_reducible rfl
  rotate_left
  · simp only [Act.put, List.setIfInBounds_toArray, List.set_cons_zero, List.set_cons_succ, i64_w, i32_w]
    rfl
  refine pure_ (i := 6) (N := some 9) (v := ?_) (a' := ?_) #[true, false, false, true, false, false, true, false, false, false, false, false, false, false, false, false, false, false] rfl rfl (any_of HT_.out (by kernel_rfl)) (fun _ _ _ h => h) (Or.inl ⟨by rfl, ?_⟩) ?_ ?_
  rotate_left
  · intro w'
    go_simp
    with_reducible rfl
  rotate_left
  · simp only [Act.put, List.setIfInBounds_toArray, List.set_cons_zero, List.set_cons_succ, i64_w, i32_w]
    rfl
  refine pure_ (i := 9) (N := some 12) (v := ?_) (a' := ?_) #[true, false, false, true, false, false, true, false, false, true, false, false, false, false, false, false, false, false] rfl rfl (any_of HT_.out (by kernel_rfl)) (fun _ _ _ h => h) (Or.inl ⟨by rfl, ?_⟩) ?_ ?_
  rotate_left
  · intro w'
    go_simp
    with_reducible rfl
  rotate_left
  · simp only [Act.put, List.setIfInBounds_toArray, List.set_cons_zero, List.set_cons_succ, i64_w, i32_w]
    rfl
  refine pure_ (i := 12) (N := some 15) (v := ?_) (a' := ?_) #[true, false, false, true, false, false, true, false, false, true, false, false, true, false, false, false, false, false] rfl rfl (any_of HT_.out (by kernel_rfl)) (fun _ _ _ h => h) (Or.inl ⟨by rfl, ?_⟩) ?_ ?_
  rotate_left
  · intro w'
    go_simp
    with_reducible rfl
  rotate_left
  · simp only [Act.put, List.setIfInBounds_toArray, List.set_cons_zero, List.set_cons_succ, i64_w, i32_w]
    rfl
  refine take_ (i := 1) (N := some 4) (v := ?_) (a' := ?_) #[true, true, false, true, false, false, true, false, false, true, false, false, true, false, false, false, false, false] rfl rfl (take_ofW HT_.out HW_.out (by kernel_rfl)) (fun _ _ _ h => h) (Or.inl ⟨by rfl, ?_⟩) hHeld ?_ ?_
  rotate_left
  · rintro w' ⟨s0, s1, s2, s3, s4⟩
    go_simp
    with_reducible rfl
  rotate_left
  · simp only [Act.put, List.setIfInBounds_toArray, List.set_cons_zero, List.set_cons_succ, i64_w, i32_w]
    rfl
  refine pure_ (i := 2) (N := some 5) (v := ?_) (a' := ?_) #[true, true, true, true, false, false, true, false, false, true, false, false, true, false, false, false, false, false] rfl rfl (any_of HT_.out (by kernel_rfl)) (fun _ _ _ h => h) (Or.inl ⟨by rfl, ?_⟩) ?_ ?_
  rotate_left
  · intro w'
    go_simp
    with_reducible rfl
  rotate_left
  · simp only [Act.put, List.setIfInBounds_toArray, List.set_cons_zero, List.set_cons_succ, i64_w, i32_w]
    rfl
  refine take_ (i := 4) (N := some 7) (v := ?_) (a' := ?_) #[true, true, true, true, true, false, true, false, false, true, false, false, true, false, false, false, false, false] rfl rfl (take_ofW HT_.out HW_.out (by kernel_rfl)) (fun _ _ _ h => h) (Or.inl ⟨by rfl, ?_⟩) hHeld ?_ ?_
  rotate_left
  · rintro w' ⟨s0, s1, s2, s3, s4⟩
    go_simp
    with_reducible rfl
  rotate_left
  · simp only [Act.put, List.setIfInBounds_toArray, List.set_cons_zero, List.set_cons_succ, i64_w, i32_w]
    rfl
  refine take_ (i := 7) (N := some 10) (v := ?_) (a' := ?_) #[true, true, true, true, true, false, true, true, false, true, false, false, true, false, false, false, false, false] rfl rfl (take_ofW HT_.out HW_.out (by kernel_rfl)) (fun _ _ _ h => h) (Or.inl ⟨by rfl, ?_⟩) hHeld ?_ ?_
  rotate_left
  · rintro w' ⟨s0, s1, s2, s3, s4⟩
    go_simp
    with_reducible rfl
  rotate_left
  · simp only [Act.put, List.setIfInBounds_toArray, List.set_cons_zero, List.set_cons_succ, i64_w, i32_w]
    rfl
  refine take_ (i := 10) (N := some 13) (v := ?_) (a' := ?_) #[true, true, true, true, true, false, true, true, false, true, true, false, true, false, false, false, false, false] rfl rfl (take_ofW HT_.out HW_.out (by kernel_rfl)) (fun _ _ _ h => h) (Or.inl ⟨by rfl, ?_⟩) hHeld ?_ ?_
  rotate_left
  · rintro w' ⟨s0, s1, s2, s3, s4⟩
    go_simp
    with_reducible rfl
  rotate_left
  · simp only [Act.put, List.setIfInBounds_toArray, List.set_cons_zero, List.set_cons_succ, i64_w, i32_w]
    rfl
  refine pure_ (i := 11) (N := some 14) (v := ?_) (a' := ?_) #[true, true, true, true, true, false, true, true, false, true, true, true, true, false, false, false, false, false] rfl rfl (any_of HT_.out (by kernel_rfl)) (fun _ _ _ h => h) (Or.inl ⟨by rfl, ?_⟩) ?_ ?_
  rotate_left
  · intro w'
    go_simp
    with_reducible rfl
  rotate_left
  · simp only [Act.put, List.setIfInBounds_toArray, List.set_cons_zero, List.set_cons_succ, i64_w, i32_w]
    rfl
  refine take_ (i := 13) (N := some 16) (v := ?_) (a' := ?_) #[true, true, true, true, true, false, true, true, false, true, true, true, true, true, false, false, false, false] rfl rfl (take_ofW HT_.out HW_.out (by kernel_rfl)) (fun _ _ _ h => h) (Or.inl ⟨by rfl, ?_⟩) hHeld ?_ ?_
  rotate_left
  · rintro w' ⟨s0, s1, s2, s3, s4⟩
    go_simp
    with_reducible rfl
  rotate_left
  · simp only [Act.put, List.setIfInBounds_toArray, List.set_cons_zero, List.set_cons_succ, i64_w, i32_w]
    rfl
  refine pure_ (i := 14) (N := some 17) (v := ?_) (a' := ?_) #[true, true, true, true, true, false, true, true, false, true, true, true, true, true, true, false, false, false] rfl rfl (any_of HT_.out (by kernel_rfl)) (fun _ _ _ h => h) (Or.inl ⟨by rfl, ?_⟩) ?_ ?_
  rotate_left
  · intro w'
    go_simp
    with_reducible rfl
  rotate_left
  · simp only [Act.put, List.setIfInBounds_toArray, List.set_cons_zero, List.set_cons_succ, i64_w, i32_w]
    rfl
  refine one_ (i := 5) (N := some 8) #[true, true, true, true, true, true, true, true, false, true, true, true, true, true, true, false, false, false] rfl rfl (one_of HT_.out (by kernel_rfl)) (by decide) (fun K hK => ?_)
  refine goes_ Tryz.func68 (by kernel_rfl) rfl #[.string a0_1, .string (⟨#[45, 46]⟩ : ByteArray)] (by rfl) rfl rfl (by (try simp only [List.map_toArray, List.map_cons, List.map_nil]); first | done | rfl | (simp only [List.length_drop, List.length_take]; rfl)) ?_
  with_reducible refine (eid_isPart.calls a0_1 (⟨#[45, 46]⟩ : ByteArray) t103 _ A2.out).mono ?_
  rintro e w7 ⟨rfl, hb⟩
  refine ⟨_, rfl, ?_⟩
  have n0_ := Aside0.mk (blk_below (g := gb102) (o := .cells #[.int .i64 a0_0, .string a0_1, .string a0_2, .int .i64 a0_3, .int .i64 a0_4] 41 (0, 0)) (by (with_reducible repeat (first | refine blk_drewN ?_ _ | refine blk_drew ?_ | refine blk_alloc ?_ _)); exact BK102.out) hb)
  have n1_ := Aside0.mk (below_step (by repeat (first | (with_reducible first | exact HB.out | apply below_alloc | apply pw_below_drewN | apply below_drew1 | refine below_set ?_ GE102.out) | exact HB.out)) hb)
  clear BK102
  clear HB
  have BK102 := n0_
  have HB := n1_
  clear n0_ n1_
  (try clear hb)
  (try clear hb2)
  (try clear hk)
  (try clear hi)
  refine hK.out _ _ ⟨(blk_cell BK102.out 0).trans rfl, (blk_cell BK102.out 1).trans rfl, (blk_cell BK102.out 2).trans rfl, (blk_cell BK102.out 3).trans rfl, (blk_cell BK102.out 4).trans rfl⟩ (fun hHeld => ?_)
  clear hK K
  refine norm_ (a' := ?_) ?_ ?_
  rotate_left
  · show Act.put _ (some 8) _ = _
    simp only [Act.put, List.setIfInBounds_toArray, List.set_cons_zero, List.set_cons_succ, i64_w, i32_w]
    rfl
  refine one_ (i := 8) (N := some 11) #[true, true, true, true, true, true, true, true, true, true, true, true, true, true, true, false, false, false] rfl rfl (one_of HT_.out (by kernel_rfl)) (by decide) (fun K hK => ?_)
  refine goes_ Tryz.func68 (by kernel_rfl) rfl #[.string a0_2, .string (⟨#[45, 46, 47]⟩ : ByteArray)] (by rfl) rfl rfl (by (try simp only [List.map_toArray, List.map_cons, List.map_nil]); first | done | rfl | (simp only [List.length_drop, List.length_take]; rfl)) ?_
  with_reducible refine (eid_isPart.calls a0_2 (⟨#[45, 46, 47]⟩ : ByteArray) t104 _ A3.out).mono ?_
  rintro e w8 ⟨rfl, hb⟩
  refine ⟨_, rfl, ?_⟩
  have n0_ := Aside0.mk (blk_below (g := gb102) (o := .cells #[.int .i64 a0_0, .string a0_1, .string a0_2, .int .i64 a0_3, .int .i64 a0_4] 41 (0, 0)) (by (with_reducible repeat (first | refine blk_drewN ?_ _ | refine blk_drew ?_ | refine blk_alloc ?_ _)); exact BK102.out) hb)
  have n1_ := Aside0.mk (below_step (by repeat (first | (with_reducible first | exact HB.out | apply below_alloc | apply pw_below_drewN | apply below_drew1 | refine below_set ?_ GE102.out) | exact HB.out)) hb)
  clear BK102
  clear HB
  have BK102 := n0_
  have HB := n1_
  clear n0_ n1_
  (try clear hb)
  (try clear hb2)
  (try clear hk)
  (try clear hi)
  refine hK.out _ _ ⟨(blk_cell BK102.out 0).trans rfl, (blk_cell BK102.out 1).trans rfl, (blk_cell BK102.out 2).trans rfl, (blk_cell BK102.out 3).trans rfl, (blk_cell BK102.out 4).trans rfl⟩ (fun hHeld => ?_)
  clear hK K
  refine norm_ (a' := ?_) ?_ ?_
  rotate_left
  · show Act.put _ (some 11) _ = _
    simp only [Act.put, List.setIfInBounds_toArray, List.set_cons_zero, List.set_cons_succ, i64_w, i32_w]
    rfl
  refine one_ (i := 15) (N := some 18) #[true, true, true, true, true, true, true, true, true, true, true, true, true, true, true, true, false, false] rfl rfl (one_of HT_.out (by kernel_rfl)) (by decide) (fun K hK => ?_)
  refine Kd.R_lit_step Kd.bool _ 4 ?hg (N := 18) ?hd (xs := ([(a0_1.toList != ([] : List UInt8)), t103, t104, (a0_3 == 0), (a0_4 == 0)] : List Bool)) (inner := [.bool (a0_1.toList != ([] : List UInt8)), .bool t103, .bool t104, .bool (a0_3 == 0), .bool (a0_4 == 0)]) (ok := fun _ => True) (okp := fun _ => True) ?hr ?hp (fun _ hk => hk) trivial (Below.refl _ _) (Nat.le_refl _) (by simp) ?_; (case hd => rfl); (case hg => rfl); (case hr => first | (go_simp; done) | (go_simp; rfl) | (go_simp; simp only [isEmpty_ne, isEmpty_eq]; done) | (go_simp; simp only [isEmpty_ne, isEmpty_eq]; rfl)); (case hp => exact (Reps.one (show Kd.M Kd.bool _ _ _ (a0_1.toList != ([] : List UInt8)) [.bool (a0_1.toList != ([] : List UInt8))] from rfl) (Reps.one (show Kd.M Kd.bool _ _ _ t103 [.bool t103] from rfl) (Reps.one (show Kd.M Kd.bool _ _ _ t104 [.bool t104] from rfl) (Reps.one (show Kd.M Kd.bool _ _ _ (a0_3 == 0) [.bool (a0_3 == 0)] from rfl) (Reps.one (show Kd.M Kd.bool _ _ _ (a0_4 == 0) [.bool (a0_4 == 0)] from rfl) (Reps.none _ _)))))))
  intro v106 w9 ho10 hb hg_ hnew_
  clear hg_ hnew_
  (first | rw [← Ny105.out] at ho10 | (simp only [Int.reduceToNat] at ho10; rw [← Ny105.out] at ho10))
  have n0_ := Aside0.mk (Kd.R_lower ho10 (below_size (by repeat (first | (with_reducible first | exact HB.out | apply below_alloc | apply pw_below_drewN | apply below_drew1 | refine below_set ?_ GE102.out) | exact HB.out))))
  have n1_ := Aside0.mk (blk_below (g := gb102) (o := .cells #[.int .i64 a0_0, .string a0_1, .string a0_2, .int .i64 a0_3, .int .i64 a0_4] 41 (0, 0)) (by (with_reducible repeat (first | refine blk_drewN ?_ _ | refine blk_drew ?_ | refine blk_alloc ?_ _)); exact BK102.out) hb)
  have n2_ := Aside0.mk (below_step (by repeat (first | (with_reducible first | exact HB.out | apply below_alloc | apply pw_below_drewN | apply below_drew1 | refine below_set ?_ GE102.out) | exact HB.out)) hb)
  clear BK102
  clear HB
  have HO107 := n0_
  have BK102 := n1_
  have HB := n2_
  clear n0_ n1_ n2_
  clear hb ho10
  obtain ⟨Ao11, co11, eo11⟩ := Kd.R_slice HO107.out
  (first | subst eo11 | (injection eo11 with f1_ f2_ f3_; have f4_ := f1_.symm; have f5_ := f3_.symm; clear f1_ f2_ f3_; subst f4_; subst f5_))
  refine hK.out _ _ ⟨(blk_cell BK102.out 0).trans rfl, (blk_cell BK102.out 1).trans rfl, (blk_cell BK102.out 2).trans rfl, (blk_cell BK102.out 3).trans rfl, (blk_cell BK102.out 4).trans rfl⟩ (fun hHeld => ?_)
  clear hK K
  refine norm_ (a' := ?_) ?_ ?_
  rotate_left
  · show Act.put _ (some 18) _ = _
    simp only [Act.put, List.setIfInBounds_toArray, List.set_cons_zero, List.set_cons_succ, i64_w, i32_w]
    rfl
  refine one_ (i := 16) (N := some 19) #[true, true, true, true, true, true, true, true, true, true, true, true, true, true, true, true, true, false] rfl rfl (one_of HT_.out (by kernel_rfl)) (by decide) (fun K hK => ?_)
  refine goes_ Tryz.func65 (by kernel_rfl) rfl #[.slice Ao11 y105.length co11] (by rfl) rfl rfl (by (try simp only [List.map_toArray, List.map_cons, List.map_nil]); first | done | rfl | (simp only [List.length_drop, List.length_take]; rfl)) ?_
  with_reducible refine (eid_areAll.calls k _ _ y105 t108 _ ?side1 ?side2 A4.out).mono ?_
  (case side1 => repeat (first | exact (Kd.R_reads' HO107.out).2.2 | (with_reducible refine Kd.C_alloc ?_ _) | (with_reducible refine Kd.C_drewN ?_ _) | (with_reducible refine Kd.C_drew ?_)))
  (case side2 => exact (Kd.R_reads' HO107.out).2.1)
  rintro e w' ⟨rfl, ⟨nd, rfl⟩⟩
  refine ⟨_, rfl, ?_⟩
  refine hK.out _ _ ⟨(blk_cell BK102.out 0).trans rfl, (blk_cell BK102.out 1).trans rfl, (blk_cell BK102.out 2).trans rfl, (blk_cell BK102.out 3).trans rfl, (blk_cell BK102.out 4).trans rfl⟩ (fun hHeld => ?_)
  clear hK K
  refine norm_ (a' := ?_) ?_ ?_
  rotate_left
  · show Act.put _ (some 19) _ = _
    simp only [Act.put, List.setIfInBounds_toArray, List.set_cons_zero, List.set_cons_succ, i64_w, i32_w]
    rfl
  refine pure_ (i := 17) (N := some 2) (v := ?_) (a' := ?_) #[true, true, true, true, true, true, true, true, true, true, true, true, true, true, true, true, true, true] rfl rfl (any_of HT_.out (by kernel_rfl)) (fun _ _ _ h => h) (Or.inl ⟨by rfl, ?_⟩) ?_ ?_
  rotate_left
  · intro w'
    go_simp
    with_reducible rfl
  rotate_left
  · simp only [Act.put, List.setIfInBounds_toArray, List.set_cons_zero, List.set_cons_succ, i64_w, i32_w]
    rfl
  refine done_ (done_of HT_.out (by kernel_rfl)) ?_
  try go_wp2
  all_goals (first | (go_ret; exact ⟨by first | rfl | (simp [errW_none, errW_some] <;> rfl) | (simp [*, errW_none, errW_some] <;> rfl) | (simp_all; done), by repeat (first | (with_reducible first | exact HB.out | apply below_alloc | apply pw_below_drewN | apply below_drew1 | refine below_set ?_ GE102.out) | exact HB.out)⟩) | (exfalso; simp_all; done))
def eid_isIpn.f (k : Nat) (a0_0 : Int) (a0_1 : ByteArray) (a0_2 : ByteArray) (a0_3 : Int) (a0_4 : Int) : Option (Bool) := (eid_areAll.f k (([(a0_1.toList == ([] : List UInt8)), (a0_2.toList == ([] : List UInt8)), decide (a0_3 ≥ 1), decide (a0_3 ≤ 999999999), decide (a0_4 ≥ 0), decide (a0_4 ≤ 999999999)] : List Bool))).bind fun t113 => (some t113)
theorem eid_isIpn.mono : ∀ a0 a1 a2 a3 a4 k, LeO (eid_isIpn.f k a0 a1 a2 a3 a4) (eid_isIpn.f (k + 1) a0 a1 a2 a3 a4) := by
  intro a0 a1 a2 a3 a4 k
  unfold eid_isIpn.f
  repeat' first
      | (with_reducible exact eid_areAll.mono _ _)
      | (with_reducible exact LeO.refl _)
      | (with_reducible exact LeO.none _)
      | (with_reducible refine LeO.ite ?_ ?_)
      | (with_reducible refine LeO.bind ?_ (fun _ => ?_))
      | exact eid_areAll.mono _ _
      | exact LeO.none _
      | refine LeO.ite ?_ ?_
      | refine LeO.bind ?_ (fun _ => ?_)
set_option maxHeartbeats 8000000 in
set_option maxRecDepth 100000 in
theorem eid_isIpn.calls (k : Nat) (a0_0 : Int) (a0_1 : ByteArray) (a0_2 : ByteArray) (a0_3 : Int) (a0_4 : Int) (r : Bool) (w : World) (h : eid_isIpn.f k a0_0 a0_1 a0_2 a0_3 a0_4 = some r) :
    Calls Tryz.prog 56 #[.agg #[.int .i64 a0_0, .string a0_1, .string a0_2, .int .i64 a0_3, .int .i64 a0_4]] w fun e w' => e = .returned (.bool r) ∧ Below w.heap.size w w' := by
  have hu41 := Tryz.underlying41
  have HB := Aside0.mk (Below.refl w.heap.size w)
  have H : ((eid_areAll.f k (([(a0_1.toList == ([] : List UInt8)), (a0_2.toList == ([] : List UInt8)), decide (a0_3 ≥ 1), decide (a0_3 ≤ 999999999), decide (a0_4 ≥ 0), decide (a0_4 ≤ 999999999)] : List Bool))).bind fun t113 => (some t113)) = some r := h
  clear h
  obtain ⟨y110, hy110⟩ : ∃ y_ : List Bool, y_ = (([(a0_1.toList == ([] : List UInt8)), (a0_2.toList == ([] : List UInt8)), decide (a0_3 ≥ 1), decide (a0_3 ≤ 999999999), decide (a0_4 ≥ 0), decide (a0_4 ≤ 999999999)] : List Bool)) := ⟨_, rfl⟩
  replace H : ((eid_areAll.f k y110).bind fun t113 => (some t113)) = some r := by first | (rw [hy110]; with_reducible exact H) | (have H2_ := (Option.bind_some _ _).symm.trans H; rw [hy110]; with_reducible exact H2_) | (have H2_ := (Option.bind_some _ _).symm.trans H; with_reducible exact H2_) | with_reducible exact H | (rw [hy110]; exact H) | exact H
  have Ny110 := Aside0.mk hy110
  clear hy110
  replace H := Option.bind_eq_some_iff.mp H
  obtain ⟨t113, A20, H⟩ := H
  replace H : (some t113) = some r := H
  have A2 := Aside0.mk A20
  clear A20
  obtain rfl := Option.some.inj H
  go_enter Tryz.func56, Tryz.ntmps56
  go_wp2_with (first | ((with_reducible refine gate_dst (N := 1) rfl ?_); refine box_event ?hg (N := 1) ?hd (cs := #[.int .i64 a0_0, .string a0_1, .string a0_2, .int .i64 a0_3, .int .i64 a0_4]) (t := 41) ?hr ?_; (case hd => rfl); (case hg => rfl); (case hr => first | (go_simp; done) | (go_simp; rfl) | (go_simp; simp only [isEmpty_ne, isEmpty_eq]; done) | (go_simp; simp only [isEmpty_ne, isEmpty_eq]; rfl)); intro gb109 hg w3 hbox hb; have n0_ := Aside0.mk (below_step (by repeat (first | (with_reducible first | exact HB.out | apply below_alloc | apply pw_below_drewN | apply below_drew1) | exact HB.out)) hb); have n1_ := Aside0.mk (hbox); have n2_ := Aside0.mk ((by rw [hg]; exact (below_size (by repeat (first | (with_reducible first | exact HB.out | apply below_alloc | apply pw_below_drewN | apply below_drew1) | exact HB.out))) : w.heap.size ≤ gb109)); have n3_ := Aside0.mk ((by rw [hg]; exact (below_size (by repeat (first | (with_reducible first | exact HB.out | apply below_alloc | apply pw_below_drewN | apply below_drew1) | exact HB.out))) : w.heap.size ≤ gb109)); clear HB; have HB := n0_; have BK109 := n1_; have GW109 := n2_; have GE109 := n3_; clear n0_ n1_ n2_ n3_; clear hb hbox hg; have hcz4_0 : w3.cell? ⟨gb109, 0, none⟩ = some (.int .i64 a0_0) := (blk_cell BK109.out 0).trans rfl; have hcz4_1 : w3.cell? ⟨gb109, 1, none⟩ = some (.string a0_1) := (blk_cell BK109.out 1).trans rfl; have hcz4_2 : w3.cell? ⟨gb109, 2, none⟩ = some (.string a0_2) := (blk_cell BK109.out 2).trans rfl; have hcz4_3 : w3.cell? ⟨gb109, 3, none⟩ = some (.int .i64 a0_3) := (blk_cell BK109.out 3).trans rfl; have hcz4_4 : w3.cell? ⟨gb109, 4, none⟩ = some (.int .i64 a0_4) := (blk_cell BK109.out 4).trans rfl; have hfz4_0 := blk_frozen BK109.out 0; have hfz4_1 := blk_frozen BK109.out 1; have hfz4_2 := blk_frozen BK109.out 2; have hfz4_3 := blk_frozen BK109.out 3; have hfz4_4 := blk_frozen BK109.out 4) | ((with_reducible refine gate_dst (N := 21) rfl ?_); refine Kd.R_lit Kd.bool _ 4 ?hg (N := 21) ?hd (xs := ([(a0_1.toList == ([] : List UInt8)), (a0_2.toList == ([] : List UInt8)), decide (a0_3 ≥ 1), decide (a0_3 ≤ 999999999), decide (a0_4 ≥ 0), decide (a0_4 ≤ 999999999)] : List Bool)) (inner := [.bool (a0_1.toList == ([] : List UInt8)), .bool (a0_2.toList == ([] : List UInt8)), .bool (decide (a0_3 ≥ 1)), .bool (decide (a0_3 ≤ 999999999)), .bool (decide (a0_4 ≥ 0)), .bool (decide (a0_4 ≤ 999999999))]) (ok := fun _ => True) (okp := fun _ => True) ?hr ?hp (fun _ hk => hk) trivial (Below.refl _ _) (Nat.le_refl _) (by simp) ?_; (case hd => rfl); (case hg => rfl); (case hr => first | (go_simp; done) | (go_simp; rfl) | (go_simp; simp only [isEmpty_ne, isEmpty_eq]; done) | (go_simp; simp only [isEmpty_ne, isEmpty_eq]; rfl)); (case hp => exact (Reps.one (show Kd.M Kd.bool _ _ _ (a0_1.toList == ([] : List UInt8)) [.bool (a0_1.toList == ([] : List UInt8))] from rfl) (Reps.one (show Kd.M Kd.bool _ _ _ (a0_2.toList == ([] : List UInt8)) [.bool (a0_2.toList == ([] : List UInt8))] from rfl) (Reps.one (show Kd.M Kd.bool _ _ _ (decide (a0_3 ≥ 1)) [.bool (decide (a0_3 ≥ 1))] from rfl) (Reps.one (show Kd.M Kd.bool _ _ _ (decide (a0_3 ≤ 999999999)) [.bool (decide (a0_3 ≤ 999999999))] from rfl) (Reps.one (show Kd.M Kd.bool _ _ _ (decide (a0_4 ≥ 0)) [.bool (decide (a0_4 ≥ 0))] from rfl) (Reps.one (show Kd.M Kd.bool _ _ _ (decide (a0_4 ≤ 999999999)) [.bool (decide (a0_4 ≤ 999999999))] from rfl) (Reps.none _ _)))))))); intro v111 w5 ho6 hb hg_ hnew_; clear hg_ hnew_; (first | rw [← Ny110.out] at ho6 | (simp only [Int.reduceToNat] at ho6; rw [← Ny110.out] at ho6)); have n0_ := Aside0.mk (Kd.R_lower ho6 (below_size (by repeat (first | (with_reducible first | exact HB.out | apply below_alloc | apply pw_below_drewN | apply below_drew1 | refine below_set ?_ GE109.out) | exact HB.out)))); have n1_ := Aside0.mk (blk_below (g := gb109) (o := .cells #[.int .i64 a0_0, .string a0_1, .string a0_2, .int .i64 a0_3, .int .i64 a0_4] 41 (0, 0)) (by (with_reducible repeat (first | refine blk_drewN ?_ _ | refine blk_drew ?_ | refine blk_alloc ?_ _)); exact BK109.out) hb); have n2_ := Aside0.mk (below_step (by repeat (first | (with_reducible first | exact HB.out | apply below_alloc | apply pw_below_drewN | apply below_drew1 | refine below_set ?_ GE109.out) | exact HB.out)) hb); clear BK109; clear HB; have HO112 := n0_; have BK109 := n1_; have HB := n2_; clear n0_ n1_ n2_; clear hb ho6; obtain ⟨Ao7, co7, eo7⟩ := Kd.R_slice HO112.out; subst eo7) | ((with_reducible refine gate_callee (f := 65) rfl ?_); refine goesL_ (some 22) rfl rfl Tryz.func65 (by kernel_rfl) rfl #[.slice Ao7 y110.length co7] rfl (by (try simp only [List.map_toArray, List.map_cons, List.map_nil]); first | done | rfl | (simp only [List.length_drop, List.length_take]; rfl)) ?_; (with_reducible refine (eid_areAll.calls k _ _ y110 t113 _ ?side1 ?side2 A2.out).mono ?_); (case side1 => repeat (first | exact (Kd.R_reads' HO112.out).2.2 | (with_reducible refine Kd.C_alloc ?_ _) | (with_reducible refine Kd.C_drewN ?_ _) | (with_reducible refine Kd.C_drew ?_))); (case side2 => exact (Kd.R_reads' HO112.out).2.1); rintro e w' ⟨rfl, ⟨nd, rfl⟩⟩; refine ⟨_, rfl, ?_⟩))
  all_goals (first | (go_ret; exact ⟨by first | rfl | (simp [errW_none, errW_some] <;> rfl) | (simp [*, errW_none, errW_some] <;> rfl) | (simp_all; done), by repeat (first | (with_reducible first | exact HB.out | apply below_alloc | apply pw_below_drewN | apply below_drew1 | refine below_set ?_ GE109.out) | exact HB.out)⟩) | (exfalso; simp_all; done))
def eid_schemes_1.f (a0_0 : Int) (a0_1 : ByteArray) (a0_2 : ByteArray) (a0_3 : Int) (a0_4 : Int) : Option (Bool) := some (a0_0 == 0 && (a0_1.toList == ([] : List UInt8) && (a0_2.toList == ([] : List UInt8) && (a0_3 == 0 && (a0_4 == 0)))))
set_option maxHeartbeats 8000000 in
set_option maxRecDepth 100000 in
theorem eid_schemes_1.calls (a0_0 : Int) (a0_1 : ByteArray) (a0_2 : ByteArray) (a0_3 : Int) (a0_4 : Int) (r : Bool) (w : World) (h : eid_schemes_1.f a0_0 a0_1 a0_2 a0_3 a0_4 = some r) :
    Calls Tryz.prog 50 #[.agg #[.int .i64 a0_0, .string a0_1, .string a0_2, .int .i64 a0_3, .int .i64 a0_4]] w fun e w' => e = .returned (.bool r) ∧ Below w.heap.size w w' := by
  have hu41 := Tryz.underlying41
  have HB := Aside0.mk (Below.refl w.heap.size w)
  have H : (some (a0_0 == 0 && (a0_1.toList == ([] : List UInt8) && (a0_2.toList == ([] : List UInt8) && (a0_3 == 0 && (a0_4 == 0)))))) = some r := h
  clear h
  obtain rfl := Option.some.inj H
  go_enter Tryz.func50, Tryz.ntmps50
  go_wp2_with (first | ((with_reducible refine gate_dst (N := 1) rfl ?_); refine box_event ?hg (N := 1) ?hd (cs := #[.int .i64 a0_0, .string a0_1, .string a0_2, .int .i64 a0_3, .int .i64 a0_4]) (t := 41) ?hr ?_; (case hd => rfl); (case hg => rfl); (case hr => first | (go_simp; done) | (go_simp; rfl) | (go_simp; simp only [isEmpty_ne, isEmpty_eq]; done) | (go_simp; simp only [isEmpty_ne, isEmpty_eq]; rfl)); intro gb114 hg w2 hbox hb; have n0_ := Aside0.mk (below_step (by repeat (first | (with_reducible first | exact HB.out | apply below_alloc | apply pw_below_drewN | apply below_drew1) | exact HB.out)) hb); have n1_ := Aside0.mk (hbox); have n2_ := Aside0.mk ((by rw [hg]; exact (below_size (by repeat (first | (with_reducible first | exact HB.out | apply below_alloc | apply pw_below_drewN | apply below_drew1) | exact HB.out))) : w.heap.size ≤ gb114)); have n3_ := Aside0.mk ((by rw [hg]; exact (below_size (by repeat (first | (with_reducible first | exact HB.out | apply below_alloc | apply pw_below_drewN | apply below_drew1) | exact HB.out))) : w.heap.size ≤ gb114)); clear HB; have HB := n0_; have BK114 := n1_; have GW114 := n2_; have GE114 := n3_; clear n0_ n1_ n2_ n3_; clear hb hbox hg; have hcz3_0 : w2.cell? ⟨gb114, 0, none⟩ = some (.int .i64 a0_0) := (blk_cell BK114.out 0).trans rfl; have hcz3_1 : w2.cell? ⟨gb114, 1, none⟩ = some (.string a0_1) := (blk_cell BK114.out 1).trans rfl; have hcz3_2 : w2.cell? ⟨gb114, 2, none⟩ = some (.string a0_2) := (blk_cell BK114.out 2).trans rfl; have hcz3_3 : w2.cell? ⟨gb114, 3, none⟩ = some (.int .i64 a0_3) := (blk_cell BK114.out 3).trans rfl; have hcz3_4 : w2.cell? ⟨gb114, 4, none⟩ = some (.int .i64 a0_4) := (blk_cell BK114.out 4).trans rfl; have hfz3_0 := blk_frozen BK114.out 0; have hfz3_1 := blk_frozen BK114.out 1; have hfz3_2 := blk_frozen BK114.out 2; have hfz3_3 := blk_frozen BK114.out 3; have hfz3_4 := blk_frozen BK114.out 4))
  all_goals (first | (go_ret; exact ⟨by first | rfl | (simp [errW_none, errW_some] <;> rfl) | (simp [*, errW_none, errW_some] <;> rfl) | (simp_all; done), by repeat (first | (with_reducible first | exact HB.out | apply below_alloc | apply pw_below_drewN | apply below_drew1 | refine below_set ?_ GE114.out) | exact HB.out)⟩) | (exfalso; simp_all; done))
def eid_schemes_2.f (a0_0 : Int) (a0_1 : ByteArray) (a0_2 : ByteArray) (a0_3 : Int) (a0_4 : Int) : Option (ByteArray) := some (⟨#[110, 111, 110, 101]⟩ : ByteArray)
set_option maxHeartbeats 8000000 in
set_option maxRecDepth 100000 in
theorem eid_schemes_2.calls (a0_0 : Int) (a0_1 : ByteArray) (a0_2 : ByteArray) (a0_3 : Int) (a0_4 : Int) (r : ByteArray) (w : World) (h : eid_schemes_2.f a0_0 a0_1 a0_2 a0_3 a0_4 = some r) :
    Calls Tryz.prog 51 #[.agg #[.int .i64 a0_0, .string a0_1, .string a0_2, .int .i64 a0_3, .int .i64 a0_4]] w fun e w' => e = .returned (.string r) ∧ Below w.heap.size w w' := by
  have hu41 := Tryz.underlying41
  have HB := Aside0.mk (Below.refl w.heap.size w)
  have H : (some (⟨#[110, 111, 110, 101]⟩ : ByteArray)) = some r := h
  clear h
  obtain rfl := Option.some.inj H
  go_enter Tryz.func51, Tryz.ntmps51
  go_wp2_with (first | ((with_reducible refine gate_dst (N := 1) rfl ?_); refine box_event ?hg (N := 1) ?hd (cs := #[.int .i64 a0_0, .string a0_1, .string a0_2, .int .i64 a0_3, .int .i64 a0_4]) (t := 41) ?hr ?_; (case hd => rfl); (case hg => rfl); (case hr => first | (go_simp; done) | (go_simp; rfl) | (go_simp; simp only [isEmpty_ne, isEmpty_eq]; done) | (go_simp; simp only [isEmpty_ne, isEmpty_eq]; rfl)); intro gb115 hg w2 hbox hb; have n0_ := Aside0.mk (below_step (by repeat (first | (with_reducible first | exact HB.out | apply below_alloc | apply pw_below_drewN | apply below_drew1) | exact HB.out)) hb); have n1_ := Aside0.mk (hbox); have n2_ := Aside0.mk ((by rw [hg]; exact (below_size (by repeat (first | (with_reducible first | exact HB.out | apply below_alloc | apply pw_below_drewN | apply below_drew1) | exact HB.out))) : w.heap.size ≤ gb115)); have n3_ := Aside0.mk ((by rw [hg]; exact (below_size (by repeat (first | (with_reducible first | exact HB.out | apply below_alloc | apply pw_below_drewN | apply below_drew1) | exact HB.out))) : w.heap.size ≤ gb115)); clear HB; have HB := n0_; have BK115 := n1_; have GW115 := n2_; have GE115 := n3_; clear n0_ n1_ n2_ n3_; clear hb hbox hg))
  all_goals (first | (go_ret; exact ⟨by first | rfl | (simp [errW_none, errW_some] <;> rfl) | (simp [*, errW_none, errW_some] <;> rfl) | (simp_all; done), by repeat (first | (with_reducible first | exact HB.out | apply below_alloc | apply pw_below_drewN | apply below_drew1 | refine below_set ?_ GE115.out) | exact HB.out)⟩) | (exfalso; simp_all; done))
def postriderlaw06_Cut.f (a0_0 : Int) (a0_1 : ByteArray) (a0_2 : ByteArray) (a0_3 : Int) (a0_4 : Int) : Option (Int × ByteArray × ByteArray × Int × Int) := if 0 ≤ (mn (a0_1.size : Int) 21) then (if (mn (a0_1.size : Int) 21) ≤ (a0_1.size : Int) then (if 0 ≤ (mn (a0_2.size : Int) 21) then (if (mn (a0_2.size : Int) 21) ≤ (a0_2.size : Int) then (some (a0_0, a0_1.extract 0 ((mn (a0_1.size : Int) 21) : Int).toNat, a0_2.extract 0 ((mn (a0_2.size : Int) 21) : Int).toNat, a0_3, a0_4)) else (none)) else (none)) else (none)) else (none)
def postriderlaw06_Cut.T1 : Bool × List (List Nat × List Nat) := (true, [([], []), ([0], [0]), ([], []), ([2], [2]), ([], []), ([4], [4]), ([5], [5]), ([6], [6]), ([3, 7], [3, 7]), ([], []), ([9], [9]), ([], []), ([11], [11]), ([12], [12]), ([13], [13]), ([10, 14], [10, 14]), ([], []), ([16], [16]), ([], []), ([18], [18]), ([1, 8, 15, 17, 19], [1, 8, 15, 17, 19]), ([20, 0, 1, 2, 3, 4, 5, 6, 7, 8, 9, 10, 11, 12, 13, 14, 15, 16, 17, 18, 19, 20], [20])])
def postriderlaw06_Cut.B1 : List Nat := [0, 1, 0, 4, 0, 16, 48, 112, 252, 0, 512, 0, 2048, 6144, 14336, 32256, 0, 65536, 0, 262144, 1048575, 2097151]
theorem postriderlaw06_Cut.tab1 : rtab .any (opsOf Tryz.f21 1) = postriderlaw06_Cut.T1 := by kernel_rfl
theorem postriderlaw06_Cut.bits1 : waitsOk postriderlaw06_Cut.T1.2 postriderlaw06_Cut.B1 = true := by kernel_rfl
set_option maxHeartbeats 8000000 in
set_option maxRecDepth 100000 in
theorem postriderlaw06_Cut.calls (a0_0 : Int) (a0_1 : ByteArray) (a0_2 : ByteArray) (a0_3 : Int) (a0_4 : Int) (r1 : Int) (r2 : ByteArray) (r3 : ByteArray) (r4 : Int) (r5 : Int) (w : World) (h : postriderlaw06_Cut.f a0_0 a0_1 a0_2 a0_3 a0_4 = some (r1, r2, r3, r4, r5)) :
    Calls Tryz.prog 21 #[.agg #[.int .i64 a0_0, .string a0_1, .string a0_2, .int .i64 a0_3, .int .i64 a0_4]] w fun e w' => e = .returned (.agg #[.int .i64 r1, .string r2, .string r3, .int .i64 r4, .int .i64 r5]) ∧ Below w.heap.size w w' := by
  have hu41 := Tryz.underlying41
  have HB := Aside0.mk (Below.refl w.heap.size w)
  have H : (if 0 ≤ (mn (a0_1.size : Int) 21) then (if (mn (a0_1.size : Int) 21) ≤ (a0_1.size : Int) then (if 0 ≤ (mn (a0_2.size : Int) 21) then (if (mn (a0_2.size : Int) 21) ≤ (a0_2.size : Int) then (some (a0_0, a0_1.extract 0 ((mn (a0_1.size : Int) 21) : Int).toNat, a0_2.extract 0 ((mn (a0_2.size : Int) 21) : Int).toNat, a0_3, a0_4)) else (none)) else (none)) else (none)) else (none)) = some (r1, r2, r3, r4, r5) := h
  clear h
  obtain ⟨ji2, hji2⟩ : ∃ j_ : Int, (mn (a0_1.size : Int) 21) = j_ := ⟨_, rfl⟩
  replace H : (if 0 ≤ (ji2) then (if (ji2) ≤ (a0_1.size : Int) then (if 0 ≤ (mn (a0_2.size : Int) 21) then (if (mn (a0_2.size : Int) 21) ≤ (a0_2.size : Int) then (some (a0_0, a0_1.extract 0 ((ji2) : Int).toNat, a0_2.extract 0 ((mn (a0_2.size : Int) 21) : Int).toNat, a0_3, a0_4)) else (none)) else (none)) else (none)) else (none)) = some (r1, r2, r3, r4, r5) := by first | (rw [hji2] at H; exact H) | (simp only [hji2] at H ⊢; exact H)
  (try (have hji2h : ji2 ≤ 21 := by (rw [← hji2]; unfold mn; (repeat' split) <;> omega)))
  (try (have hji2g : ji2 ≤ 64 := by omega))
  (try (have hji2l : 0 ≤ ji2 := by (rw [← hji2]; unfold mn; (repeat' split) <;> omega)))
  (try (have hji2m : 0 ≤ ji2 := by omega))
  have hji2_ : (if 21 < (a0_1.size : Int) then 21 else (a0_1.size : Int)) = ji2 := hji2
  by_cases c3 : 0 ≤ (ji2)
  · rw [if_pos c3] at H
    have c3b0 := eq_true c3
    have c3b1 : decide (0 ≤ (ji2)) = true := decide_eq_true c3
    clear c3
    by_cases c4 : (ji2) ≤ (a0_1.size : Int)
    · rw [if_pos c4] at H
      have c4b0 := eq_true c4
      have c4b1 : decide ((ji2) ≤ (a0_1.size : Int)) = true := decide_eq_true c4
      clear c4
      obtain ⟨ji5, hji5⟩ : ∃ j_ : Int, (mn (a0_2.size : Int) 21) = j_ := ⟨_, rfl⟩
      replace H : (if 0 ≤ (ji5) then (if (ji5) ≤ (a0_2.size : Int) then (some (a0_0, a0_1.extract 0 ((ji2) : Int).toNat, a0_2.extract 0 ((ji5) : Int).toNat, a0_3, a0_4)) else (none)) else (none)) = some (r1, r2, r3, r4, r5) := by first | (rw [hji5] at H; exact H) | (simp only [hji5] at H ⊢; exact H)
      (try (have hji5h : ji5 ≤ 21 := by (rw [← hji5]; unfold mn; (repeat' split) <;> omega)))
      (try (have hji5g : ji5 ≤ 64 := by omega))
      (try (have hji5l : 0 ≤ ji5 := by (rw [← hji5]; unfold mn; (repeat' split) <;> omega)))
      (try (have hji5m : 0 ≤ ji5 := by omega))
      have hji5_ : (if 21 < (a0_2.size : Int) then 21 else (a0_2.size : Int)) = ji5 := hji5
      by_cases c6 : 0 ≤ (ji5)
      · rw [if_pos c6] at H
        have c6b0 := eq_true c6
        have c6b1 : decide (0 ≤ (ji5)) = true := decide_eq_true c6
        clear c6
        by_cases c7 : (ji5) ≤ (a0_2.size : Int)
        · rw [if_pos c7] at H
          have c7b0 := eq_true c7
          have c7b1 : decide ((ji5) ≤ (a0_2.size : Int)) = true := decide_eq_true c7
          clear c7
          simp only [Option.some.injEq, Prod.mk.injEq] at H
          obtain ⟨rfl, rfl, rfl, rfl, rfl⟩ := H
          go_enter Tryz.func21, Tryz.ntmps21
          try go_wp2_with (first | ((with_reducible refine gate_dst (N := 1) rfl ?_); refine box_event ?hg (N := 1) ?hd (cs := #[.int .i64 a0_0, .string a0_1, .string a0_2, .int .i64 a0_3, .int .i64 a0_4]) (t := 41) ?hr ?_; (case hd => rfl); (case hg => rfl); (case hr => first | (go_simp; done) | (go_simp; rfl) | (go_simp; simp only [isEmpty_ne, isEmpty_eq]; done) | (go_simp; simp only [isEmpty_ne, isEmpty_eq]; rfl)); intro gb116 hg w8 hbox hb; have n0_ := Aside0.mk (below_step (by repeat (first | (with_reducible first | exact HB.out | apply below_alloc | apply pw_below_drewN | apply below_drew1) | exact HB.out)) hb); have n1_ := Aside0.mk (hbox); have n2_ := Aside0.mk ((by rw [hg]; exact (below_size (by repeat (first | (with_reducible first | exact HB.out | apply below_alloc | apply pw_below_drewN | apply below_drew1) | exact HB.out))) : w.heap.size ≤ gb116)); have n3_ := Aside0.mk ((by rw [hg]; exact (below_size (by repeat (first | (with_reducible first | exact HB.out | apply below_alloc | apply pw_below_drewN | apply below_drew1) | exact HB.out))) : w.heap.size ≤ gb116)); clear HB; have HB := n0_; have BK116 := n1_; have GW116 := n2_; have GE116 := n3_; clear n0_ n1_ n2_ n3_; clear hb hbox hg) | ((with_reducible refine gate_dst (N := 2) rfl ?_); refine box_event ?hg (N := 2) ?hd (cs := #[.int .i64 0, .string (⟨#[]⟩ : ByteArray), .string (⟨#[]⟩ : ByteArray), .int .i64 0, .int .i64 0]) (t := 41) ?hr ?_; (case hd => rfl); (case hg => rfl); (case hr => first | (go_simp; done) | (go_simp; rfl) | (go_simp; simp only [isEmpty_ne, isEmpty_eq]; done) | (go_simp; simp only [isEmpty_ne, isEmpty_eq]; rfl)); intro gb117 hg w9 hbox hb; have n0_ := Aside0.mk (blk_below (g := gb116) (o := .cells #[.int .i64 a0_0, .string a0_1, .string a0_2, .int .i64 a0_3, .int .i64 a0_4] 41 (0, 0)) (by (with_reducible repeat (first | refine blk_drewN ?_ _ | refine blk_drew ?_ | refine blk_alloc ?_ _)); exact BK116.out) hb); have n1_ := Aside0.mk (below_step (by repeat (first | (with_reducible first | exact HB.out | apply below_alloc | apply pw_below_drewN | apply below_drew1 | refine below_set ?_ GE116.out) | exact HB.out)) hb); have n2_ := Aside0.mk (hbox); have n3_ := Aside0.mk ((by rw [hg]; exact (below_size (by repeat (first | (with_reducible first | exact HB.out | apply below_alloc | apply pw_below_drewN | apply below_drew1 | refine below_set ?_ GE116.out) | exact HB.out))) : w.heap.size ≤ gb117)); have n4_ := Aside0.mk ((by rw [hg]; exact (below_size (by repeat (first | (with_reducible first | exact HB.out | apply below_alloc | apply pw_below_drewN | apply below_drew1 | refine below_set ?_ GE116.out) | exact HB.out))) : w.heap.size ≤ gb117)); have n5_ := Aside0.mk ((by rw [hg]; exact Nat.ne_of_lt (blk_lt (g := gb116) (o := .cells #[.int .i64 a0_0, .string a0_1, .string a0_2, .int .i64 a0_3, .int .i64 a0_4] 41 (0, 0)) (by (with_reducible repeat (first | refine blk_drewN ?_ _ | refine blk_drew ?_ | refine blk_alloc ?_ _)); exact BK116.out)) : gb116 ≠ gb117)); have n6_ := Aside0.mk ((by rw [hg]; exact Nat.ne_of_gt (blk_lt (g := gb116) (o := .cells #[.int .i64 a0_0, .string a0_1, .string a0_2, .int .i64 a0_3, .int .i64 a0_4] 41 (0, 0)) (by (with_reducible repeat (first | refine blk_drewN ?_ _ | refine blk_drew ?_ | refine blk_alloc ?_ _)); exact BK116.out)) : gb117 ≠ gb116)); clear BK116; clear HB; have BK116 := n0_; have HB := n1_; have BK117 := n2_; have GW117 := n3_; have GE117 := n4_; have NB116_117 := n5_; have NB117_116 := n6_; clear n0_ n1_ n2_ n3_ n4_ n5_ n6_; clear hb hbox hg))
          have n0_ := Aside0.mk (blk_drew BK116.out)
          have n1_ := Aside0.mk (blk_drew BK117.out)
          have n2_ := Aside0.mk (below_drew1 HB.out)
          clear BK116
          clear BK117
          clear HB
          have BK116 := n0_
          have BK117 := n1_
          have HB := n2_
          clear n0_ n1_ n2_
          refine start_ (n := 22) (S := fun w' => w'.cell? ⟨gb116, 0, none⟩ = some (.int .i64 a0_0) ∧ w'.cell? ⟨gb116, 1, none⟩ = some (.string a0_1) ∧ w'.cell? ⟨gb116, 2, none⟩ = some (.string a0_2) ∧ w'.cell? ⟨gb116, 3, none⟩ = some (.int .i64 a0_3) ∧ w'.cell? ⟨gb116, 4, none⟩ = some (.int .i64 a0_4)) (ds := []) #[false, false, false, false, false, false, false, false, false, false, false, false, false, false, false, false, false, false, false, false, false, false] (by kernel_rfl) rfl rfl ⟨(blk_cell BK116.out 0).trans rfl, (blk_cell BK116.out 1).trans rfl, (blk_cell BK116.out 2).trans rfl, (blk_cell BK116.out 3).trans rfl, (blk_cell BK116.out 4).trans rfl⟩ (fun hHeld => ?_); refine with_tabW postriderlaw06_Cut.tab1 postriderlaw06_Cut.bits1 (fun HT_ HW_ => ?_)
          generalize w9.drew = w10 at BK116 BK117 HB hHeld ⊢
          refine pure_ (i := 0) (N := some 3) (v := ?_) (a' := ?_) #[true, false, false, false, false, false, false, false, false, false, false, false, false, false, false, false, false, false, false, false, false, false] rfl rfl (any_of HT_.out (by kernel_rfl)) (fun _ _ _ h => h) (Or.inl ⟨by rfl, ?_⟩) ?_ ?_
          rotate_left
          · intro w'
            go_simp
            with_reducible rfl
          rotate_left
          · simp only [Act.put, List.setIfInBounds_toArray, List.set_cons_zero, List.set_cons_succ, i64_w, i32_w]
            rfl
          refine pure_ (i := 2) (N := some 5) (v := ?_) (a' := ?_) #[true, false, true, false, false, false, false, false, false, false, false, false, false, false, false, false, false, false, false, false, false, false] rfl rfl (any_of HT_.out (by kernel_rfl)) (fun _ _ _ h => h) (Or.inl ⟨by rfl, ?_⟩) ?_ ?_
          rotate_left
          · intro w'
            go_simp
            with_reducible rfl
          rotate_left
          · simp only [Act.put, List.setIfInBounds_toArray, List.set_cons_zero, List.set_cons_succ, i64_w, i32_w]
            rfl
          refine pure_ (i := 4) (N := some 7) (v := ?_) (a' := ?_) #[true, false, true, false, true, false, false, false, false, false, false, false, false, false, false, false, false, false, false, false, false, false] rfl rfl (any_of HT_.out (by kernel_rfl)) (fun _ _ _ h => h) (Or.inl ⟨by rfl, ?_⟩) ?_ ?_
          rotate_left
          · intro w'
            go_simp
            with_reducible rfl
          rotate_left
          · simp only [Act.put, List.setIfInBounds_toArray, List.set_cons_zero, List.set_cons_succ, i64_w, i32_w]
            rfl
          refine pure_ (i := 9) (N := some 12) (v := ?_) (a' := ?_) #[true, false, true, false, true, false, false, false, false, true, false, false, false, false, false, false, false, false, false, false, false, false] rfl rfl (any_of HT_.out (by kernel_rfl)) (fun _ _ _ h => h) (Or.inl ⟨by rfl, ?_⟩) ?_ ?_
          rotate_left
          · intro w'
            go_simp
            with_reducible rfl
          rotate_left
          · simp only [Act.put, List.setIfInBounds_toArray, List.set_cons_zero, List.set_cons_succ, i64_w, i32_w]
            rfl
          refine pure_ (i := 11) (N := some 14) (v := ?_) (a' := ?_) #[true, false, true, false, true, false, false, false, false, true, false, true, false, false, false, false, false, false, false, false, false, false] rfl rfl (any_of HT_.out (by kernel_rfl)) (fun _ _ _ h => h) (Or.inl ⟨by rfl, ?_⟩) ?_ ?_
          rotate_left
          · intro w'
            go_simp
            with_reducible rfl
          rotate_left
          · simp only [Act.put, List.setIfInBounds_toArray, List.set_cons_zero, List.set_cons_succ, i64_w, i32_w]
            rfl
          refine pure_ (i := 16) (N := some 19) (v := ?_) (a' := ?_) #[true, false, true, false, true, false, false, false, false, true, false, true, false, false, false, false, true, false, false, false, false, false] rfl rfl (any_of HT_.out (by kernel_rfl)) (fun _ _ _ h => h) (Or.inl ⟨by rfl, ?_⟩) ?_ ?_
          rotate_left
          · intro w'
            go_simp
            with_reducible rfl
          rotate_left
          · simp only [Act.put, List.setIfInBounds_toArray, List.set_cons_zero, List.set_cons_succ, i64_w, i32_w]
            rfl
          refine pure_ (i := 18) (N := some 21) (v := ?_) (a' := ?_) #[true, false, true, false, true, false, false, false, false, true, false, true, false, false, false, false, true, false, true, false, false, false] rfl rfl (any_of HT_.out (by kernel_rfl)) (fun _ _ _ h => h) (Or.inl ⟨by rfl, ?_⟩) ?_ ?_
          rotate_left
          · intro w'
            go_simp
            with_reducible rfl
          rotate_left
          · simp only [Act.put, List.setIfInBounds_toArray, List.set_cons_zero, List.set_cons_succ, i64_w, i32_w]
            rfl
          refine take_ (i := 1) (N := some 4) (v := ?_) (a' := ?_) #[true, true, true, false, true, false, false, false, false, true, false, true, false, false, false, false, true, false, true, false, false, false] rfl rfl (take_ofW HT_.out HW_.out (by kernel_rfl)) (fun _ _ _ h => h) (Or.inl ⟨by rfl, ?_⟩) hHeld ?_ ?_
          rotate_left
          · rintro w' ⟨s0, s1, s2, s3, s4⟩
            go_simp
            with_reducible rfl
          rotate_left
          · simp only [Act.put, List.setIfInBounds_toArray, List.set_cons_zero, List.set_cons_succ, i64_w, i32_w]
            rfl
          refine take_ (i := 3) (N := some 6) (v := ?_) (a' := ?_) #[true, true, true, true, true, false, false, false, false, true, false, true, false, false, false, false, true, false, true, false, false, false] rfl rfl (take_ofW HT_.out HW_.out (by kernel_rfl)) (fun _ _ _ h => h) (Or.inl ⟨by rfl, ?_⟩) hHeld ?_ ?_
          rotate_left
          · rintro w' ⟨s0, s1, s2, s3, s4⟩
            go_simp
            with_reducible rfl
          rotate_left
          · simp only [Act.put, List.setIfInBounds_toArray, List.set_cons_zero, List.set_cons_succ, i64_w, i32_w]
            rfl
          refine take_ (i := 5) (N := some 8) (v := ?_) (a' := ?_) #[true, true, true, true, true, true, false, false, false, true, false, true, false, false, false, false, true, false, true, false, false, false] rfl rfl (take_ofW HT_.out HW_.out (by kernel_rfl)) (fun _ _ _ h => h) (Or.inl ⟨by rfl, ?_⟩) hHeld ?_ ?_
          rotate_left
          · rintro w' ⟨s0, s1, s2, s3, s4⟩
            go_simp
            with_reducible rfl
          rotate_left
          · simp only [Act.put, List.setIfInBounds_toArray, List.set_cons_zero, List.set_cons_succ, i64_w, i32_w]
            rfl
          refine pure_ (i := 6) (N := some 9) (v := ?_) (a' := ?_) #[true, true, true, true, true, true, true, false, false, true, false, true, false, false, false, false, true, false, true, false, false, false] rfl rfl (any_of HT_.out (by kernel_rfl)) (fun _ _ _ h => h) (Or.inl ⟨by rfl, ?_⟩) ?_ ?_
          rotate_left
          · intro w'
            go_simp
            with_reducible rfl
          rotate_left
          · simp only [Act.put, List.setIfInBounds_toArray, List.set_cons_zero, List.set_cons_succ, i64_w, i32_w]
            rfl
          refine pure_ (i := 7) (N := some 10) (v := ?_) (a' := ?_) #[true, true, true, true, true, true, true, true, false, true, false, true, false, false, false, false, true, false, true, false, false, false] rfl rfl (any_of HT_.out (by kernel_rfl)) (fun _ _ _ h => h) (Or.inl ⟨by rfl, ?_⟩) ?_ ?_
          rotate_left
          · intro w'
            go_simp
            with_reducible rfl
          rotate_left
          · simp only [Act.put, List.setIfInBounds_toArray, List.set_cons_zero, List.set_cons_succ, i64_w, i32_w]
            rfl
          refine pure_ (i := 8) (N := some 11) (v := ?_) (a' := ?_) #[true, true, true, true, true, true, true, true, true, true, false, true, false, false, false, false, true, false, true, false, false, false] rfl rfl (any_of HT_.out (by kernel_rfl)) (fun _ _ _ h => h) (Or.inl ⟨by rfl, ?_⟩) ?_ ?_
          rotate_left
          · intro w'
            go_simp
            with_reducible rfl
          rotate_left
          · simp only [Act.put, List.setIfInBounds_toArray, List.set_cons_zero, List.set_cons_succ, i64_w, i32_w]
            rfl
          refine take_ (i := 10) (N := some 13) (v := ?_) (a' := ?_) #[true, true, true, true, true, true, true, true, true, true, true, true, false, false, false, false, true, false, true, false, false, false] rfl rfl (take_ofW HT_.out HW_.out (by kernel_rfl)) (fun _ _ _ h => h) (Or.inl ⟨by rfl, ?_⟩) hHeld ?_ ?_
          rotate_left
          · rintro w' ⟨s0, s1, s2, s3, s4⟩
            go_simp
            with_reducible rfl
          rotate_left
          · simp only [Act.put, List.setIfInBounds_toArray, List.set_cons_zero, List.set_cons_succ, i64_w, i32_w]
            rfl
          refine take_ (i := 12) (N := some 15) (v := ?_) (a' := ?_) #[true, true, true, true, true, true, true, true, true, true, true, true, true, false, false, false, true, false, true, false, false, false] rfl rfl (take_ofW HT_.out HW_.out (by kernel_rfl)) (fun _ _ _ h => h) (Or.inl ⟨by rfl, ?_⟩) hHeld ?_ ?_
          rotate_left
          · rintro w' ⟨s0, s1, s2, s3, s4⟩
            go_simp
            with_reducible rfl
          rotate_left
          · simp only [Act.put, List.setIfInBounds_toArray, List.set_cons_zero, List.set_cons_succ, i64_w, i32_w]
            rfl
          refine pure_ (i := 13) (N := some 16) (v := ?_) (a' := ?_) #[true, true, true, true, true, true, true, true, true, true, true, true, true, true, false, false, true, false, true, false, false, false] rfl rfl (any_of HT_.out (by kernel_rfl)) (fun _ _ _ h => h) (Or.inl ⟨by rfl, ?_⟩) ?_ ?_
          rotate_left
          · intro w'
            go_simp
            with_reducible rfl
          rotate_left
          · simp only [Act.put, List.setIfInBounds_toArray, List.set_cons_zero, List.set_cons_succ, i64_w, i32_w]
            rfl
          refine pure_ (i := 14) (N := some 17) (v := ?_) (a' := ?_) #[true, true, true, true, true, true, true, true, true, true, true, true, true, true, true, false, true, false, true, false, false, false] rfl rfl (any_of HT_.out (by kernel_rfl)) (fun _ _ _ h => h) (Or.inl ⟨by rfl, ?_⟩) ?_ ?_
          rotate_left
          · intro w'
            go_simp
            with_reducible rfl
          rotate_left
          · simp only [Act.put, List.setIfInBounds_toArray, List.set_cons_zero, List.set_cons_succ, i64_w, i32_w]
            rfl
          refine pure_ (i := 15) (N := some 18) (v := ?_) (a' := ?_) #[true, true, true, true, true, true, true, true, true, true, true, true, true, true, true, true, true, false, true, false, false, false] rfl rfl (any_of HT_.out (by kernel_rfl)) (fun _ _ _ h => h) (Or.inl ⟨by rfl, ?_⟩) ?_ ?_
          rotate_left
          · intro w'
            go_simp
            with_reducible rfl
          rotate_left
          · simp only [Act.put, List.setIfInBounds_toArray, List.set_cons_zero, List.set_cons_succ, i64_w, i32_w]
            rfl
          refine take_ (i := 17) (N := some 20) (v := ?_) (a' := ?_) #[true, true, true, true, true, true, true, true, true, true, true, true, true, true, true, true, true, true, true, false, false, false] rfl rfl (take_ofW HT_.out HW_.out (by kernel_rfl)) (fun _ _ _ h => h) (Or.inl ⟨by rfl, ?_⟩) hHeld ?_ ?_
          rotate_left
          · rintro w' ⟨s0, s1, s2, s3, s4⟩
            go_simp
            with_reducible rfl
          rotate_left
          · simp only [Act.put, List.setIfInBounds_toArray, List.set_cons_zero, List.set_cons_succ, i64_w, i32_w]
            rfl
          refine take_ (i := 19) (N := some 22) (v := ?_) (a' := ?_) #[true, true, true, true, true, true, true, true, true, true, true, true, true, true, true, true, true, true, true, true, false, false] rfl rfl (take_ofW HT_.out HW_.out (by kernel_rfl)) (fun _ _ _ h => h) (Or.inl ⟨by rfl, ?_⟩) hHeld ?_ ?_
          rotate_left
          · rintro w' ⟨s0, s1, s2, s3, s4⟩
            go_simp
            with_reducible rfl
          rotate_left
          · simp only [Act.put, List.setIfInBounds_toArray, List.set_cons_zero, List.set_cons_succ, i64_w, i32_w]
            rfl
          refine pure_ (i := 20) (N := some 23) (v := ?_) (a' := ?_) #[true, true, true, true, true, true, true, true, true, true, true, true, true, true, true, true, true, true, true, true, true, false] rfl rfl (any_of HT_.out (by kernel_rfl)) (fun _ _ _ h => h) (Or.inl ⟨by rfl, ?_⟩) ?_ ?_
          rotate_left
          · intro w'
            go_simp
            with_reducible rfl
          rotate_left
          · simp only [Act.put, List.setIfInBounds_toArray, List.set_cons_zero, List.set_cons_succ, i64_w, i32_w]
            rfl
          refine one_ (i := 21) (N := none) #[true, true, true, true, true, true, true, true, true, true, true, true, true, true, true, true, true, true, true, true, true, true] rfl rfl (one_of HT_.out (by kernel_rfl)) (by decide) (fun K hK => ?_)
          have hs11 : w10.cell? ⟨gb117, 0, none⟩ = some (.int .i64 0) := (blk_cell BK117.out 0).trans rfl
          have hfs11 := blk_frozen BK117.out 0
          have hns11_0 := NB116_117.out
          have hms11_0 := NB117_116.out
          have hs12 : w10.cell? ⟨gb117, 1, none⟩ = some (.string (⟨#[]⟩ : ByteArray)) := (blk_cell BK117.out 1).trans rfl
          have hfs12 := blk_frozen BK117.out 1
          have hns12_0 := NB116_117.out
          have hms12_0 := NB117_116.out
          have hs13 : w10.cell? ⟨gb117, 2, none⟩ = some (.string (⟨#[]⟩ : ByteArray)) := (blk_cell BK117.out 2).trans rfl
          have hfs13 := blk_frozen BK117.out 2
          have hns13_0 := NB116_117.out
          have hms13_0 := NB117_116.out
          have hs14 : w10.cell? ⟨gb117, 3, none⟩ = some (.int .i64 0) := (blk_cell BK117.out 3).trans rfl
          have hfs14 := blk_frozen BK117.out 3
          have hns14_0 := NB116_117.out
          have hms14_0 := NB117_116.out
          have hs15 : w10.cell? ⟨gb117, 4, none⟩ = some (.int .i64 0) := (blk_cell BK117.out 4).trans rfl
          have hfs15 := blk_frozen BK117.out 4
          have hns15_0 := NB116_117.out
          have hms15_0 := NB117_116.out
          refine skip_ (w1 := ?_) (by rfl) rfl ?_ ?_
          rotate_left
          · go_simp
            rfl
          refine hK.out _ _ ⟨((cell_far (p := ⟨gb117, _, none⟩) NB116_117.out _).trans (((cell_far (p := ⟨gb117, _, none⟩) NB116_117.out _).trans (((cell_far (p := ⟨gb117, _, none⟩) NB116_117.out _).trans (((cell_far (p := ⟨gb117, _, none⟩) NB116_117.out _).trans (((cell_far (p := ⟨gb117, _, none⟩) NB116_117.out _).trans (hHeld.1)))))))))), ((cell_far (p := ⟨gb117, _, none⟩) NB116_117.out _).trans (((cell_far (p := ⟨gb117, _, none⟩) NB116_117.out _).trans (((cell_far (p := ⟨gb117, _, none⟩) NB116_117.out _).trans (((cell_far (p := ⟨gb117, _, none⟩) NB116_117.out _).trans (((cell_far (p := ⟨gb117, _, none⟩) NB116_117.out _).trans (hHeld.2.1)))))))))), ((cell_far (p := ⟨gb117, _, none⟩) NB116_117.out _).trans (((cell_far (p := ⟨gb117, _, none⟩) NB116_117.out _).trans (((cell_far (p := ⟨gb117, _, none⟩) NB116_117.out _).trans (((cell_far (p := ⟨gb117, _, none⟩) NB116_117.out _).trans (((cell_far (p := ⟨gb117, _, none⟩) NB116_117.out _).trans (hHeld.2.2.1)))))))))), ((cell_far (p := ⟨gb117, _, none⟩) NB116_117.out _).trans (((cell_far (p := ⟨gb117, _, none⟩) NB116_117.out _).trans (((cell_far (p := ⟨gb117, _, none⟩) NB116_117.out _).trans (((cell_far (p := ⟨gb117, _, none⟩) NB116_117.out _).trans (((cell_far (p := ⟨gb117, _, none⟩) NB116_117.out _).trans (hHeld.2.2.2.1)))))))))), ((cell_far (p := ⟨gb117, _, none⟩) NB116_117.out _).trans (((cell_far (p := ⟨gb117, _, none⟩) NB116_117.out _).trans (((cell_far (p := ⟨gb117, _, none⟩) NB116_117.out _).trans (((cell_far (p := ⟨gb117, _, none⟩) NB116_117.out _).trans (((cell_far (p := ⟨gb117, _, none⟩) NB116_117.out _).trans (hHeld.2.2.2.2))))))))))⟩ (fun hHeld => ?_)
          clear hK K
          refine done_ (done_of HT_.out (by kernel_rfl)) ?_
          try go_wp2
          refine bodyPost_ret (results_cell_row rfl _ _ gb117 41 #[.int .i64 a0_0, .string (a0_1.extract 0 ((ji2) : Int).toNat), .string (a0_2.extract 0 ((ji5) : Int).toNat), .int .i64 a0_3, .int .i64 a0_4] (0, 0) _ rfl (by (with_reducible repeat (first | refine blk_drewN ?_ _ | refine blk_drew ?_ | refine blk_alloc ?_ _)); refine blk_put (cs := #[.int .i64 a0_0, .string (a0_1.extract 0 ((ji2) : Int).toNat), .string (a0_2.extract 0 ((ji5) : Int).toNat), .int .i64 a0_3, .int .i64 0]) ?_ 4 _ rfl; (with_reducible repeat (first | refine blk_drewN ?_ _ | refine blk_drew ?_ | refine blk_alloc ?_ _)); refine blk_put (cs := #[.int .i64 a0_0, .string (a0_1.extract 0 ((ji2) : Int).toNat), .string (a0_2.extract 0 ((ji5) : Int).toNat), .int .i64 0, .int .i64 0]) ?_ 3 _ rfl; (with_reducible repeat (first | refine blk_drewN ?_ _ | refine blk_drew ?_ | refine blk_alloc ?_ _)); refine blk_put (cs := #[.int .i64 a0_0, .string (a0_1.extract 0 ((ji2) : Int).toNat), .string (⟨#[]⟩ : ByteArray), .int .i64 0, .int .i64 0]) ?_ 2 _ rfl; (with_reducible repeat (first | refine blk_drewN ?_ _ | refine blk_drew ?_ | refine blk_alloc ?_ _)); refine blk_put (cs := #[.int .i64 a0_0, .string (⟨#[]⟩ : ByteArray), .string (⟨#[]⟩ : ByteArray), .int .i64 0, .int .i64 0]) ?_ 1 _ rfl; (with_reducible repeat (first | refine blk_drewN ?_ _ | refine blk_drew ?_ | refine blk_alloc ?_ _)); refine blk_put (cs := #[.int .i64 0, .string (⟨#[]⟩ : ByteArray), .string (⟨#[]⟩ : ByteArray), .int .i64 0, .int .i64 0]) ?_ 0 _ rfl; (with_reducible repeat (first | refine blk_drewN ?_ _ | refine blk_drew ?_ | refine blk_alloc ?_ _)); exact BK117.out) Tryz.underlying41 rfl (by kernel_rfl)) rfl ?_
          exact ⟨by first | rfl | (simp [errW_none, errW_some] <;> rfl) | (simp only [← hji2, ← hji5]; first | rfl | (simp [errW_none, errW_some] <;> rfl)) | (simp [*, errW_none, errW_some] <;> rfl), by repeat (first | (with_reducible first | exact HB.out | apply below_alloc | apply pw_below_drewN | apply below_drew1 | refine below_set ?_ GE116.out | refine below_set ?_ GE117.out) | exact HB.out)⟩
        · rw [if_neg c7] at H
          exact absurd H (by simp)
      · rw [if_neg c6] at H
        exact absurd H (by simp)
    · rw [if_neg c4] at H
      exact absurd H (by simp)
  · rw [if_neg c3] at H
    exact absurd H (by simp)
def api_Eid.f (a0_0 : Int) (a0_1 : ByteArray) (a0_2 : ByteArray) (a0_3 : Int) (a0_4 : Int) (a1 : Bool) : Option (Int × ByteArray × ByteArray × Int × Int × Int) := if a1 = true then (some (a0_0, a0_1, a0_2, a0_3, a0_4, 0)) else (some (0, (⟨#[]⟩ : ByteArray), (⟨#[]⟩ : ByteArray), 0, 0, 60))
set_option maxHeartbeats 8000000 in
set_option maxRecDepth 100000 in
theorem api_Eid.calls (a0_0 : Int) (a0_1 : ByteArray) (a0_2 : ByteArray) (a0_3 : Int) (a0_4 : Int) (a1 : Bool) (r1 : Int) (r2 : ByteArray) (r3 : ByteArray) (r4 : Int) (r5 : Int) (r6 : Int) (w : World) (h : api_Eid.f a0_0 a0_1 a0_2 a0_3 a0_4 a1 = some (r1, r2, r3, r4, r5, r6)) :
    Calls Tryz.prog 66 #[.agg #[.int .i64 a0_0, .string a0_1, .string a0_2, .int .i64 a0_3, .int .i64 a0_4], .bool a1] w fun e w' => e = .returned (.tuple #[.agg #[.int .i64 r1, .string r2, .string r3, .int .i64 r4, .int .i64 r5], .int .i64 r6]) ∧ Below w.heap.size w w' := by
  have hu41 := Tryz.underlying41
  have HB := Aside0.mk (Below.refl w.heap.size w)
  have H : (if a1 = true then (some (a0_0, a0_1, a0_2, a0_3, a0_4, 0)) else (some (0, (⟨#[]⟩ : ByteArray), (⟨#[]⟩ : ByteArray), 0, 0, 60))) = some (r1, r2, r3, r4, r5, r6) := h
  clear h
  by_cases c3 : a1 = true
  · subst c3
    have H1 : (some (a0_0, a0_1, a0_2, a0_3, a0_4, 0)) = some (r1, r2, r3, r4, r5, r6) := by rw [if_pos rfl] at H; exact H
    clear H
    have H := H1
    clear H1
    simp only [Option.some.injEq, Prod.mk.injEq] at H
    obtain ⟨rfl, rfl, rfl, rfl, rfl, rfl⟩ := H
    go_enter Tryz.func66, Tryz.ntmps66
    go_wp2_with (first | ((with_reducible refine gate_dst (N := 2) rfl ?_); refine box_event ?hg (N := 2) ?hd (cs := #[.int .i64 a0_0, .string a0_1, .string a0_2, .int .i64 a0_3, .int .i64 a0_4]) (t := 41) ?hr ?_; (case hd => rfl); (case hg => rfl); (case hr => first | (go_simp; done) | (go_simp; rfl) | (go_simp; simp only [isEmpty_ne, isEmpty_eq]; done) | (go_simp; simp only [isEmpty_ne, isEmpty_eq]; rfl)); intro gb118 hg w4 hbox hb; have n0_ := Aside0.mk (below_step (by repeat (first | (with_reducible first | exact HB.out | apply below_alloc | apply pw_below_drewN | apply below_drew1) | exact HB.out)) hb); have n1_ := Aside0.mk (hbox); have n2_ := Aside0.mk ((by rw [hg]; exact (below_size (by repeat (first | (with_reducible first | exact HB.out | apply below_alloc | apply pw_below_drewN | apply below_drew1) | exact HB.out))) : w.heap.size ≤ gb118)); have n3_ := Aside0.mk ((by rw [hg]; exact (below_size (by repeat (first | (with_reducible first | exact HB.out | apply below_alloc | apply pw_below_drewN | apply below_drew1) | exact HB.out))) : w.heap.size ≤ gb118)); clear HB; have HB := n0_; have BK118 := n1_; have GW118 := n2_; have GE118 := n3_; clear n0_ n1_ n2_ n3_; clear hb hbox hg) | ((with_reducible refine gate_dst (N := 4) rfl ?_); refine box_event ?hg (N := 4) ?hd (cs := #[.int .i64 0, .string (⟨#[]⟩ : ByteArray), .string (⟨#[]⟩ : ByteArray), .int .i64 0, .int .i64 0]) (t := 41) ?hr ?_; (case hd => rfl); (case hg => rfl); (case hr => first | (go_simp; done) | (go_simp; rfl) | (go_simp; simp only [isEmpty_ne, isEmpty_eq]; done) | (go_simp; simp only [isEmpty_ne, isEmpty_eq]; rfl)); intro gb119 hg w5 hbox hb; have n0_ := Aside0.mk (blk_below (g := gb118) (o := .cells #[.int .i64 a0_0, .string a0_1, .string a0_2, .int .i64 a0_3, .int .i64 a0_4] 41 (0, 0)) (by (with_reducible repeat (first | refine blk_drewN ?_ _ | refine blk_drew ?_ | refine blk_alloc ?_ _)); exact BK118.out) hb); have n1_ := Aside0.mk (below_step (by repeat (first | (with_reducible first | exact HB.out | apply below_alloc | apply pw_below_drewN | apply below_drew1 | refine below_set ?_ GE118.out) | exact HB.out)) hb); have n2_ := Aside0.mk (hbox); have n3_ := Aside0.mk ((by rw [hg]; exact (below_size (by repeat (first | (with_reducible first | exact HB.out | apply below_alloc | apply pw_below_drewN | apply below_drew1 | refine below_set ?_ GE118.out) | exact HB.out))) : w.heap.size ≤ gb119)); have n4_ := Aside0.mk ((by rw [hg]; exact (below_size (by repeat (first | (with_reducible first | exact HB.out | apply below_alloc | apply pw_below_drewN | apply below_drew1 | refine below_set ?_ GE118.out) | exact HB.out))) : w.heap.size ≤ gb119)); have n5_ := Aside0.mk ((by rw [hg]; exact Nat.ne_of_lt (blk_lt (g := gb118) (o := .cells #[.int .i64 a0_0, .string a0_1, .string a0_2, .int .i64 a0_3, .int .i64 a0_4] 41 (0, 0)) (by (with_reducible repeat (first | refine blk_drewN ?_ _ | refine blk_drew ?_ | refine blk_alloc ?_ _)); exact BK118.out)) : gb118 ≠ gb119)); have n6_ := Aside0.mk ((by rw [hg]; exact Nat.ne_of_gt (blk_lt (g := gb118) (o := .cells #[.int .i64 a0_0, .string a0_1, .string a0_2, .int .i64 a0_3, .int .i64 a0_4] 41 (0, 0)) (by (with_reducible repeat (first | refine blk_drewN ?_ _ | refine blk_drew ?_ | refine blk_alloc ?_ _)); exact BK118.out)) : gb119 ≠ gb118)); clear BK118; clear HB; have BK118 := n0_; have HB := n1_; have BK119 := n2_; have GW119 := n3_; have GE119 := n4_; have NB118_119 := n5_; have NB119_118 := n6_; clear n0_ n1_ n2_ n3_ n4_ n5_ n6_; clear hb hbox hg) | ((with_reducible refine gate_dst (N := 6) rfl ?_); refine box_event ?hg (N := 6) ?hd (cs := #[.int .i64 0, .string (⟨#[]⟩ : ByteArray), .string (⟨#[]⟩ : ByteArray), .int .i64 0, .int .i64 0]) (t := 41) ?hr ?_; (case hd => rfl); (case hg => rfl); (case hr => first | (go_simp; done) | (go_simp; rfl) | (go_simp; simp only [isEmpty_ne, isEmpty_eq]; done) | (go_simp; simp only [isEmpty_ne, isEmpty_eq]; rfl)); intro gb120 hg w6 hbox hb; have n0_ := Aside0.mk (blk_below (g := gb118) (o := .cells #[.int .i64 a0_0, .string a0_1, .string a0_2, .int .i64 a0_3, .int .i64 a0_4] 41 (0, 0)) (by (with_reducible repeat (first | refine blk_drewN ?_ _ | refine blk_drew ?_ | refine blk_alloc ?_ _)); exact BK118.out) hb); have n1_ := Aside0.mk (blk_below (g := gb119) (o := .cells #[.int .i64 0, .string (⟨#[]⟩ : ByteArray), .string (⟨#[]⟩ : ByteArray), .int .i64 0, .int .i64 0] 41 (0, 0)) (by (with_reducible repeat (first | refine blk_drewN ?_ _ | refine blk_drew ?_ | refine blk_alloc ?_ _)); exact BK119.out) hb); have n2_ := Aside0.mk (below_step (by repeat (first | (with_reducible first | exact HB.out | apply below_alloc | apply pw_below_drewN | apply below_drew1 | refine below_set ?_ GE118.out | refine below_set ?_ GE119.out) | exact HB.out)) hb); have n3_ := Aside0.mk (hbox); have n4_ := Aside0.mk ((by rw [hg]; exact (below_size (by repeat (first | (with_reducible first | exact HB.out | apply below_alloc | apply pw_below_drewN | apply below_drew1 | refine below_set ?_ GE118.out | refine below_set ?_ GE119.out) | exact HB.out))) : w.heap.size ≤ gb120)); have n5_ := Aside0.mk ((by rw [hg]; exact (below_size (by repeat (first | (with_reducible first | exact HB.out | apply below_alloc | apply pw_below_drewN | apply below_drew1 | refine below_set ?_ GE118.out | refine below_set ?_ GE119.out) | exact HB.out))) : w.heap.size ≤ gb120)); have n6_ := Aside0.mk ((by rw [hg]; exact Nat.ne_of_lt (blk_lt (g := gb118) (o := .cells #[.int .i64 a0_0, .string a0_1, .string a0_2, .int .i64 a0_3, .int .i64 a0_4] 41 (0, 0)) (by (with_reducible repeat (first | refine blk_drewN ?_ _ | refine blk_drew ?_ | refine blk_alloc ?_ _)); exact BK118.out)) : gb118 ≠ gb120)); have n7_ := Aside0.mk ((by rw [hg]; exact Nat.ne_of_gt (blk_lt (g := gb118) (o := .cells #[.int .i64 a0_0, .string a0_1, .string a0_2, .int .i64 a0_3, .int .i64 a0_4] 41 (0, 0)) (by (with_reducible repeat (first | refine blk_drewN ?_ _ | refine blk_drew ?_ | refine blk_alloc ?_ _)); exact BK118.out)) : gb120 ≠ gb118)); have n8_ := Aside0.mk ((by rw [hg]; exact Nat.ne_of_lt (blk_lt (g := gb119) (o := .cells #[.int .i64 0, .string (⟨#[]⟩ : ByteArray), .string (⟨#[]⟩ : ByteArray), .int .i64 0, .int .i64 0] 41 (0, 0)) (by (with_reducible repeat (first | refine blk_drewN ?_ _ | refine blk_drew ?_ | refine blk_alloc ?_ _)); exact BK119.out)) : gb119 ≠ gb120)); have n9_ := Aside0.mk ((by rw [hg]; exact Nat.ne_of_gt (blk_lt (g := gb119) (o := .cells #[.int .i64 0, .string (⟨#[]⟩ : ByteArray), .string (⟨#[]⟩ : ByteArray), .int .i64 0, .int .i64 0] 41 (0, 0)) (by (with_reducible repeat (first | refine blk_drewN ?_ _ | refine blk_drew ?_ | refine blk_alloc ?_ _)); exact BK119.out)) : gb120 ≠ gb119)); clear BK118; clear BK119; clear HB; have BK118 := n0_; have BK119 := n1_; have HB := n2_; have BK120 := n3_; have GW120 := n4_; have GE120 := n5_; have NB118_120 := n6_; have NB120_118 := n7_; have NB119_120 := n8_; have NB120_119 := n9_; clear n0_ n1_ n2_ n3_ n4_ n5_ n6_ n7_ n8_ n9_; clear hb hbox hg; have hnb7 := NB118_119.out; have hnc7 := NB119_118.out; have hnb8 := NB118_120.out; have hnc8 := NB120_118.out; have hcz9_0 : w6.cell? ⟨gb118, 0, none⟩ = some (.int .i64 a0_0) := (blk_cell BK118.out 0).trans rfl; have hcz9_1 : w6.cell? ⟨gb118, 1, none⟩ = some (.string a0_1) := (blk_cell BK118.out 1).trans rfl; have hcz9_2 : w6.cell? ⟨gb118, 2, none⟩ = some (.string a0_2) := (blk_cell BK118.out 2).trans rfl; have hcz9_3 : w6.cell? ⟨gb118, 3, none⟩ = some (.int .i64 a0_3) := (blk_cell BK118.out 3).trans rfl; have hcz9_4 : w6.cell? ⟨gb118, 4, none⟩ = some (.int .i64 a0_4) := (blk_cell BK118.out 4).trans rfl; have hfz9_0 := blk_frozen BK118.out 0; have hfz9_1 := blk_frozen BK118.out 1; have hfz9_2 := blk_frozen BK118.out 2; have hfz9_3 := blk_frozen BK118.out 3; have hfz9_4 := blk_frozen BK118.out 4; have hnb10 := NB119_120.out; have hnc10 := NB120_119.out; have hcz11_0 : w6.cell? ⟨gb119, 0, none⟩ = some (.int .i64 0) := (blk_cell BK119.out 0).trans rfl; have hcz11_1 : w6.cell? ⟨gb119, 1, none⟩ = some (.string (⟨#[]⟩ : ByteArray)) := (blk_cell BK119.out 1).trans rfl; have hcz11_2 : w6.cell? ⟨gb119, 2, none⟩ = some (.string (⟨#[]⟩ : ByteArray)) := (blk_cell BK119.out 2).trans rfl; have hcz11_3 : w6.cell? ⟨gb119, 3, none⟩ = some (.int .i64 0) := (blk_cell BK119.out 3).trans rfl; have hcz11_4 : w6.cell? ⟨gb119, 4, none⟩ = some (.int .i64 0) := (blk_cell BK119.out 4).trans rfl; have hfz11_0 := blk_frozen BK119.out 0; have hfz11_1 := blk_frozen BK119.out 1; have hfz11_2 := blk_frozen BK119.out 2; have hfz11_3 := blk_frozen BK119.out 3; have hfz11_4 := blk_frozen BK119.out 4))
    refine bodyPost_ret (results_ct rfl _ _ gb119 41 #[.int .i64 a0_0, .string a0_1, .string a0_2, .int .i64 a0_3, .int .i64 a0_4] (0, 0) _ rfl (by (with_reducible repeat (first | refine blk_drewN ?_ _ | refine blk_drew ?_ | refine blk_alloc ?_ _)); refine blk_put (cs := #[.int .i64 a0_0, .string a0_1, .string a0_2, .int .i64 a0_3, .int .i64 0]) ?_ 4 _ rfl; (with_reducible repeat (first | refine blk_drewN ?_ _ | refine blk_drew ?_ | refine blk_alloc ?_ _)); refine blk_put (cs := #[.int .i64 a0_0, .string a0_1, .string a0_2, .int .i64 0, .int .i64 0]) ?_ 3 _ rfl; (with_reducible repeat (first | refine blk_drewN ?_ _ | refine blk_drew ?_ | refine blk_alloc ?_ _)); refine blk_put (cs := #[.int .i64 a0_0, .string a0_1, .string (⟨#[]⟩ : ByteArray), .int .i64 0, .int .i64 0]) ?_ 2 _ rfl; (with_reducible repeat (first | refine blk_drewN ?_ _ | refine blk_drew ?_ | refine blk_alloc ?_ _)); refine blk_put (cs := #[.int .i64 a0_0, .string (⟨#[]⟩ : ByteArray), .string (⟨#[]⟩ : ByteArray), .int .i64 0, .int .i64 0]) ?_ 1 _ rfl; (with_reducible repeat (first | refine blk_drewN ?_ _ | refine blk_drew ?_ | refine blk_alloc ?_ _)); refine blk_put (cs := #[.int .i64 0, .string (⟨#[]⟩ : ByteArray), .string (⟨#[]⟩ : ByteArray), .int .i64 0, .int .i64 0]) ?_ 0 _ rfl; (with_reducible repeat (first | refine blk_drewN ?_ _ | refine blk_drew ?_ | refine blk_alloc ?_ _)); exact BK119.out) Tryz.underlying41 rfl (by kernel_rfl)) rfl ?_
    exact ⟨by first | rfl | (simp [errW_none, errW_some] <;> rfl) | (simp [*, errW_none, errW_some] <;> rfl), by repeat (first | (with_reducible first | exact HB.out | apply below_alloc | apply pw_below_drewN | apply below_drew1 | refine below_set ?_ GE118.out | refine below_set ?_ GE119.out | refine below_set ?_ GE120.out) | exact HB.out)⟩
  · replace c3 := Bool.eq_false_iff.mpr c3
    subst c3
    have H1 : (some (0, (⟨#[]⟩ : ByteArray), (⟨#[]⟩ : ByteArray), 0, 0, 60)) = some (r1, r2, r3, r4, r5, r6) := by rw [if_neg (show ¬ (false = true) by decide)] at H; exact H
    clear H
    have H := H1
    clear H1
    simp only [Option.some.injEq, Prod.mk.injEq] at H
    obtain ⟨rfl, rfl, rfl, rfl, rfl, rfl⟩ := H
    go_enter Tryz.func66, Tryz.ntmps66
    go_wp2_with (first | ((with_reducible refine gate_dst (N := 2) rfl ?_); refine box_event ?hg (N := 2) ?hd (cs := #[.int .i64 a0_0, .string a0_1, .string a0_2, .int .i64 a0_3, .int .i64 a0_4]) (t := 41) ?hr ?_; (case hd => rfl); (case hg => rfl); (case hr => first | (go_simp; done) | (go_simp; rfl) | (go_simp; simp only [isEmpty_ne, isEmpty_eq]; done) | (go_simp; simp only [isEmpty_ne, isEmpty_eq]; rfl)); intro gb118 hg w12 hbox hb; have n0_ := Aside0.mk (below_step (by repeat (first | (with_reducible first | exact HB.out | apply below_alloc | apply pw_below_drewN | apply below_drew1) | exact HB.out)) hb); have n1_ := Aside0.mk (hbox); have n2_ := Aside0.mk ((by rw [hg]; exact (below_size (by repeat (first | (with_reducible first | exact HB.out | apply below_alloc | apply pw_below_drewN | apply below_drew1) | exact HB.out))) : w.heap.size ≤ gb118)); have n3_ := Aside0.mk ((by rw [hg]; exact (below_size (by repeat (first | (with_reducible first | exact HB.out | apply below_alloc | apply pw_below_drewN | apply below_drew1) | exact HB.out))) : w.heap.size ≤ gb118)); clear HB; have HB := n0_; have BK118 := n1_; have GW118 := n2_; have GE118 := n3_; clear n0_ n1_ n2_ n3_; clear hb hbox hg) | ((with_reducible refine gate_dst (N := 4) rfl ?_); refine box_event ?hg (N := 4) ?hd (cs := #[.int .i64 0, .string (⟨#[]⟩ : ByteArray), .string (⟨#[]⟩ : ByteArray), .int .i64 0, .int .i64 0]) (t := 41) ?hr ?_; (case hd => rfl); (case hg => rfl); (case hr => first | (go_simp; done) | (go_simp; rfl) | (go_simp; simp only [isEmpty_ne, isEmpty_eq]; done) | (go_simp; simp only [isEmpty_ne, isEmpty_eq]; rfl)); intro gb119 hg w13 hbox hb; have n0_ := Aside0.mk (blk_below (g := gb118) (o := .cells #[.int .i64 a0_0, .string a0_1, .string a0_2, .int .i64 a0_3, .int .i64 a0_4] 41 (0, 0)) (by (with_reducible repeat (first | refine blk_drewN ?_ _ | refine blk_drew ?_ | refine blk_alloc ?_ _)); exact BK118.out) hb); have n1_ := Aside0.mk (below_step (by repeat (first | (with_reducible first | exact HB.out | apply below_alloc | apply pw_below_drewN | apply below_drew1 | refine below_set ?_ GE118.out) | exact HB.out)) hb); have n2_ := Aside0.mk (hbox); have n3_ := Aside0.mk ((by rw [hg]; exact (below_size (by repeat (first | (with_reducible first | exact HB.out | apply below_alloc | apply pw_below_drewN | apply below_drew1 | refine below_set ?_ GE118.out) | exact HB.out))) : w.heap.size ≤ gb119)); have n4_ := Aside0.mk ((by rw [hg]; exact (below_size (by repeat (first | (with_reducible first | exact HB.out | apply below_alloc | apply pw_below_drewN | apply below_drew1 | refine below_set ?_ GE118.out) | exact HB.out))) : w.heap.size ≤ gb119)); have n5_ := Aside0.mk ((by rw [hg]; exact Nat.ne_of_lt (blk_lt (g := gb118) (o := .cells #[.int .i64 a0_0, .string a0_1, .string a0_2, .int .i64 a0_3, .int .i64 a0_4] 41 (0, 0)) (by (with_reducible repeat (first | refine blk_drewN ?_ _ | refine blk_drew ?_ | refine blk_alloc ?_ _)); exact BK118.out)) : gb118 ≠ gb119)); have n6_ := Aside0.mk ((by rw [hg]; exact Nat.ne_of_gt (blk_lt (g := gb118) (o := .cells #[.int .i64 a0_0, .string a0_1, .string a0_2, .int .i64 a0_3, .int .i64 a0_4] 41 (0, 0)) (by (with_reducible repeat (first | refine blk_drewN ?_ _ | refine blk_drew ?_ | refine blk_alloc ?_ _)); exact BK118.out)) : gb119 ≠ gb118)); clear BK118; clear HB; have BK118 := n0_; have HB := n1_; have BK119 := n2_; have GW119 := n3_; have GE119 := n4_; have NB118_119 := n5_; have NB119_118 := n6_; clear n0_ n1_ n2_ n3_ n4_ n5_ n6_; clear hb hbox hg) | ((with_reducible refine gate_dst (N := 6) rfl ?_); refine box_event ?hg (N := 6) ?hd (cs := #[.int .i64 0, .string (⟨#[]⟩ : ByteArray), .string (⟨#[]⟩ : ByteArray), .int .i64 0, .int .i64 0]) (t := 41) ?hr ?_; (case hd => rfl); (case hg => rfl); (case hr => first | (go_simp; done) | (go_simp; rfl) | (go_simp; simp only [isEmpty_ne, isEmpty_eq]; done) | (go_simp; simp only [isEmpty_ne, isEmpty_eq]; rfl)); intro gb120 hg w14 hbox hb; have n0_ := Aside0.mk (blk_below (g := gb118) (o := .cells #[.int .i64 a0_0, .string a0_1, .string a0_2, .int .i64 a0_3, .int .i64 a0_4] 41 (0, 0)) (by (with_reducible repeat (first | refine blk_drewN ?_ _ | refine blk_drew ?_ | refine blk_alloc ?_ _)); exact BK118.out) hb); have n1_ := Aside0.mk (blk_below (g := gb119) (o := .cells #[.int .i64 0, .string (⟨#[]⟩ : ByteArray), .string (⟨#[]⟩ : ByteArray), .int .i64 0, .int .i64 0] 41 (0, 0)) (by (with_reducible repeat (first | refine blk_drewN ?_ _ | refine blk_drew ?_ | refine blk_alloc ?_ _)); exact BK119.out) hb); have n2_ := Aside0.mk (below_step (by repeat (first | (with_reducible first | exact HB.out | apply below_alloc | apply pw_below_drewN | apply below_drew1 | refine below_set ?_ GE118.out | refine below_set ?_ GE119.out) | exact HB.out)) hb); have n3_ := Aside0.mk (hbox); have n4_ := Aside0.mk ((by rw [hg]; exact (below_size (by repeat (first | (with_reducible first | exact HB.out | apply below_alloc | apply pw_below_drewN | apply below_drew1 | refine below_set ?_ GE118.out | refine below_set ?_ GE119.out) | exact HB.out))) : w.heap.size ≤ gb120)); have n5_ := Aside0.mk ((by rw [hg]; exact (below_size (by repeat (first | (with_reducible first | exact HB.out | apply below_alloc | apply pw_below_drewN | apply below_drew1 | refine below_set ?_ GE118.out | refine below_set ?_ GE119.out) | exact HB.out))) : w.heap.size ≤ gb120)); have n6_ := Aside0.mk ((by rw [hg]; exact Nat.ne_of_lt (blk_lt (g := gb118) (o := .cells #[.int .i64 a0_0, .string a0_1, .string a0_2, .int .i64 a0_3, .int .i64 a0_4] 41 (0, 0)) (by (with_reducible repeat (first | refine blk_drewN ?_ _ | refine blk_drew ?_ | refine blk_alloc ?_ _)); exact BK118.out)) : gb118 ≠ gb120)); have n7_ := Aside0.mk ((by rw [hg]; exact Nat.ne_of_gt (blk_lt (g := gb118) (o := .cells #[.int .i64 a0_0, .string a0_1, .string a0_2, .int .i64 a0_3, .int .i64 a0_4] 41 (0, 0)) (by (with_reducible repeat (first | refine blk_drewN ?_ _ | refine blk_drew ?_ | refine blk_alloc ?_ _)); exact BK118.out)) : gb120 ≠ gb118)); have n8_ := Aside0.mk ((by rw [hg]; exact Nat.ne_of_lt (blk_lt (g := gb119) (o := .cells #[.int .i64 0, .string (⟨#[]⟩ : ByteArray), .string (⟨#[]⟩ : ByteArray), .int .i64 0, .int .i64 0] 41 (0, 0)) (by (with_reducible repeat (first | refine blk_drewN ?_ _ | refine blk_drew ?_ | refine blk_alloc ?_ _)); exact BK119.out)) : gb119 ≠ gb120)); have n9_ := Aside0.mk ((by rw [hg]; exact Nat.ne_of_gt (blk_lt (g := gb119) (o := .cells #[.int .i64 0, .string (⟨#[]⟩ : ByteArray), .string (⟨#[]⟩ : ByteArray), .int .i64 0, .int .i64 0] 41 (0, 0)) (by (with_reducible repeat (first | refine blk_drewN ?_ _ | refine blk_drew ?_ | refine blk_alloc ?_ _)); exact BK119.out)) : gb120 ≠ gb119)); clear BK118; clear BK119; clear HB; have BK118 := n0_; have BK119 := n1_; have HB := n2_; have BK120 := n3_; have GW120 := n4_; have GE120 := n5_; have NB118_120 := n6_; have NB120_118 := n7_; have NB119_120 := n8_; have NB120_119 := n9_; clear n0_ n1_ n2_ n3_ n4_ n5_ n6_ n7_ n8_ n9_; clear hb hbox hg; have hnb15 := NB120_118.out; have hnc15 := NB118_120.out; have hnb16 := NB120_119.out; have hnc16 := NB119_120.out; have hcz17_0 : w14.cell? ⟨gb120, 0, none⟩ = some (.int .i64 0) := (blk_cell BK120.out 0).trans rfl; have hcz17_1 : w14.cell? ⟨gb120, 1, none⟩ = some (.string (⟨#[]⟩ : ByteArray)) := (blk_cell BK120.out 1).trans rfl; have hcz17_2 : w14.cell? ⟨gb120, 2, none⟩ = some (.string (⟨#[]⟩ : ByteArray)) := (blk_cell BK120.out 2).trans rfl; have hcz17_3 : w14.cell? ⟨gb120, 3, none⟩ = some (.int .i64 0) := (blk_cell BK120.out 3).trans rfl; have hcz17_4 : w14.cell? ⟨gb120, 4, none⟩ = some (.int .i64 0) := (blk_cell BK120.out 4).trans rfl; have hfz17_0 := blk_frozen BK120.out 0; have hfz17_1 := blk_frozen BK120.out 1; have hfz17_2 := blk_frozen BK120.out 2; have hfz17_3 := blk_frozen BK120.out 3; have hfz17_4 := blk_frozen BK120.out 4; have hnb18 := NB119_118.out; have hnc18 := NB118_119.out; have hcz19_0 : w14.cell? ⟨gb119, 0, none⟩ = some (.int .i64 0) := (blk_cell BK119.out 0).trans rfl; have hcz19_1 : w14.cell? ⟨gb119, 1, none⟩ = some (.string (⟨#[]⟩ : ByteArray)) := (blk_cell BK119.out 1).trans rfl; have hcz19_2 : w14.cell? ⟨gb119, 2, none⟩ = some (.string (⟨#[]⟩ : ByteArray)) := (blk_cell BK119.out 2).trans rfl; have hcz19_3 : w14.cell? ⟨gb119, 3, none⟩ = some (.int .i64 0) := (blk_cell BK119.out 3).trans rfl; have hcz19_4 : w14.cell? ⟨gb119, 4, none⟩ = some (.int .i64 0) := (blk_cell BK119.out 4).trans rfl; have hfz19_0 := blk_frozen BK119.out 0; have hfz19_1 := blk_frozen BK119.out 1; have hfz19_2 := blk_frozen BK119.out 2; have hfz19_3 := blk_frozen BK119.out 3; have hfz19_4 := blk_frozen BK119.out 4))
    refine bodyPost_ret (results_ct rfl _ _ gb119 41 #[.int .i64 0, .string (⟨#[]⟩ : ByteArray), .string (⟨#[]⟩ : ByteArray), .int .i64 0, .int .i64 0] (0, 0) _ rfl (by (with_reducible repeat (first | refine blk_drewN ?_ _ | refine blk_drew ?_ | refine blk_alloc ?_ _)); refine blk_put (cs := #[.int .i64 0, .string (⟨#[]⟩ : ByteArray), .string (⟨#[]⟩ : ByteArray), .int .i64 0, .int .i64 0]) ?_ 4 _ rfl; (with_reducible repeat (first | refine blk_drewN ?_ _ | refine blk_drew ?_ | refine blk_alloc ?_ _)); refine blk_put (cs := #[.int .i64 0, .string (⟨#[]⟩ : ByteArray), .string (⟨#[]⟩ : ByteArray), .int .i64 0, .int .i64 0]) ?_ 3 _ rfl; (with_reducible repeat (first | refine blk_drewN ?_ _ | refine blk_drew ?_ | refine blk_alloc ?_ _)); refine blk_put (cs := #[.int .i64 0, .string (⟨#[]⟩ : ByteArray), .string (⟨#[]⟩ : ByteArray), .int .i64 0, .int .i64 0]) ?_ 2 _ rfl; (with_reducible repeat (first | refine blk_drewN ?_ _ | refine blk_drew ?_ | refine blk_alloc ?_ _)); refine blk_put (cs := #[.int .i64 0, .string (⟨#[]⟩ : ByteArray), .string (⟨#[]⟩ : ByteArray), .int .i64 0, .int .i64 0]) ?_ 1 _ rfl; (with_reducible repeat (first | refine blk_drewN ?_ _ | refine blk_drew ?_ | refine blk_alloc ?_ _)); refine blk_put (cs := #[.int .i64 0, .string (⟨#[]⟩ : ByteArray), .string (⟨#[]⟩ : ByteArray), .int .i64 0, .int .i64 0]) ?_ 0 _ rfl; (with_reducible repeat (first | refine blk_drewN ?_ _ | refine blk_drew ?_ | refine blk_alloc ?_ _)); exact BK119.out) Tryz.underlying41 rfl (by kernel_rfl)) rfl ?_
    exact ⟨by first | rfl | (simp [errW_none, errW_some] <;> rfl) | (simp [*, errW_none, errW_some] <;> rfl), by repeat (first | (with_reducible first | exact HB.out | apply below_alloc | apply pw_below_drewN | apply below_drew1 | refine below_set ?_ GE118.out | refine below_set ?_ GE119.out | refine below_set ?_ GE120.out) | exact HB.out)⟩
end Go.Proofs.YtbjbicaffblchaaGreatDoor.SA
end
section
namespace Go.Proofs.YtbjbicaffblchaaGreatDoor.Hand
open Go.RowKit Go.Proofs.YtbjbicaffblchaaGreatDoor.SA
def sch0 : Value := .agg #[.string ⟨#[100, 116, 110]⟩, .func (.func 50) #[] #[], .func (.func 51) #[] #[], .func (.func 52) #[] #[]]
def sch1 : Value := .agg #[.string ⟨#[100, 116, 110]⟩, .func (.func 53) #[] #[], .func (.func 54) #[] #[], .func (.func 55) #[] #[]]
def sch2 : Value := .agg #[.string ⟨#[105, 112, 110]⟩, .func (.func 56) #[] #[], .func (.func 57) #[] #[], .func (.func 59) #[] #[]]
def schs : Array MapEntry := #[⟨.int .i64 0, sch0, 0⟩, ⟨.int .i64 1, sch1, 1⟩, ⟨.int .i64 2, sch2, 2⟩]
theorem store_alloc (w : World) (es : Array MapEntry) (clock : Nat) (n : Int) (v : Value) (h : Instr.findNow (.int .i64) (.int .i64 n) es.toList 0 = some none) :
    (Instr.mapUpdate 78 (.map (some w.heap.size)) (.int .i64 n) v).run Tryz.prog (w.alloc (.map es clock)) = .ok () (w.alloc (.map (es.push ⟨.int .i64 n, v, clock⟩) (clock + 1))) := by
  rw [run_mapUpdate_miss (w.alloc (.map es clock)) w.heap.size es clock _ _ _ _ (.int .i64 n) v Tryz.underlying78 Tryz.underlying3 (fun e W => run_checkKey_int W _ _ Tryz.underlying3 e _ _) (World.alloc_heap_new _ _) h, putObj_alloc]
set_option maxRecDepth 100000 in
theorem schemes_calls (w : World) :
    Calls Tryz.prog 37 #[] w fun e w' => e = .returned (.map (some w.heap.size)) ∧ w.alloc (.map schs 3) = w' := by
  have hmm := @run_makeMap Tryz.prog
  have h0 := store_alloc w #[] 0 0 sch0 rfl
  have h1 := store_alloc w #[⟨.int .i64 0, sch0, 0⟩] 1 1 sch1 rfl
  have h2 := store_alloc w #[⟨.int .i64 0, sch0, 0⟩, ⟨.int .i64 1, sch1, 1⟩] 2 2 sch2 rfl
  simp only [List.push_toArray, List.nil_append, List.cons_append, Nat.reduceAdd] at h0 h1 h2
  simp only [sch0, sch1, sch2] at h0 h1 h2
  go_enter Tryz.func37, Tryz.ntmps37
  go_wp2
  go_ret
  exact ⟨rfl, rfl⟩
end Go.Proofs.YtbjbicaffblchaaGreatDoor.Hand
end
section
namespace Go.Proofs.YtbjbicaffblchaaGreatDoor.Hand
open Go.RowKit Go.Proofs.YtbjbicaffblchaaGreatDoor.SA
def schAt (n : Int) : Option Value := if n = 0 then some sch0 else if n = 1 then some sch1 else if n = 2 then some sch2 else none
def schZ : Value := .agg #[.string ⟨#[]⟩, .nilFunc, .nilFunc, .nilFunc]
theorem zero_sch (W : World) : (zeroValue 77).run Tryz.prog W = .ok schZ W := by kernel_rfl
theorem look_sch (n : Int) (ok : Bool) (W : World) (b : Nat) (hb : W.heap[b]? = some (.map schs 3)) :
    (Instr.lookup 78 (.map (some b)) (.int .i64 n) ok).run Tryz.prog W = .ok (match schAt n with | some v => if ok then .tuple #[v, .bool true] else v | none => if ok then .tuple #[schZ, .bool false] else schZ) W := by
  unfold schAt
  by_cases h0 : n = 0
  · subst h0
    exact run_lookup_hit W b schs 3 _ _ _ _ _ sch0 0 ok Tryz.underlying78 Tryz.underlying3 (fun e W => run_checkKey_int W _ _ Tryz.underlying3 e _ _) hb rfl
  by_cases h1 : n = 1
  · subst h1
    exact run_lookup_hit W b schs 3 _ _ _ _ _ sch1 1 ok Tryz.underlying78 Tryz.underlying3 (fun e W => run_checkKey_int W _ _ Tryz.underlying3 e _ _) hb rfl
  by_cases h2 : n = 2
  · subst h2
    exact run_lookup_hit W b schs 3 _ _ _ _ _ sch2 2 ok Tryz.underlying78 Tryz.underlying3 (fun e W => run_checkKey_int W _ _ Tryz.underlying3 e _ _) hb rfl
  rw [if_neg h0, if_neg h1, if_neg h2]
  refine run_lookup_miss W b schs 3 _ _ _ _ _ schZ ok Tryz.underlying78 Tryz.underlying3 (fun e W => run_checkKey_int W _ _ Tryz.underlying3 e _ _) hb zero_sch ?_
  have e0 : (n == 0) = false := beq_eq_false_iff_ne.2 h0
  have e1 : (n == 1) = false := beq_eq_false_iff_ne.2 h1
  have e2 : (n == 2) = false := beq_eq_false_iff_ne.2 h2
  simp [schs, Instr.findNow, Instr.sameNow, e0, e1, e2]
def schOf (wd : ByteArray) (i j k : Nat) : Value := .agg #[.string wd, .func (.func i) #[] #[], .func (.func j) #[] #[], .func (.func k) #[] #[]]
theorem look_some {n : Int} {wd : ByteArray} {i j k : Nat} (hs : schAt n = some (schOf wd i j k)) (ok : Bool) (W : World) (b : Nat) (hb : W.heap[b]? = some (.map schs 3)) :
    (Instr.lookup 78 (.map (some b)) (.int .i64 n) ok).run Tryz.prog W = .ok (if ok then .tuple #[schOf wd i j k, .bool true] else schOf wd i j k) W := by
  have h := look_sch n ok W b hb
  rw [hs] at h
  exact h
set_option maxRecDepth 100000 in
set_option maxHeartbeats 2000000 in
theorem right_some (n : Int) (a0_1 a0_2 : ByteArray) (a0_3 a0_4 : Int) (wd : ByteArray) (i j k : Nat) (hs : schAt n = some (schOf wd i j k)) (r : Bool) (hent : ∀ args w, (callFunc i args).run Tryz.prog w = .ok (.enter i args) w)
    (hcall : ∀ W : World, Calls Tryz.prog i #[.agg #[.int .i64 n, .string a0_1, .string a0_2, .int .i64 a0_3, .int .i64 a0_4]] W fun e w' => e = .returned (.bool r) ∧ Below W.heap.size W w') (w : World) :
    Calls Tryz.prog 36 #[.agg #[.int .i64 n, .string a0_1, .string a0_2, .int .i64 a0_3, .int .i64 a0_4]] w fun e w' => e = .returned (.bool r) ∧ Below w.heap.size w w' := by
  have hu := Tryz.underlying41
  have hus := Tryz.underlying77
  have HC := Lib.hid hcall
  clear hcall
  have HLK := Lib.hid (look_some hs true)
  clear hs
  go_enter Tryz.func36, Tryz.ntmps36
  go_wp2
  obtain ⟨w1, hw1⟩ : ∃ w1, w1 = w.alloc (.cells #[.int .i64 n, .string a0_1, .string a0_2, .int .i64 a0_3, .int .i64 a0_4] 41) := ⟨_, rfl⟩
  have hB : Below w.heap.size w w1 := by rw [hw1]; exact (Below.refl _ _).alloc (Nat.le_refl _) _
  have hc0 : w1.cell? ⟨w.heap.size, 0, none⟩ = some (.int .i64 n) := by rw [hw1]; simp
  have hb0 : w1.heap[w.heap.size]? = some (.cells #[.int .i64 n, .string a0_1, .string a0_2, .int .i64 a0_3, .int .i64 a0_4] 41) := by rw [hw1]; exact World.alloc_heap_new _ _
  have hlt : w.heap.size < w1.heap.size := by rw [hw1]; simp
  have hcA : ∀ o, (w1.alloc o).cell? ⟨w.heap.size, 0, none⟩ = some (.int .i64 n) := fun o => by rw [World.cell?_alloc_past _ _ _ hlt]; exact hc0
  have hcB : ∀ o o', ((w1.alloc o).alloc o').cell? ⟨w.heap.size, 0, none⟩ = some (.int .i64 n) := fun o o' => by rw [World.cell?_alloc_past _ _ _ (by simp; omega)]; exact hcA o
  rw [← hw1]
  clear hw1
  have hl1 : (Instr.lookup 78 (.map (some w1.heap.size)) (.int .i64 n) true).run Tryz.prog (w1.alloc (.map schs 3)).drew = .ok (.tuple #[schOf wd i j k, .bool true]) (w1.alloc (.map schs 3)).drew := HLK.out _ _ (World.alloc_heap_new _ _)
  have hl2 : ∀ o, (Instr.lookup 78 (.map (some w1.heap.size)) (.int .i64 n) true).run Tryz.prog ((w1.alloc (.map schs 3)).alloc o).drew = .ok (.tuple #[schOf wd i j k, .bool true]) ((w1.alloc (.map schs 3)).alloc o).drew := fun o => HLK.out _ _ ((Below.heap_alloc _ _ _ (by simp)).trans (World.alloc_heap_new _ _))
  have hl3 : ∀ o, (Instr.lookup 78 (.map (some (w1.heap.size + 1))) (.int .i64 n) true).run Tryz.prog ((w1.alloc o).alloc (.map schs 3)).drew = .ok (.tuple #[schOf wd i j k, .bool true]) ((w1.alloc o).alloc (.map schs 3)).drew := fun o => HLK.out _ _ (by have := World.alloc_heap_new (w1.alloc o) (.map schs 3); rwa [World.size_alloc] at this)
  simp only [schOf] at hl1 hl2 hl3
  go_upto_region 2 with (fail)
  go_cut [3, 4, 5, 6, 7, 8, 9, 10, 11] (fun s3 s4 _ _ _ _ _ _ _ wc => ∃ g : Nat, w1.heap.size ≤ g ∧ s3 = .pointer (some ⟨g, 0, none⟩) ∧ s4 = .bool true ∧ wc.cell? ⟨g, 1, none⟩ = some (.func (.func i) #[] #[]) ∧ Below w1.heap.size w1 wc)
  case first =>
    go_region_with (go_at_call 37; refine (schemes_calls _).mono ?_; rintro e w' ⟨rfl, rfl⟩)
    all_goals go_wp2
    all_goals go_meet
    all_goals (case rel => exact ⟨_, by first | exact Nat.le_refl _ | exact Nat.le_succ _, rfl, rfl, by first | rfl | (simp; done), by repeat (first | exact Below.refl _ _ | apply b_alloc | apply Below.drew)⟩)
  case rest =>
    obtain ⟨g, hg, rfl, rfl, hcell, hbw⟩ := hcut
    have hz := (hbw.block _ hlt).trans hb0
    have z0 := cell_blk hz 0
    have z1 := cell_blk hz 1
    have z2 := cell_blk hz 2
    have z3 := cell_blk hz 3
    have z4 := cell_blk hz 4
    simp at z0 z1 z2 z3 z4
    clear hcA hcB hc0 hb0 hl1 hl2 hl3 hz hlt
    go_wp2_with (first | ((with_reducible refine (HC.out _).mono ?_); rintro e w2 ⟨rfl, hb2⟩))
    go_ret
    exact ⟨rfl, hB.trans ((hbw.trans (hb2.mono hbw.size)).mono hB.size)⟩
theorem look_none {n : Int} (hs : schAt n = none) (ok : Bool) (W : World) (b : Nat) (hb : W.heap[b]? = some (.map schs 3)) :
    (Instr.lookup 78 (.map (some b)) (.int .i64 n) ok).run Tryz.prog W = .ok (if ok then .tuple #[schZ, .bool false] else schZ) W := by
  have h := look_sch n ok W b hb
  rw [hs] at h
  exact h
set_option maxRecDepth 100000 in
set_option maxHeartbeats 2000000 in
theorem right_none (n : Int) (a0_1 a0_2 : ByteArray) (a0_3 a0_4 : Int) (hs : schAt n = none) (w : World) :
    Calls Tryz.prog 36 #[.agg #[.int .i64 n, .string a0_1, .string a0_2, .int .i64 a0_3, .int .i64 a0_4]] w fun e w' => e = .returned (.bool false) ∧ Below w.heap.size w w' := by
  have hu := Tryz.underlying41
  have hus := Tryz.underlying77
  have HLK := Lib.hid (look_none hs true)
  clear hs
  go_enter Tryz.func36, Tryz.ntmps36
  go_wp2
  obtain ⟨w1, hw1⟩ : ∃ w1, w1 = w.alloc (.cells #[.int .i64 n, .string a0_1, .string a0_2, .int .i64 a0_3, .int .i64 a0_4] 41) := ⟨_, rfl⟩
  have hB : Below w.heap.size w w1 := by rw [hw1]; exact (Below.refl _ _).alloc (Nat.le_refl _) _
  have hc0 : w1.cell? ⟨w.heap.size, 0, none⟩ = some (.int .i64 n) := by rw [hw1]; simp
  have hb0 : w1.heap[w.heap.size]? = some (.cells #[.int .i64 n, .string a0_1, .string a0_2, .int .i64 a0_3, .int .i64 a0_4] 41) := by rw [hw1]; exact World.alloc_heap_new _ _
  have hlt : w.heap.size < w1.heap.size := by rw [hw1]; simp
  have hcA : ∀ o, (w1.alloc o).cell? ⟨w.heap.size, 0, none⟩ = some (.int .i64 n) := fun o => by rw [World.cell?_alloc_past _ _ _ hlt]; exact hc0
  have hcB : ∀ o o', ((w1.alloc o).alloc o').cell? ⟨w.heap.size, 0, none⟩ = some (.int .i64 n) := fun o o' => by rw [World.cell?_alloc_past _ _ _ (by simp; omega)]; exact hcA o
  rw [← hw1]
  clear hw1
  have hl1 : (Instr.lookup 78 (.map (some w1.heap.size)) (.int .i64 n) true).run Tryz.prog (w1.alloc (.map schs 3)).drew = .ok (.tuple #[schZ, .bool false]) (w1.alloc (.map schs 3)).drew := HLK.out _ _ (World.alloc_heap_new _ _)
  have hl2 : ∀ o, (Instr.lookup 78 (.map (some w1.heap.size)) (.int .i64 n) true).run Tryz.prog ((w1.alloc (.map schs 3)).alloc o).drew = .ok (.tuple #[schZ, .bool false]) ((w1.alloc (.map schs 3)).alloc o).drew := fun o => HLK.out _ _ ((Below.heap_alloc _ _ _ (by simp)).trans (World.alloc_heap_new _ _))
  have hl3 : ∀ o, (Instr.lookup 78 (.map (some (w1.heap.size + 1))) (.int .i64 n) true).run Tryz.prog ((w1.alloc o).alloc (.map schs 3)).drew = .ok (.tuple #[schZ, .bool false]) ((w1.alloc o).alloc (.map schs 3)).drew := fun o => HLK.out _ _ (by have := World.alloc_heap_new (w1.alloc o) (.map schs 3); rwa [World.size_alloc] at this)
  simp only [schZ] at hl1 hl2 hl3
  go_upto_region 2 with (fail)
  go_cut [3, 4, 5, 6, 7, 8, 9, 10, 11] (fun s3 s4 _ _ _ _ _ _ _ wc => ∃ g : Nat, w1.heap.size ≤ g ∧ s3 = .pointer (some ⟨g, 0, none⟩) ∧ s4 = .bool false ∧ Below w1.heap.size w1 wc)
  case first =>
    go_region_with (go_at_call 37; refine (schemes_calls _).mono ?_; rintro e w' ⟨rfl, rfl⟩)
    all_goals go_wp2
    all_goals go_meet
    all_goals (case rel => exact ⟨_, by first | exact Nat.le_refl _ | exact Nat.le_succ _, rfl, rfl, by repeat (first | exact Below.refl _ _ | apply b_alloc | apply Below.drew)⟩)
  case rest =>
    obtain ⟨g, hg, rfl, rfl, hbw⟩ := hcut
    clear hcA hcB hc0 hb0 hl1 hl2 hl3 hlt
    go_wp2
    go_ret
    exact ⟨rfl, hB.trans (hbw.mono hB.size)⟩
end Go.Proofs.YtbjbicaffblchaaGreatDoor.Hand
end
section
namespace Go.Proofs.YtbjbicaffblchaaGreatDoor.Hand
open Go.RowKit Go.Proofs.YtbjbicaffblchaaGreatDoor.SA
theorem areAll_from (l : List Bool) : ∀ (d k : Nat) (i : Int), 0 ≤ i → i ≤ l.length → (l.length : Int) - i = d → d < k → l.length ≤ 1000 → eid_areAll.l0 k l (l.length : Int) i = some ((l.drop i.toNat).all id) := by
  intro d
  induction d with
  | zero =>
    intro k i h0 h1 hd hk _
    obtain ⟨k, rfl⟩ : ∃ m, k = m + 1 := ⟨k - 1, by omega⟩
    simp only [eid_areAll.l0]
    rw [if_neg (by omega), List.drop_eq_nil_of_le (by omega)]
    rfl
  | succ d ih =>
    intro k i h0 h1 hd hk hl
    obtain ⟨k, rfl⟩ : ∃ m, k = m + 1 := ⟨k - 1, by omega⟩
    simp only [eid_areAll.l0]
    rw [if_pos (by omega), if_pos h0, if_pos (by omega)]
    have hw : wrap64 (i + 1) = i + 1 := by unfold wrap64; omega
    have hlt : i.toNat < l.length := by omega
    have hr : YtbjbicaffblchaaGreatDoorW.PrintWords.rdOf false l i = l[i.toNat] := by
      unfold YtbjbicaffblchaaGreatDoorW.PrintWords.rdOf
      simp [List.getD_eq_getElem?_getD, List.getElem?_eq_getElem hlt]
    rw [hr, hw, List.drop_eq_getElem_cons hlt, List.all_cons]
    have hi := ih k (i + 1) (by omega) (by omega) (by omega) (by omega) hl
    rw [show (i + 1).toNat = i.toNat + 1 by omega] at hi
    cases h : l[i.toNat] with
    | true => simp [hi]
    | false => simp
theorem areAll_is (l : List Bool) (k : Nat) (hk : l.length < k) (hl : l.length ≤ 1000) : eid_areAll.f k l = some (l.all id) := by
  unfold eid_areAll.f
  have := areAll_from l l.length k 0 (by omega) (by omega) (by omega) hk hl
  simpa using this
def rightS (n : Int) (a1 a2 : ByteArray) (a3 a4 : Int) : Bool :=
  if n = 0 then a1.toList == [] && (a2.toList == [] && (a3 == 0 && a4 == 0))
  else if n = 1 then a1.toList != [] && (partS a1 ⟨#[45, 46]⟩ && (partS a2 ⟨#[45, 46, 47]⟩ && (a3 == 0 && a4 == 0)))
  else if n = 2 then a1.toList == [] && (a2.toList == [] && (decide (a3 ≥ 1) && (decide (a3 ≤ 999999999) && (decide (a4 ≥ 0) && decide (a4 ≤ 999999999)))))
  else false
def eid_Right.f (a0_0 : Int) (a0_1 a0_2 : ByteArray) (a0_3 a0_4 : Int) : Option Bool := if a0_1.size ≤ maxLen ∧ a0_2.size ≤ maxLen then some (rightS a0_0 a0_1 a0_2 a0_3 a0_4) else none
theorem isDtn_is (n : Int) (a1 a2 : ByteArray) (a3 a4 : Int) (h1 : a1.size ≤ maxLen) (h2 : a2.size ≤ maxLen) :
    eid_isDtn.f 10 n a1 a2 a3 a4 = some (a1.toList != [] && (partS a1 ⟨#[45, 46]⟩ && (partS a2 ⟨#[45, 46, 47]⟩ && (a3 == 0 && a4 == 0)))) := by
  unfold eid_isDtn.f eid_isPart.f
  rw [if_pos ⟨h1, by decide⟩, if_pos ⟨h2, by decide⟩]
  simp only [Option.bind_some]
  rw [areAll_is _ _ (by simp) (by simp)]
  simp
theorem isIpn_is (n : Int) (a1 a2 : ByteArray) (a3 a4 : Int) :
    eid_isIpn.f 10 n a1 a2 a3 a4 = some (a1.toList == [] && (a2.toList == [] && (decide (a3 ≥ 1) && (decide (a3 ≤ 999999999) && (decide (a4 ≥ 0) && decide (a4 ≤ 999999999)))))) := by
  unfold eid_isIpn.f
  rw [areAll_is _ _ (by simp) (by simp)]
  simp
theorem eid_Right.calls (a0_0 : Int) (a0_1 a0_2 : ByteArray) (a0_3 a0_4 : Int) (r : Bool) (w : World) (h : eid_Right.f a0_0 a0_1 a0_2 a0_3 a0_4 = some r) :
    Calls Tryz.prog 36 #[.agg #[.int .i64 a0_0, .string a0_1, .string a0_2, .int .i64 a0_3, .int .i64 a0_4]] w fun e w' => e = .returned (.bool r) ∧ Below w.heap.size w w' := by
  unfold eid_Right.f at h
  split at h
  case isFalse => cases h
  rename_i hc
  obtain ⟨h1, h2⟩ := hc
  obtain rfl := Option.some.inj h
  unfold rightS
  by_cases e0 : a0_0 = 0
  · subst e0
    rw [if_pos rfl]
    exact right_some 0 a0_1 a0_2 a0_3 a0_4 _ _ _ _ (by rw [schAt, if_pos rfl]; rfl) _ (Go.Proofs.enters_of Tryz.func50 (by kernel_rfl) rfl)
      (fun W => (eid_schemes_1.calls 0 a0_1 a0_2 a0_3 a0_4 _ W (by unfold eid_schemes_1.f; rfl)).mono fun _ _ h => ⟨by rw [h.1]; simp, h.2⟩) w
  rw [if_neg e0]
  by_cases e1 : a0_0 = 1
  · subst e1
    rw [if_pos rfl]
    exact right_some 1 a0_1 a0_2 a0_3 a0_4 _ _ _ _ (by rw [schAt, if_neg (by decide), if_pos rfl]; rfl) _ (Go.Proofs.enters_of Tryz.func53 (by kernel_rfl) rfl)
      (fun W => eid_isDtn.calls 10 1 a0_1 a0_2 a0_3 a0_4 _ W (isDtn_is _ _ _ _ _ h1 h2)) w
  rw [if_neg e1]
  by_cases e2 : a0_0 = 2
  · subst e2
    rw [if_pos rfl]
    exact right_some 2 a0_1 a0_2 a0_3 a0_4 _ _ _ _ (by rw [schAt, if_neg (by decide), if_neg (by decide), if_pos rfl]; rfl) _ (Go.Proofs.enters_of Tryz.func56 (by kernel_rfl) rfl)
      (fun W => eid_isIpn.calls 10 2 a0_1 a0_2 a0_3 a0_4 _ W (isIpn_is _ _ _ _ _)) w
  rw [if_neg e2]
  exact right_none a0_0 a0_1 a0_2 a0_3 a0_4 (by rw [schAt, if_neg e0, if_neg e1, if_neg e2]) w
end Go.Proofs.YtbjbicaffblchaaGreatDoor.Hand
end
section
namespace Go.Proofs.YtbjbicaffblchaaGreatDoor.SB
open Go.Proofs.YtbjbicaffblchaaGreatDoor.Hand
open Go.RowKit Go.Proofs.YtbjbicaffblchaaGreatDoorW.PrintWords Go.Proofs.YtbjbicaffblchaaGreatDoorW.PrintLast Go.Proofs.YtbjbicaffblchaaGreatDoorW.PrintMore
attribute [local go_sem] max2_int min2_int max_two min_two max_three min_three max_four min_four
set_option linter.unusedVariables false
set_option linter.unusedSimpArgs false
def errW : Option Int → Value
  | none => .nilIface
  | some c => .iface 0 (.int .i64 c)
theorem errW_none : errW none = .nilIface := rfl
theorem errW_some (c : Int) : errW (some c) = .iface 0 (.int .i64 c) := rfl
end Go.Proofs.YtbjbicaffblchaaGreatDoor.SB
end
section
namespace Go.Proofs.YtbjbicaffblchaaGreatDoor.SB
open Go.Proofs.YtbjbicaffblchaaGreatDoor.Hand
open Go.RowKit Go.Proofs.YtbjbicaffblchaaGreatDoorW.PrintWords Go.Proofs.YtbjbicaffblchaaGreatDoorW.PrintLast Go.Proofs.YtbjbicaffblchaaGreatDoorW.PrintMore
attribute [local go_sem] max2_int min2_int max_two min_two max_three min_three max_four min_four
set_option linter.unusedVariables false
set_option linter.unusedSimpArgs false
def eid_schemes_5.f (a0_0 : Int) (a0_1 : ByteArray) (a0_2 : ByteArray) (a0_3 : Int) (a0_4 : Int) : Option (ByteArray) := (strconv_Itoa.f a0_3).bind fun t102 => (if t102.size + 1 ≤ 9223372036854775807 then ((strconv_Itoa.f a0_4).bind fun t103 => (if t102.size + 1 + t103.size ≤ 9223372036854775807 then (some ((t102 ++ (⟨#[46]⟩ : ByteArray)) ++ t103)) else (none))) else (none))
def eid_schemes_5.T1 : Bool × List (List Nat × List Nat) := (true, [([], []), ([0], [0]), ([1], [1]), ([2], [2]), ([], []), ([4], [4]), ([5, 2], [5]), ([3, 6], [3, 6]), ([7, 6, 0, 1, 2, 3, 4, 5, 6, 7], [7])])
def eid_schemes_5.B1 : List Nat := [0, 1, 3, 7, 0, 16, 55, 127, 255]
theorem eid_schemes_5.tab1 : rtab .any (opsOf Tryz.f57 1) = eid_schemes_5.T1 := by kernel_rfl
theorem eid_schemes_5.bits1 : waitsOk eid_schemes_5.T1.2 eid_schemes_5.B1 = true := by kernel_rfl
set_option maxHeartbeats 8000000 in
set_option maxRecDepth 100000 in
theorem eid_schemes_5.calls (a0_0 : Int) (a0_1 : ByteArray) (a0_2 : ByteArray) (a0_3 : Int) (a0_4 : Int) (r : ByteArray) (w : World) (hLd : Laid w) (h : eid_schemes_5.f a0_0 a0_1 a0_2 a0_3 a0_4 = some r) :
    Calls Tryz.prog 57 #[.agg #[.int .i64 a0_0, .string a0_1, .string a0_2, .int .i64 a0_3, .int .i64 a0_4]] w fun e w' => e = .returned (.string r) ∧ Below w.heap.size w w' := by
  have hu41 := Tryz.underlying41
  have HLD := Aside0.mk hLd
  clear hLd
  have HB := Aside0.mk (Below.refl w.heap.size w)
  have H : ((strconv_Itoa.f a0_3).bind fun t102 => (if t102.size + 1 ≤ 9223372036854775807 then ((strconv_Itoa.f a0_4).bind fun t103 => (if t102.size + 1 + t103.size ≤ 9223372036854775807 then (some ((t102 ++ (⟨#[46]⟩ : ByteArray)) ++ t103)) else (none))) else (none))) = some r := h
  clear h
  replace H := Option.bind_eq_some_iff.mp H
  obtain ⟨t102, A20, H⟩ := H
  replace H : (if t102.size + 1 ≤ 9223372036854775807 then ((strconv_Itoa.f a0_4).bind fun t103 => (if t102.size + 1 + t103.size ≤ 9223372036854775807 then (some ((t102 ++ (⟨#[46]⟩ : ByteArray)) ++ t103)) else (none))) else (none)) = some r := H
  have A2 := Aside0.mk A20
  clear A20
  by_cases c3 : t102.size + 1 ≤ 9223372036854775807
  · rw [if_pos c3] at H
    have c3b0 := eq_true c3
    have c3b1 : decide (t102.size + 1 ≤ 9223372036854775807) = true := decide_eq_true c3
    try have c3b2 : (9223372036854775807 < t102.size + 1) = False := eq_false (Nat.not_lt.2 c3)
    replace H := Option.bind_eq_some_iff.mp H
    obtain ⟨t103, A40, H⟩ := H
    replace H : (if t102.size + 1 + t103.size ≤ 9223372036854775807 then (some ((t102 ++ (⟨#[46]⟩ : ByteArray)) ++ t103)) else (none)) = some r := H
    have A4 := Aside0.mk A40
    clear A40
    by_cases c5 : t102.size + 1 + t103.size ≤ 9223372036854775807
    · rw [if_pos c5] at H
      have c5b0 := eq_true c5
      have c5b1 : decide (t102.size + 1 + t103.size ≤ 9223372036854775807) = true := decide_eq_true c5
      try have c5b2 : (9223372036854775807 < t102.size + 1 + t103.size) = False := eq_false (Nat.not_lt.2 c5)
      obtain rfl := Option.some.inj H
      go_enter Tryz.func57, Tryz.ntmps57
      try go_wp2_with (first | ((with_reducible refine gate_dst (N := 1) rfl ?_); refine box_event ?hg (N := 1) ?hd (cs := #[.int .i64 a0_0, .string a0_1, .string a0_2, .int .i64 a0_3, .int .i64 a0_4]) (t := 41) ?hr ?_; (case hd => rfl); (case hg => rfl); (case hr => first | (go_simp; done) | (go_simp; rfl) | (go_simp; simp only [isEmpty_ne, isEmpty_eq]; done) | (go_simp; simp only [isEmpty_ne, isEmpty_eq]; rfl)); intro gb101 hg w6 hbox hb; have n0_ := Aside0.mk (below_step (by repeat (first | (with_reducible first | exact HB.out | apply below_alloc | apply pw_below_drewN | apply below_drew1) | exact HB.out)) hb); have n1_ := Aside0.mk (hbox); have n2_ := Aside0.mk ((by rw [hg]; exact (below_size (by repeat (first | (with_reducible first | exact HB.out | apply below_alloc | apply pw_below_drewN | apply below_drew1) | exact HB.out))) : w.heap.size ≤ gb101)); have n3_ := Aside0.mk ((by rw [hg]; exact (below_size (by repeat (first | (with_reducible first | exact HB.out | apply below_alloc | apply pw_below_drewN | apply below_drew1) | exact HB.out))) : w.heap.size ≤ gb101)); clear HB; have HB := n0_; have BK101 := n1_; have GW101 := n2_; have GE101 := n3_; clear n0_ n1_ n2_ n3_; clear hb hbox hg))
      have n0_ := Aside0.mk (blk_drew BK101.out)
      have n1_ := Aside0.mk (below_drew1 HB.out)
      clear BK101
      clear HB
      have BK101 := n0_
      have HB := n1_
      clear n0_ n1_
      refine start_ (n := 9) (S := fun w' => w'.cell? ⟨gb101, 0, none⟩ = some (.int .i64 a0_0) ∧ w'.cell? ⟨gb101, 1, none⟩ = some (.string a0_1) ∧ w'.cell? ⟨gb101, 2, none⟩ = some (.string a0_2) ∧ w'.cell? ⟨gb101, 3, none⟩ = some (.int .i64 a0_3) ∧ w'.cell? ⟨gb101, 4, none⟩ = some (.int .i64 a0_4)) (ds := []) #[false, false, false, false, false, false, false, false, false] (by kernel_rfl) rfl rfl ⟨(blk_cell BK101.out 0).trans rfl, (blk_cell BK101.out 1).trans rfl, (blk_cell BK101.out 2).trans rfl, (blk_cell BK101.out 3).trans rfl, (blk_cell BK101.out 4).trans rfl⟩ (fun hHeld => ?_); refine with_tabW eid_schemes_5.tab1 eid_schemes_5.bits1 (fun HT_ HW_ => ?_)
      generalize w6.drew = w7 at BK101 HB hHeld ⊢
      refine pure_ (i := 0) (N := some 3) (v := ?_) (a' := ?_) #[true, false, false, false, false, false, false, false, false] rfl rfl (any_of HT_.out (by kernel_rfl)) (fun _ _ _ h => h) (Or.inl ⟨by rfl, ?_⟩) ?_ ?_
      rotate_left
      · intro w'
        go_simp
        with_reducible rfl
      rotate_left
      · simp only [Act.put, List.setIfInBounds_toArray, List.set_cons_zero, List.set_cons_succ, i64_w, i32_w]
        rfl
      refine pure_ (i := 4) (N := some 7) (v := ?_) (a' := ?_) #[true, false, false, false, true, false, false, false, false] rfl rfl (any_of HT_.out (by kernel_rfl)) (fun _ _ _ h => h) (Or.inl ⟨by rfl, ?_⟩) ?_ ?_
      rotate_left
      · intro w'
        go_simp
        with_reducible rfl
      rotate_left
      · simp only [Act.put, List.setIfInBounds_toArray, List.set_cons_zero, List.set_cons_succ, i64_w, i32_w]
        rfl
      refine take_ (i := 1) (N := some 4) (v := ?_) (a' := ?_) #[true, true, false, false, true, false, false, false, false] rfl rfl (take_ofW HT_.out HW_.out (by kernel_rfl)) (fun _ _ _ h => h) (Or.inl ⟨by rfl, ?_⟩) hHeld ?_ ?_
      rotate_left
      · rintro w' ⟨s0, s1, s2, s3, s4⟩
        go_simp
        with_reducible rfl
      rotate_left
      · simp only [Act.put, List.setIfInBounds_toArray, List.set_cons_zero, List.set_cons_succ, i64_w, i32_w]
        rfl
      refine take_ (i := 5) (N := some 8) (v := ?_) (a' := ?_) #[true, true, false, false, true, true, false, false, false] rfl rfl (take_ofW HT_.out HW_.out (by kernel_rfl)) (fun _ _ _ h => h) (Or.inl ⟨by rfl, ?_⟩) hHeld ?_ ?_
      rotate_left
      · rintro w' ⟨s0, s1, s2, s3, s4⟩
        go_simp
        with_reducible rfl
      rotate_left
      · simp only [Act.put, List.setIfInBounds_toArray, List.set_cons_zero, List.set_cons_succ, i64_w, i32_w]
        rfl
      refine one_ (i := 2) (N := some 5) #[true, true, true, false, true, true, false, false, false] rfl rfl (one_of HT_.out (by kernel_rfl)) (by decide) (fun K hK => ?_)
      refine goes_ Tryz.func58 (by kernel_rfl) rfl #[.int .i64 a0_3] (by rfl) rfl rfl (by (try simp only [List.map_toArray, List.map_cons, List.map_nil]); first | done | rfl | (simp only [List.length_drop, List.length_take]; rfl)) ?_
      with_reducible refine (strconv_Itoa.calls a0_3 t102 _ ?side1 A2.out).mono ?_
      (case side1 => exact Laid.below HLD.out (by repeat (first | (with_reducible first | exact HB.out | apply below_alloc | apply pw_below_drewN | apply below_drew1 | refine below_set ?_ GE101.out) | exact HB.out)))
      rintro e w8 ⟨rfl, hb⟩
      refine ⟨_, rfl, ?_⟩
      have n0_ := Aside0.mk (blk_below (g := gb101) (o := .cells #[.int .i64 a0_0, .string a0_1, .string a0_2, .int .i64 a0_3, .int .i64 a0_4] 41 (0, 0)) (by (with_reducible repeat (first | refine blk_drewN ?_ _ | refine blk_drew ?_ | refine blk_alloc ?_ _)); exact BK101.out) hb)
      have n1_ := Aside0.mk (below_step (by repeat (first | (with_reducible first | exact HB.out | apply below_alloc | apply pw_below_drewN | apply below_drew1 | refine below_set ?_ GE101.out) | exact HB.out)) hb)
      clear BK101
      clear HB
      have BK101 := n0_
      have HB := n1_
      clear n0_ n1_
      (try clear hb)
      (try clear hb2)
      (try clear hk)
      (try clear hi)
      refine hK.out _ _ ⟨(blk_cell BK101.out 0).trans rfl, (blk_cell BK101.out 1).trans rfl, (blk_cell BK101.out 2).trans rfl, (blk_cell BK101.out 3).trans rfl, (blk_cell BK101.out 4).trans rfl⟩ (fun hHeld => ?_)
      clear hK K
      refine norm_ (a' := ?_) ?_ ?_
      rotate_left
      · show Act.put _ (some 5) _ = _
        simp only [Act.put, List.setIfInBounds_toArray, List.set_cons_zero, List.set_cons_succ, i64_w, i32_w]
        rfl
      refine pure_ (i := 3) (N := some 6) (v := ?_) (a' := ?_) #[true, true, true, true, true, true, false, false, false] rfl rfl (any_of HT_.out (by kernel_rfl)) (fun _ _ _ h => h) (Or.inl ⟨by rfl, ?_⟩) ?_ ?_
      rotate_left
      · intro w'
        go_simp
        with_reducible rfl
      rotate_left
      · simp only [Act.put, List.setIfInBounds_toArray, List.set_cons_zero, List.set_cons_succ, i64_w, i32_w]
        rfl
      refine one_ (i := 6) (N := some 9) #[true, true, true, true, true, true, true, false, false] rfl rfl (one_of HT_.out (by kernel_rfl)) (by decide) (fun K hK => ?_)
      refine goes_ Tryz.func58 (by kernel_rfl) rfl #[.int .i64 a0_4] (by rfl) rfl rfl (by (try simp only [List.map_toArray, List.map_cons, List.map_nil]); first | done | rfl | (simp only [List.length_drop, List.length_take]; rfl)) ?_
      with_reducible refine (strconv_Itoa.calls a0_4 t103 _ ?side1 A4.out).mono ?_
      (case side1 => exact Laid.below HLD.out (by repeat (first | (with_reducible first | exact HB.out | apply below_alloc | apply pw_below_drewN | apply below_drew1 | refine below_set ?_ GE101.out) | exact HB.out)))
      rintro e w9 ⟨rfl, hb⟩
      refine ⟨_, rfl, ?_⟩
      have n0_ := Aside0.mk (blk_below (g := gb101) (o := .cells #[.int .i64 a0_0, .string a0_1, .string a0_2, .int .i64 a0_3, .int .i64 a0_4] 41 (0, 0)) (by (with_reducible repeat (first | refine blk_drewN ?_ _ | refine blk_drew ?_ | refine blk_alloc ?_ _)); exact BK101.out) hb)
      have n1_ := Aside0.mk (below_step (by repeat (first | (with_reducible first | exact HB.out | apply below_alloc | apply pw_below_drewN | apply below_drew1 | refine below_set ?_ GE101.out) | exact HB.out)) hb)
      clear BK101
      clear HB
      have BK101 := n0_
      have HB := n1_
      clear n0_ n1_
      (try clear hb)
      (try clear hb2)
      (try clear hk)
      (try clear hi)
      refine hK.out _ _ ⟨(blk_cell BK101.out 0).trans rfl, (blk_cell BK101.out 1).trans rfl, (blk_cell BK101.out 2).trans rfl, (blk_cell BK101.out 3).trans rfl, (blk_cell BK101.out 4).trans rfl⟩ (fun hHeld => ?_)
      clear hK K
      refine norm_ (a' := ?_) ?_ ?_
      rotate_left
      · show Act.put _ (some 9) _ = _
        simp only [Act.put, List.setIfInBounds_toArray, List.set_cons_zero, List.set_cons_succ, i64_w, i32_w]
        rfl
      refine pure_ (i := 7) (N := some 10) (v := ?_) (a' := ?_) #[true, true, true, true, true, true, true, true, false] rfl rfl (any_of HT_.out (by kernel_rfl)) (fun _ _ _ h => h) (Or.inl ⟨by rfl, ?_⟩) ?_ ?_
      rotate_left
      · intro w'
        go_simp
        with_reducible rfl
      rotate_left
      · simp only [Act.put, List.setIfInBounds_toArray, List.set_cons_zero, List.set_cons_succ, i64_w, i32_w]
        rfl
      refine pure_ (i := 8) (N := some 2) (v := ?_) (a' := ?_) #[true, true, true, true, true, true, true, true, true] rfl rfl (any_of HT_.out (by kernel_rfl)) (fun _ _ _ h => h) (Or.inl ⟨by rfl, ?_⟩) ?_ ?_
      rotate_left
      · intro w'
        go_simp
        with_reducible rfl
      rotate_left
      · simp only [Act.put, List.setIfInBounds_toArray, List.set_cons_zero, List.set_cons_succ, i64_w, i32_w]
        rfl
      refine done_ (done_of HT_.out (by kernel_rfl)) ?_
      try go_wp2
      all_goals (first | (go_ret; exact ⟨by first | rfl | (simp [errW_none, errW_some] <;> rfl) | (simp [*, errW_none, errW_some] <;> rfl) | (simp_all; done), by repeat (first | (with_reducible first | exact HB.out | apply below_alloc | apply pw_below_drewN | apply below_drew1 | refine below_set ?_ GE101.out) | exact HB.out)⟩) | (exfalso; simp_all; done))
    · rw [if_neg c5] at H
      exact absurd H (by simp)
  · rw [if_neg c3] at H
    exact absurd H (by simp)
def eid_schemes_4.f (a0_0 : Int) (a0_1 : ByteArray) (a0_2 : ByteArray) (a0_3 : Int) (a0_4 : Int) : Option (ByteArray) := if 2 + a0_1.size ≤ 9223372036854775807 then (if 2 + a0_1.size + 1 ≤ 9223372036854775807 then (if 2 + a0_1.size + 1 + a0_2.size ≤ 9223372036854775807 then (some ((((⟨#[47, 47]⟩ : ByteArray) ++ a0_1) ++ (⟨#[47]⟩ : ByteArray)) ++ a0_2)) else (none)) else (none)) else (none)
set_option maxHeartbeats 8000000 in
set_option maxRecDepth 100000 in
theorem eid_schemes_4.calls (a0_0 : Int) (a0_1 : ByteArray) (a0_2 : ByteArray) (a0_3 : Int) (a0_4 : Int) (r : ByteArray) (w : World) (h : eid_schemes_4.f a0_0 a0_1 a0_2 a0_3 a0_4 = some r) :
    Calls Tryz.prog 54 #[.agg #[.int .i64 a0_0, .string a0_1, .string a0_2, .int .i64 a0_3, .int .i64 a0_4]] w fun e w' => e = .returned (.string r) ∧ Below w.heap.size w w' := by
  have hu41 := Tryz.underlying41
  have HB := Aside0.mk (Below.refl w.heap.size w)
  have H : (if 2 + a0_1.size ≤ 9223372036854775807 then (if 2 + a0_1.size + 1 ≤ 9223372036854775807 then (if 2 + a0_1.size + 1 + a0_2.size ≤ 9223372036854775807 then (some ((((⟨#[47, 47]⟩ : ByteArray) ++ a0_1) ++ (⟨#[47]⟩ : ByteArray)) ++ a0_2)) else (none)) else (none)) else (none)) = some r := h
  clear h
  by_cases c2 : 2 + a0_1.size ≤ 9223372036854775807
  · rw [if_pos c2] at H
    have c2b0 := eq_true c2
    have c2b1 : decide (2 + a0_1.size ≤ 9223372036854775807) = true := decide_eq_true c2
    try have c2b2 : (9223372036854775807 < 2 + a0_1.size) = False := eq_false (Nat.not_lt.2 c2)
    by_cases c3 : 2 + a0_1.size + 1 ≤ 9223372036854775807
    · rw [if_pos c3] at H
      have c3b0 := eq_true c3
      have c3b1 : decide (2 + a0_1.size + 1 ≤ 9223372036854775807) = true := decide_eq_true c3
      try have c3b2 : (9223372036854775807 < 2 + a0_1.size + 1) = False := eq_false (Nat.not_lt.2 c3)
      by_cases c4 : 2 + a0_1.size + 1 + a0_2.size ≤ 9223372036854775807
      · rw [if_pos c4] at H
        have c4b0 := eq_true c4
        have c4b1 : decide (2 + a0_1.size + 1 + a0_2.size ≤ 9223372036854775807) = true := decide_eq_true c4
        try have c4b2 : (9223372036854775807 < 2 + a0_1.size + 1 + a0_2.size) = False := eq_false (Nat.not_lt.2 c4)
        obtain rfl := Option.some.inj H
        go_enter Tryz.func54, Tryz.ntmps54
        go_wp2_with (first | ((with_reducible refine gate_dst (N := 1) rfl ?_); refine box_event ?hg (N := 1) ?hd (cs := #[.int .i64 a0_0, .string a0_1, .string a0_2, .int .i64 a0_3, .int .i64 a0_4]) (t := 41) ?hr ?_; (case hd => rfl); (case hg => rfl); (case hr => first | (go_simp; done) | (go_simp; rfl) | (go_simp; simp only [isEmpty_ne, isEmpty_eq]; done) | (go_simp; simp only [isEmpty_ne, isEmpty_eq]; rfl)); intro gb104 hg w5 hbox hb; have n0_ := Aside0.mk (below_step (by repeat (first | (with_reducible first | exact HB.out | apply below_alloc | apply pw_below_drewN | apply below_drew1) | exact HB.out)) hb); have n1_ := Aside0.mk (hbox); have n2_ := Aside0.mk ((by rw [hg]; exact (below_size (by repeat (first | (with_reducible first | exact HB.out | apply below_alloc | apply pw_below_drewN | apply below_drew1) | exact HB.out))) : w.heap.size ≤ gb104)); have n3_ := Aside0.mk ((by rw [hg]; exact (below_size (by repeat (first | (with_reducible first | exact HB.out | apply below_alloc | apply pw_below_drewN | apply below_drew1) | exact HB.out))) : w.heap.size ≤ gb104)); clear HB; have HB := n0_; have BK104 := n1_; have GW104 := n2_; have GE104 := n3_; clear n0_ n1_ n2_ n3_; clear hb hbox hg; have hcz6_0 : w5.cell? ⟨gb104, 0, none⟩ = some (.int .i64 a0_0) := (blk_cell BK104.out 0).trans rfl; have hcz6_1 : w5.cell? ⟨gb104, 1, none⟩ = some (.string a0_1) := (blk_cell BK104.out 1).trans rfl; have hcz6_2 : w5.cell? ⟨gb104, 2, none⟩ = some (.string a0_2) := (blk_cell BK104.out 2).trans rfl; have hcz6_3 : w5.cell? ⟨gb104, 3, none⟩ = some (.int .i64 a0_3) := (blk_cell BK104.out 3).trans rfl; have hcz6_4 : w5.cell? ⟨gb104, 4, none⟩ = some (.int .i64 a0_4) := (blk_cell BK104.out 4).trans rfl; have hfz6_0 := blk_frozen BK104.out 0; have hfz6_1 := blk_frozen BK104.out 1; have hfz6_2 := blk_frozen BK104.out 2; have hfz6_3 := blk_frozen BK104.out 3; have hfz6_4 := blk_frozen BK104.out 4))
        all_goals (first | (go_ret; exact ⟨by first | rfl | (simp [errW_none, errW_some] <;> rfl) | (simp [*, errW_none, errW_some] <;> rfl) | (simp_all; done), by repeat (first | (with_reducible first | exact HB.out | apply below_alloc | apply pw_below_drewN | apply below_drew1 | refine below_set ?_ GE104.out) | exact HB.out)⟩) | (exfalso; simp_all; done))
      · rw [if_neg c4] at H
        exact absurd H (by simp)
    · rw [if_neg c3] at H
      exact absurd H (by simp)
  · rw [if_neg c2] at H
    exact absurd H (by simp)
end Go.Proofs.YtbjbicaffblchaaGreatDoor.SB
end
section
namespace Go.Proofs.YtbjbicaffblchaaGreatDoor.Hand
open Go.RowKit Go.Proofs.YtbjbicaffblchaaGreatDoor.SA Go.Proofs.YtbjbicaffblchaaGreatDoor.SB
set_option maxRecDepth 100000 in
set_option maxHeartbeats 1000000 in
theorem halves_no (n : Int) (a0_1 a0_2 : ByteArray) (a0_3 a0_4 : Int) (w : World) (hr : eid_Right.f n a0_1 a0_2 a0_3 a0_4 = some false) :
    Calls Tryz.prog 22 #[.agg #[.int .i64 n, .string a0_1, .string a0_2, .int .i64 a0_3, .int .i64 a0_4]] w fun e w' => e = .returned (.tuple #[.string ⟨#[]⟩, .string ⟨#[]⟩, .int .i64 60]) ∧ Below w.heap.size w w' := by
  have hu := Tryz.underlying41
  have HR := Lib.hid hr
  clear hr
  go_enter Tryz.func22, Tryz.ntmps22
  go_wp2_with (first | (go_at_call 36; refine (eid_Right.calls _ _ _ _ _ _ _ HR.out).mono ?_; rintro e w2 ⟨rfl, hb2⟩))
  go_ret3
  exact ⟨rfl, (b_alloc (Below.refl _ _) _).trans (hb2.mono (by simp))⟩
set_option maxRecDepth 100000 in
set_option maxHeartbeats 4000000 in
theorem halves_some (n : Int) (a0_1 a0_2 : ByteArray) (a0_3 a0_4 : Int) (wd rs : ByteArray) (i j k : Nat) (hs : schAt n = some (schOf wd i j k)) (hent : ∀ args w, (callFunc j args).run Tryz.prog w = .ok (.enter j args) w)
    (hcall : ∀ W : World, Laid W → Calls Tryz.prog j #[.agg #[.int .i64 n, .string a0_1, .string a0_2, .int .i64 a0_3, .int .i64 a0_4]] W fun e w' => e = .returned (.string rs) ∧ Below W.heap.size W w') (w : World) (hL : Laid w) (hr : eid_Right.f n a0_1 a0_2 a0_3 a0_4 = some true) :
    Calls Tryz.prog 22 #[.agg #[.int .i64 n, .string a0_1, .string a0_2, .int .i64 a0_3, .int .i64 a0_4]] w fun e w' => e = .returned (.tuple #[.string wd, .string rs, .int .i64 0]) ∧ Below w.heap.size w w' := by
  have hu := Tryz.underlying41
  have hus := Tryz.underlying77
  have HC := Lib.hid hcall
  have HL := Lib.hid hL
  have HR := Lib.hid hr
  have HLK := Lib.hid (look_some hs false)
  clear hs hcall hL hr
  go_enter Tryz.func22, Tryz.ntmps22
  go_wp2_with fail
  obtain ⟨w0, hw0⟩ : ∃ w0, w0 = w.alloc (.cells #[.int .i64 n, .string a0_1, .string a0_2, .int .i64 a0_3, .int .i64 a0_4] 41) := ⟨_, rfl⟩
  have hB0 : Below w.heap.size w w0 := by rw [hw0]; exact (Below.refl _ _).alloc (Nat.le_refl _) _
  have hb0 : w0.heap[w.heap.size]? = some (.cells #[.int .i64 n, .string a0_1, .string a0_2, .int .i64 a0_3, .int .i64 a0_4] 41) := by rw [hw0]; exact World.alloc_heap_new _ _
  have hlt0 : w.heap.size < w0.heap.size := by rw [hw0]; simp
  rw [← hw0]
  clear hw0
  refine (eid_Right.calls _ _ _ _ _ _ _ HR.out).mono ?_
  rintro e w1 ⟨rfl, hb1⟩
  have hB : Below w.heap.size w w1 := hB0.trans (hb1.mono hB0.size)
  have hb0' := (hb1.block _ hlt0).trans hb0
  have hlt : w.heap.size < w1.heap.size := Nat.lt_of_lt_of_le hlt0 hb1.size
  clear hB0 hb1 hb0 hlt0
  have hc0 : w1.cell? ⟨w.heap.size, 0, none⟩ = some (.int .i64 n) := (cell_blk hb0' 0).trans rfl
  have hcA : ∀ o, (w1.alloc o).cell? ⟨w.heap.size, 0, none⟩ = some (.int .i64 n) := fun o => by rw [World.cell?_alloc_past _ _ _ hlt]; exact hc0
  have hcB : ∀ o o', ((w1.alloc o).alloc o').cell? ⟨w.heap.size, 0, none⟩ = some (.int .i64 n) := fun o o' => by rw [World.cell?_alloc_past _ _ _ (by simp; omega)]; exact hcA o
  have hl1 : (Instr.lookup 78 (.map (some w1.heap.size)) (.int .i64 n) false).run Tryz.prog (w1.alloc (.map schs 3)).drew = .ok (schOf wd i j k) (w1.alloc (.map schs 3)).drew := HLK.out _ _ (World.alloc_heap_new _ _)
  have hl2 : ∀ o, (Instr.lookup 78 (.map (some w1.heap.size)) (.int .i64 n) false).run Tryz.prog ((w1.alloc (.map schs 3)).alloc o).drew = .ok (schOf wd i j k) ((w1.alloc (.map schs 3)).alloc o).drew := fun o => HLK.out _ _ ((Below.heap_alloc _ _ _ (by simp)).trans (World.alloc_heap_new _ _))
  have hl3 : ∀ o, (Instr.lookup 78 (.map (some (w1.heap.size + 1))) (.int .i64 n) false).run Tryz.prog ((w1.alloc o).alloc (.map schs 3)).drew = .ok (schOf wd i j k) ((w1.alloc o).alloc (.map schs 3)).drew := fun o => HLK.out _ _ (by have := World.alloc_heap_new (w1.alloc o) (.map schs 3); rwa [World.size_alloc] at this)
  simp only [schOf] at hl1 hl2 hl3
  go_wp2_with fail
  go_upto_region 4 with (fail)
  go_cut [5, 9, 10, 11, 12] (fun s5 _ _ _ _ wc => ∃ g : Nat, w1.heap.size ≤ g ∧ g < wc.heap.size ∧ s5 = .pointer (some ⟨g, 0, none⟩) ∧ wc.cell? ⟨g, 0, none⟩ = some (.string wd) ∧ wc.cell? ⟨g, 2, none⟩ = some (.func (.func j) #[] #[]) ∧ Below w1.heap.size w1 wc)
  case first =>
    go_region_with (go_at_call 37; refine (schemes_calls _).mono ?_; rintro e w' ⟨rfl, rfl⟩)
    all_goals go_wp2
    all_goals go_meet
    all_goals (case rel => exact ⟨_, by first | exact Nat.le_refl _ | exact Nat.le_succ _, by first | (simp; done) | (simp; omega), rfl, by first | rfl | (simp; done), by first | rfl | (simp; done), by repeat (first | exact Below.refl _ _ | apply b_alloc | apply Below.drew)⟩)
  case rest =>
    obtain ⟨g, hg, hglt, rfl, hg0, hg2, hbw⟩ := hcut
    have hz := (hbw.block _ hlt).trans hb0'
    have z0 := cell_blk hz 0
    have z1 := cell_blk hz 1
    have z2 := cell_blk hz 2
    have z3 := cell_blk hz 3
    have z4 := cell_blk hz 4
    simp at z0 z1 z2 z3 z4
    have hltw : w.heap.size < wc.heap.size := Nat.lt_of_lt_of_le hlt hbw.size
    clear hcA hcB hc0 hb0' hl1 hl2 hl3 hz hlt
    go_wp2_with fail
    go_region_with (first | ((with_reducible refine (HC.out _ (HL.out.below (hB.trans ((hbw.drew).mono hB.size)))).mono ?_); rintro e w2 ⟨rfl, hb2⟩; have y0 : w2.cell? ⟨g, 0, none⟩ = some (.string wd) := (hb2.cell (p := ⟨g, 0, none⟩) hglt).trans hg0; have HB2 := Lib.hid hb2; clear hb2))
    all_goals go_wp2
    all_goals go_ret3
    all_goals exact ⟨rfl, hB.trans (((hbw.drew).trans (HB2.out.mono hbw.size)).mono hB.size)⟩
end Go.Proofs.YtbjbicaffblchaaGreatDoor.Hand
end
section
namespace Go.Proofs.YtbjbicaffblchaaGreatDoor.Hand
open Go.RowKit Go.Proofs.YtbjbicaffblchaaGreatDoor.SA Go.Proofs.YtbjbicaffblchaaGreatDoor.SB
def wDtn : ByteArray := ⟨#[100, 116, 110]⟩
def wIpn : ByteArray := ⟨#[105, 112, 110]⟩
def wNone : ByteArray := ⟨#[110, 111, 110, 101]⟩
def restDtn (a1 a2 : ByteArray) : ByteArray := (((⟨#[47, 47]⟩ : ByteArray) ++ a1) ++ (⟨#[47]⟩ : ByteArray)) ++ a2
def restIpn (a3 a4 : Int) : ByteArray := (txt (Lib.itoa a3) ++ (⟨#[46]⟩ : ByteArray)) ++ txt (Lib.itoa a4)
def restS (n : Int) (a1 a2 : ByteArray) (a3 a4 : Int) : ByteArray := if n = 0 then wNone else if n = 1 then restDtn a1 a2 else restIpn a3 a4
def wordS (n : Int) : ByteArray := if n = 2 then wIpn else wDtn
def halvesS (n : Int) (a1 a2 : ByteArray) (a3 a4 : Int) : ByteArray × ByteArray × Int :=
  if rightS n a1 a2 a3 a4 = true then (wordS n, restS n a1 a2 a3 a4, 0) else (⟨#[]⟩, ⟨#[]⟩, 60)
theorem partS_size {s signs : ByteArray} (h : partS s signs = true) : s.size ≤ 20 := by
  unfold partS at h
  simp only [Bool.and_eq_true, decide_eq_true_eq] at h
  exact h.2
theorem right_dtn {a1 a2 : ByteArray} {a3 a4 : Int} (h : rightS 1 a1 a2 a3 a4 = true) : a1.toList ≠ [] ∧ partS a1 ⟨#[45, 46]⟩ = true ∧ partS a2 ⟨#[45, 46, 47]⟩ = true ∧ a3 = 0 ∧ a4 = 0 := by
  unfold rightS at h
  rw [if_neg (by decide), if_pos rfl] at h
  simpa [Bool.and_eq_true] using h
theorem right_ipn {a1 a2 : ByteArray} {a3 a4 : Int} (h : rightS 2 a1 a2 a3 a4 = true) : a1.toList = [] ∧ a2.toList = [] ∧ 1 ≤ a3 ∧ a3 ≤ 999999999 ∧ 0 ≤ a4 ∧ a4 ≤ 999999999 := by
  unfold rightS at h
  rw [if_neg (by decide), if_neg (by decide), if_pos rfl] at h
  simpa [Bool.and_eq_true] using h
theorem right_scheme {n : Int} {a1 a2 : ByteArray} {a3 a4 : Int} (h : rightS n a1 a2 a3 a4 = true) : n = 0 ∨ n = 1 ∨ n = 2 := by
  unfold rightS at h
  by_cases e0 : n = 0
  · exact .inl e0
  by_cases e1 : n = 1
  · exact .inr (.inl e1)
  by_cases e2 : n = 2
  · exact .inr (.inr e2)
  rw [if_neg e0, if_neg e1, if_neg e2] at h
  cases h
theorem txt_size (l : List UInt8) : (txt l).size = l.length := by simp [txt, ByteArray.size]
theorem itoa_short (n : Int) (h0 : 0 ≤ n) (h1 : n ≤ 9223372036854775807) : (txt (Lib.itoa n)).size ≤ 21 := by
  rw [txt_size]; exact Lib.itoa_length_le n (by omega) h1
def eid_Halves.f (a0_0 : Int) (a0_1 a0_2 : ByteArray) (a0_3 a0_4 : Int) : Option (ByteArray × ByteArray × Int) :=
  if a0_1.size ≤ maxLen ∧ a0_2.size ≤ maxLen then some (halvesS a0_0 a0_1 a0_2 a0_3 a0_4) else none
theorem eid_Halves.calls (a0_0 : Int) (a0_1 a0_2 : ByteArray) (a0_3 a0_4 : Int) (r1 r2 : ByteArray) (r3 : Int) (w : World) (hLd : Laid w) (h : eid_Halves.f a0_0 a0_1 a0_2 a0_3 a0_4 = some (r1, r2, r3)) :
    Calls Tryz.prog 22 #[.agg #[.int .i64 a0_0, .string a0_1, .string a0_2, .int .i64 a0_3, .int .i64 a0_4]] w fun e w' => e = .returned (.tuple #[.string r1, .string r2, .int .i64 r3]) ∧ Below w.heap.size w w' := by
  unfold eid_Halves.f at h
  split at h
  case isFalse => cases h
  rename_i hc
  obtain ⟨h1, h2⟩ := hc
  unfold halvesS at h
  have hR : eid_Right.f a0_0 a0_1 a0_2 a0_3 a0_4 = some (rightS a0_0 a0_1 a0_2 a0_3 a0_4) := by unfold eid_Right.f; rw [if_pos ⟨h1, h2⟩]
  cases hr : rightS a0_0 a0_1 a0_2 a0_3 a0_4 with
  | false =>
    rw [hr, if_neg (by decide)] at h
    simp only [Option.some.injEq, Prod.mk.injEq] at h
    obtain ⟨rfl, rfl, rfl⟩ := h
    exact halves_no a0_0 a0_1 a0_2 a0_3 a0_4 w (by rw [hR, hr])
  | true =>
    rw [hr, if_pos rfl] at h
    simp only [Option.some.injEq, Prod.mk.injEq] at h
    obtain ⟨rfl, rfl, rfl⟩ := h
    rcases right_scheme hr with rfl | rfl | rfl
    · exact halves_some 0 a0_1 a0_2 a0_3 a0_4 wDtn wNone _ _ _ (by rw [schAt, if_pos rfl]; rfl) (Go.Proofs.enters_of Tryz.func51 (by kernel_rfl) rfl)
        (fun W _ => eid_schemes_2.calls 0 a0_1 a0_2 a0_3 a0_4 _ W rfl) w hLd (by rw [hR, hr])
    · obtain ⟨_, p1, p2, _, _⟩ := right_dtn hr
      have s1 := partS_size p1
      have s2 := partS_size p2
      refine halves_some 1 a0_1 a0_2 a0_3 a0_4 wDtn (restDtn a0_1 a0_2) _ _ _ (by rw [schAt, if_neg (by decide), if_pos rfl]; rfl) (Go.Proofs.enters_of Tryz.func54 (by kernel_rfl) rfl)
        (fun W _ => eid_schemes_4.calls 1 a0_1 a0_2 a0_3 a0_4 _ W ?_) w hLd (by rw [hR, hr])
      unfold eid_schemes_4.f
      rw [if_pos (by omega), if_pos (by omega), if_pos (by omega)]
      rfl
    · obtain ⟨_, _, p3, p4, p5, p6⟩ := right_ipn hr
      have s1 := itoa_short a0_3 (by omega) (by omega)
      have s2 := itoa_short a0_4 (by omega) (by omega)
      refine halves_some 2 a0_1 a0_2 a0_3 a0_4 wIpn (restIpn a0_3 a0_4) _ _ _ (by rw [schAt, if_neg (by decide), if_neg (by decide), if_pos rfl]; rfl) (Go.Proofs.enters_of Tryz.func57 (by kernel_rfl) rfl)
        (fun W hW => eid_schemes_5.calls 2 a0_1 a0_2 a0_3 a0_4 _ W hW ?_) w hLd (by rw [hR, hr])
      unfold eid_schemes_5.f strconv_Itoa.f
      rw [if_pos (by omega), if_pos (by omega)]
      simp only [Option.bind_some]
      rw [if_pos (by omega), if_pos (by omega)]
      rfl
end Go.Proofs.YtbjbicaffblchaaGreatDoor.Hand
end
section
namespace Go.Proofs.YtbjbicaffblchaaGreatDoor.Hand
open Go.RowKit Go.Proofs.YtbjbicaffblchaaGreatDoor.SA Go.Proofs.YtbjbicaffblchaaGreatDoor.SB
set_option maxRecDepth 100000 in
theorem parse0_calls (p : Value) (rest : ByteArray) (w : World) :
    Calls Tryz.prog 52 #[p, .string rest] w fun e w' => e = .returned (.tuple #[]) ∧ Below w.heap.size w w' := by
  go_enter Tryz.func52, Tryz.ntmps52
  go_wp2
  go_end0
  exact ⟨rfl, Below.refl _ _⟩
def dtnParts (rest : ByteArray) : ByteArray × ByteArray :=
  ((txt (Lib.cut (Lib.trimPrefix rest.data.toList [47, 47]) [47]).1), txt (Lib.cut (Lib.trimPrefix rest.data.toList [47, 47]) [47]).2.1)
theorem trim_size (l : List UInt8) : (⟨l.toArray⟩ : ByteArray).size = l.length := by simp [ByteArray.size]
theorem trim_le (rest : ByteArray) : (Lib.trimPrefix rest.data.toList [47, 47]).length ≤ rest.size := by
  unfold Lib.trimPrefix
  split
  · simp
  · simp
theorem cut_sizes (l s : List UInt8) : (Lib.cut l s).1.length ≤ l.length ∧ (Lib.cut l s).2.1.length ≤ l.length := by
  unfold Lib.cut
  split <;> simp
  omega
set_option maxRecDepth 100000 in
set_option maxHeartbeats 1000000 in
theorem parse1_calls (b : Nat) (s0 : Int) (n0 v0 : ByteArray) (x0 y0 : Int) (rest : ByteArray) (w : World) (hL : Laid w) (hr : rest.size < 4294967281)
    (hb : w.heap[b]? = some (.cells #[.int .i64 s0, .string n0, .string v0, .int .i64 x0, .int .i64 y0] 110)) :
    Calls Tryz.prog 55 #[.pointer (some ⟨b, 0, none⟩), .string rest] w fun e w' => e = .returned (.tuple #[]) ∧ Below b w w' ∧ w'.heap[b]? = some (.cells #[.int .i64 s0, .string (dtnParts rest).1, .string (dtnParts rest).2, .int .i64 x0, .int .i64 y0] 110) := by
  have hu := Tryz.underlying41
  have hup := Tryz.underlying110
  have HL := Lib.hid hL
  clear hL
  have hlt : b < w.heap.size := (Array.getElem?_eq_some_iff.1 hb).1
  go_enter Tryz.func55, Tryz.ntmps55
  go_wp2_with (fail)
  refine (Tryz.strings_TrimPrefix rest ⟨#[47, 47]⟩ w).mono ?_
  rintro e w' ⟨rfl, hw'⟩
  subst w'
  go_wp2_with (fail)
  refine (strings_Cut.calls _ _ (dtnParts rest).1 (dtnParts rest).2 (Lib.cut (Lib.trimPrefix rest.data.toList [47, 47]) [47]).2.2 _ HL.out ?_).mono ?_
  · unfold strings_Cut.f
    rw [if_pos (by rw [trim_size]; exact Nat.lt_of_le_of_lt (trim_le rest) hr)]
    rfl
  · rintro e w2 ⟨rfl, hb2⟩
    have hb' := (hb2.block b hlt).trans hb
    have hlt2 : b < w2.heap.size := Nat.lt_of_lt_of_le hlt hb2.size
    have c1 := (cell_blk hb' 1).trans rfl
    have c2 := (cell_blk hb' 2).trans rfl
    have f1 := frozen_blk hb' 1
    have f2 := frozen_blk hb' 2
    have HB := Lib.hid hb'
    have HB2 := Lib.hid hb2
    clear hb hb' hb2
    go_wp2
    go_end0
    refine ⟨rfl, ?_, ?_⟩
    · exact ((HB2.out.mono (Nat.le_of_lt hlt)).setCell (p := ⟨b, 1, none⟩) (Nat.le_refl _) _).setCell (p := ⟨b, 2, none⟩) (Nat.le_refl _) _
    · exact YtbjbicaffblchaaGreatDoorW.PrintWords.blk_set (YtbjbicaffblchaaGreatDoorW.PrintWords.blk_set HB.out 1 _) 2 _
def ipnParts (rest : ByteArray) : Int × Int := (atoiNum (Lib.cut rest.data.toList [46]).1, atoiNum (Lib.cut rest.data.toList [46]).2.1)
theorem atoi_txt (l : List UInt8) (w : World) (hL : Laid w) (hs : l.length ≤ 281474976710656) :
    Calls Tryz.prog 71 #[.string (txt l)] w fun e w' => (∃ v, e = .returned (.tuple #[.int .i64 (atoiNum l), v])) ∧ Below w.heap.size w w' := by
  have h := atoi_calls (txt l) w hL (by rw [txt_size]; exact hs)
  simpa [txt] using h
set_option maxRecDepth 100000 in
set_option maxHeartbeats 1000000 in
theorem parse2_calls (b : Nat) (s0 : Int) (n0 v0 : ByteArray) (x0 y0 : Int) (rest : ByteArray) (w : World) (hL : Laid w) (hr : rest.size < 4294967281)
    (hb : w.heap[b]? = some (.cells #[.int .i64 s0, .string n0, .string v0, .int .i64 x0, .int .i64 y0] 110)) (hg : 6 < b) :
    Calls Tryz.prog 59 #[.pointer (some ⟨b, 0, none⟩), .string rest] w fun e w' => e = .returned (.tuple #[]) ∧ Below b w w' ∧ w'.heap[b]? = some (.cells #[.int .i64 s0, .string n0, .string v0, .int .i64 (ipnParts rest).1, .int .i64 (ipnParts rest).2] 110) := by
  have hu := Tryz.underlying41
  have hup := Tryz.underlying110
  have HL := Lib.hid hL
  clear hL
  have hlt : b < w.heap.size := (Array.getElem?_eq_some_iff.1 hb).1
  have hcs := cut_sizes rest.data.toList [46]
  rw [Array.length_toList, show rest.data.size = rest.size from rfl] at hcs
  obtain ⟨hcs1, hcs2⟩ := hcs
  go_enter Tryz.func59, Tryz.ntmps59
  go_wp2_with (fail)
  refine (strings_Cut.calls rest ⟨#[46]⟩ (txt (Lib.cut rest.data.toList [46]).1) (txt (Lib.cut rest.data.toList [46]).2.1) (Lib.cut rest.data.toList [46]).2.2 _ HL.out ?_).mono ?_
  · unfold strings_Cut.f
    rw [if_pos hr]
  · rintro e w2 ⟨rfl, hb2⟩
    have hL2 := HL.out.below hb2
    have hb' := (hb2.block b hlt).trans hb
    have hlt2 : b < w2.heap.size := Nat.lt_of_lt_of_le hlt hb2.size
    have HB := Lib.hid hb'
    have HB2 := Lib.hid hb2
    have HL2 := Lib.hid hL2
    clear hb hb' hb2 hL2
    go_wp2_with (fail)
    refine (atoi_txt _ _ HL2.out (by omega)).mono ?_
    rintro e w3 ⟨⟨v3, rfl⟩, hb3⟩
    have hL3 := HL2.out.below hb3
    have hb' := (hb3.block b hlt2).trans HB.out
    have hlt3 : b < w3.heap.size := Nat.lt_of_lt_of_le hlt2 hb3.size
    have c3 := (cell_blk hb' 3).trans rfl
    have f3 := frozen_blk hb' 3
    have HB' := Lib.hid hb'
    have HB3 := Lib.hid hb3
    have HL3 := Lib.hid hL3
    clear hb' hb3 hL3 HB
    go_wp2_with (fail)
    have hset := YtbjbicaffblchaaGreatDoorW.PrintWords.blk_set HB'.out 3 (.int .i64 (ipnParts rest).1)
    have hbs : Below b w3 (w3.setCell ⟨b, 3, none⟩ (.int .i64 (ipnParts rest).1)) := (Below.refl b w3).setCell (p := ⟨b, 3, none⟩) (Nat.le_refl _) _
    have hL4 := HL3.out.belowAt hbs hg
    obtain ⟨w4, hw4⟩ : ∃ w4, w4 = w3.setCell ⟨b, 3, none⟩ (.int .i64 (ipnParts rest).1) := ⟨_, rfl⟩
    rw [← hw4] at hset hbs hL4
    rw [show w3.setCell ⟨b, 3, none⟩ (.int .i64 (atoiNum (Lib.cut rest.data.toList [46]).1)) = w4 from hw4.symm]
    have hlt4 : b < w4.heap.size := (Array.getElem?_eq_some_iff.1 hset).1
    have HS := Lib.hid hset
    have HBS := Lib.hid hbs
    have HL4 := Lib.hid hL4
    clear hset hbs hL4 hw4 c3 f3
    refine (atoi_txt _ _ HL4.out (by omega)).mono ?_
    rintro e w5 ⟨⟨v5, rfl⟩, hb5⟩
    have hb' := (hb5.block b hlt4).trans HS.out
    have c4 := (cell_blk hb' 4).trans rfl
    have f4 := frozen_blk hb' 4
    have HB'' := Lib.hid hb'
    have HB5 := Lib.hid hb5
    clear hb' hb5
    go_wp2
    go_end0
    refine ⟨rfl, ?_, ?_⟩
    · exact ((((HB2.out.mono (Nat.le_of_lt hlt)).trans (HB3.out.mono (Nat.le_of_lt hlt2))).trans HBS.out).trans (HB5.out.mono (Nat.le_of_lt hlt4))).setCell (p := ⟨b, 4, none⟩) (Nat.le_refl _) _
    · exact YtbjbicaffblchaaGreatDoorW.PrintWords.blk_set HB''.out 4 _
end Go.Proofs.YtbjbicaffblchaaGreatDoor.Hand
end
section
namespace Go.Proofs.YtbjbicaffblchaaGreatDoor.Hand
open Go.RowKit
structure KeptX (X : Nat → Prop) (B0 : Nat) (A B : World) : Prop where
  os : B.os = A.os
  tape : B.tape = A.tape
  output : B.output = A.output
  size : A.heap.size ≤ B.heap.size
  block : ∀ k o, A.heap[k]? = some o → ¬ X k → (k < B0 ∨ o.isCells = true) → B.heap[k]? = some o
structure KeptA (X : Nat → Prop) (A B : World) : Prop where
  os : B.os = A.os
  tape : B.tape = A.tape
  output : B.output = A.output
  size : A.heap.size ≤ B.heap.size
  block : ∀ k o, A.heap[k]? = some o → ¬ X k → B.heap[k]? = some o
theorem KeptA.kx {X : Nat → Prop} {A B : World} (h : KeptA X A B) (B0 : Nat) : KeptX X B0 A B := ⟨h.os, h.tape, h.output, h.size, fun k o hk hx _ => h.block k o hk hx⟩
theorem KeptA.refl (X : Nat → Prop) (A : World) : KeptA X A A := ⟨rfl, rfl, rfl, Nat.le_refl _, fun _ _ h _ => h⟩
theorem KeptA.trans {X : Nat → Prop} {A B C : World} (h : KeptA X A B) (k : KeptA X B C) : KeptA X A C := ⟨k.os.trans h.os, k.tape.trans h.tape, k.output.trans h.output, Nat.le_trans h.size k.size, fun i o hi hx => k.block i o (h.block i o hi hx) hx⟩
theorem KeptA.of_below {X : Nat → Prop} {A B : World} (h : Below A.heap.size A B) : KeptA X A B := ⟨h.os, h.tape, h.output, h.size, fun k o hk _ => by rw [h.block k (Array.getElem?_eq_some_iff.1 hk).1]; exact hk⟩
theorem KeptA.setCell {X : Nat → Prop} {A B : World} (h : KeptA X A B) {p : Addr} (hp : X p.block) (v : Value) : KeptA X A (B.setCell p v) :=
  h.trans ⟨rfl, rfl, rfl, by simp [World.setCell], fun k o hk hx => by rw [Below.heap_setCell B p v k (fun e => hx (by rw [e]; exact hp))]; exact hk⟩
theorem KeptX.below {X : Nat → Prop} {B0 n : Nat} {W0 A B : World} (h : KeptX X B0 A B) (hb : Below n W0 A) (h0 : n ≤ B0) (h1 : n ≤ W0.heap.size) (hx : ∀ k, k < n → ¬ X k) : Below n W0 B :=
  ⟨h.os.trans hb.os, h.tape.trans hb.tape, h.output.trans hb.output, Nat.le_trans hb.size h.size, fun k hk => by
    have hlt : k < W0.heap.size := by omega
    have e : W0.heap[k]? = some W0.heap[k] := Array.getElem?_eq_getElem hlt
    have e2 := (hb.block k hk).trans e
    rw [h.block k _ e2 (hx k hk) (.inl (by omega)), e]⟩
theorem KeptX.blk {X : Nat → Prop} {B0 : Nat} {A B : World} (h : KeptX X B0 A B) {k : Nat} {c : Array Value} {t : TypeId} {fr : Nat × Nat} (hk : A.heap[k]? = some (.cells c t fr)) (hx : ¬ X k) : B.heap[k]? = some (.cells c t fr) := h.block k _ hk hx (.inr rfl)
def SameX (X : Nat → Prop) (A B : World) : Prop := ∀ k, X k → B.heap[k]? = A.heap[k]?
theorem SameX.trans {X : Nat → Prop} {A B C : World} (h : SameX X A B) (h2 : SameX X B C) : SameX X A C := fun i hi => (h2 i hi).trans (h i hi)
theorem SameX.putObj {X : Nat → Prop} (W : World) {l : Nat} (o : Obj) (h : ¬ X l) : SameX X W (W.putObj l o) := fun _ hk => World.putObj_heap_other (fun e => h (e ▸ hk))
def IterX {α : Type} (P : Program) (gf : Nat) (lb : Array Value) (encs : α → Array Value) (X R : Nat → Prop) (xs : List α) (w0 : World) : Prop :=
  ∀ (l : Nat) (J Jx : List α → World → Prop) (W : World), Below w0.heap.size w0 W → (∀ s A B, J s A → KeptA X A B → J s B) → (∀ s A B, Jx s A → KeptA X A B → Jx s B) →
    (∀ pre x W1, J pre W1 → (pre ++ [x]) <+: xs → YieldAt Fence.wide 9 P l (encs x) W1 fun e W' =>
      (e = .returned (.bool true) ∧ J (pre ++ [x]) W' ∧ SameX R W1 W' ∧ KeepsFrom W.heap.size W1 W') ∨ (e = .returned (.bool false) ∧ Jx (pre ++ [x]) W')) →
    J [] W →
    CallsIn Fence.wide 10 P gf (#[.func (.yield l) #[] #[]] ++ lb) W fun e W' => (∃ v, e = .returned v) ∧ (J xs W' ∨ ∃ pre, pre <+: xs ∧ Jx pre W')
def postX {α : Type} (B : Nat) (R : Nat → Prop) (I : List α → World → Prop) (Ix : Code → List α → World → Prop) (xs : List α) (W : World) : Exit → Act → World → Prop
  | .normal, _, W' => KeepsFrom B W W' ∧ SameX R W W' ∧ I xs W'
  | .ret, _, W' => KeepsFrom B W W' ∧ Ix .ret xs W'
  | .exit id, _, W' => KeepsFrom B W W' ∧ Ix (.exit id) xs W'
  | .goto t, _, W' => KeepsFrom B W W' ∧ Ix (.goto t) xs W'
  | .panic _, _, _ => False
  | .outgrown, _, _ => False
theorem keptX_putObj {X : Nat → Prop} {B0 l : Nat} {W : World} {o : Obj} (o' : Obj) (hB : B0 ≤ l) (hl : W.heap[l]? = some o) (ho : o.isCells = false) : KeptX X B0 W (W.putObj l o') :=
  ⟨rfl, rfl, rfl, by simp, fun k oo hk _ hh => by
    have hne : k ≠ l := by
      rintro rfl
      rcases hh with hh | hh
      · omega
      · rw [hl] at hk; cases hk; rw [ho] at hh; cases hh
    rw [World.putObj_heap_other hne]; exact hk⟩
theorem kf_up {B B' : Nat} {W W' : World} (h : KeepsFrom B W W') (hB : B ≤ B') : KeepsFrom B' W W' := ⟨h.size, fun k o hk ho hc => h.same k o (by omega) ho hc⟩
theorem keepsFrom_putObj {B l : Nat} {W : World} (o : Obj) (h : l < B) : KeepsFrom B W (W.putObj l o) := ⟨by simp, fun k o' hk ho _ => by rw [World.putObj_heap_other (by omega)]; exact ho⟩
theorem rangeFuncX {P : Program} {α : Type} {g : Operand} {ps : Array Tmp} {assign body : Code} {Q : Exit → Act → World → Prop} {a : Act} {w : World}
    {gf : Nat} {lb : Array Value} (hg : a.eval g = .func (.func gf) #[] lb) (eg : ∀ args w, (callFunc gf args).run P w = .ok (.enter gf args) w)
    {encs : α → Array Value} {X R : Nat → Prop} {xs : List α} {w0 : World} (hseq : IterX P gf lb encs X R xs w0) (hX : ∀ k, X k → k < w.heap.size) (hR : ∀ k, R k → k < w.heap.size)
    (hb0 : Below w0.heap.size w0 w) (hps : ∀ x, (encs x).size = ps.size)
    (I : List α → World → Prop) (Ix : Code → List α → World → Prop) (hI : ∀ s A B, I s A → KeptX X w.heap.size A B → I s B) (hIx : ∀ c s A B, Ix c s A → KeptX X w.heap.size A B → Ix c s B) (h0 : I [] w)
    (hround : ∀ (l : Nat) (pre : List α) (x : α) (W : World) (K : Act → World → Prop), w.heap.size ≤ l → (∃ r, W.heap[l]? = some (.loop r)) → I pre W → (pre ++ [x]) <+: xs →
      (∀ a' W', KeepsFrom w.heap.size W W' → SameX R W W' → (∀ W1, KeptX X w.heap.size W' W1 → (∃ r, W1.heap[l]? = some (.loop r)) → w.heap.size ≤ W1.heap.size → body.wpIn (Fence.wide.inRound l) 9 P (postX w.heap.size R I Ix (pre ++ [x]) W1) a' W1) → K a' W') →
      assign.wpIn (Fence.wide.inRound l) 9 P (Exit.then K (fun _ _ _ => False)) { tmps := (ps.zip (encs x)).foldl (fun t (p, v) => t.setIfInBounds p v) a.tmps, defers := [] } W)
    (hdone : ∀ (D : Nat) (W : World), w.heap.size ≤ D → I xs W → W.heap[D]? = some (.deferred (some [])) → Q .normal { a with defers := { target := .collected D, args := #[] } :: a.defers } W)
    (hstop : ∀ (D : Nat) (c : Code) (pre : List α) (W : World), w.heap.size ≤ D → pre <+: xs → Ix c pre W → W.heap[D]? = some (.deferred (some [])) → c.wpIn Fence.wide 11 P Q { a with defers := { target := .collected D, args := #[] } :: a.defers } W) :
    (Code.rangeFunc g ps assign body).wpIn Fence.wide 11 P Q a w := by
  refine wpIn_rangeFunc ?_
  intro fn hfn
  rw [show Fence.wide.round = none from rfl]
  obtain ⟨rec, hrec⟩ : ∃ rec : LoopState → Option Code → Loop, rec = fun st pe => { state := st, pending := pe, fn, tmps := a.tmps, params := ps, assign, body, defers := w.heap.size } := ⟨_, rfl⟩
  obtain ⟨W1, hW1⟩ : ∃ W1, (w.alloc (.deferred (some []))).alloc (.loop (rec .ready none)) = W1 := ⟨_, rfl⟩
  have hL1 : W1.heap[w.heap.size + 1]? = some (.loop (rec .ready none)) := by
    rw [← hW1]; have := World.alloc_heap_new (w.alloc (.deferred (some []))) (.loop (rec .ready none)); rwa [World.size_alloc] at this
  have hK1 : W1.heap[w.heap.size]? = some (.deferred (some [])) := by
    rw [← hW1]; exact (Below.heap_alloc _ _ _ (by simp)).trans (World.alloc_heap_new w _)
  have hbW : Below w.heap.size w W1 := by rw [← hW1]; exact ((Below.refl _ w).alloc (Nat.le_refl _) _).alloc (by simp) _
  have hI1 : I [] W1 := hI _ _ _ h0 ((KeptA.of_below hbW).kx _)
  have hb1 : Below w0.heap.size w0 W1 := hb0.trans (hbW.mono hb0.size)
  have hnX : ¬ X w.heap.size := fun h => by have := hX _ h; omega
  have hnX1 : ¬ X (w.heap.size + 1) := fun h => by have := hX _ h; omega
  have hnR1 : ¬ R (w.heap.size + 1) := fun h => by have := hR _ h; omega
  refine ⟨w.heap.size + 1, [{ target := .collected w.heap.size, args := #[] }], W1, { target := .fn (.func gf) lb, args := #[.func (.yield (w.heap.size + 1)) #[] #[]] }, W1, gf,
    #[.func (.yield (w.heap.size + 1)) #[] #[]] ++ lb, W1, ?_, ?_, ?_, ?_, fun _ => by decide, ?_⟩
  · rw [← hW1, hrec]; exact run_enterLoop_outer _ _ _ _ _
  · simp only [resolve, hg]
    simp [go_sem]
  · intro f' hf'; exact trivial
  · simp [invoke, go_sem, eg]
  · refine (hseq (w.heap.size + 1)
      (fun pre W => I pre W ∧ W.heap[w.heap.size + 1]? = some (.loop (rec .ready none)) ∧ W.heap[w.heap.size]? = some (.deferred (some [])))
      (fun pre W => ∃ c, Ix c pre W ∧ W.heap[w.heap.size + 1]? = some (.loop (rec .done (some c))) ∧ W.heap[w.heap.size]? = some (.deferred (some [])))
      W1 hb1
      (fun s A B hs hk => ⟨hI s A B hs.1 (hk.kx _), hk.block _ _ hs.2.1 hnX1, hk.block _ _ hs.2.2 hnX⟩)
      (fun s A B hs hk => by
        obtain ⟨c, hc, hl, hd⟩ := hs
        exact ⟨c, hIx c s A B hc (hk.kx _), hk.block _ _ hl hnX1, hk.block _ _ hd hnX⟩)
      ?_ ⟨hI1, hL1, hK1⟩).mono ?_
    · have hsz1 : w.heap.size ≤ W1.heap.size := hbW.size
      have hsz2 : w.heap.size + 1 < W1.heap.size := (Array.getElem?_eq_some_iff.1 hL1).1
      rintro pre x W ⟨hi, hl, hk⟩ hpre
      have hlt : w.heap.size + 1 < W.heap.size := (Array.getElem?_eq_some_iff.1 hl).1
      have hy := run_yield (P := P) (args := encs x) hl (by rw [hrec]; exact hps x)
      rw [hrec] at hy
      refine ⟨fn, _, assign, body, hy, roundIn_of_wpIn hfn (hround _ pre x W _ (by omega) ⟨_, hl⟩ hi hpre ?_)⟩
      clear hy
      intro a' Wa hkfa hkpa hbody
      replace hl := hkfa.same _ _ (by omega) hl rfl
      replace hk := hkfa.same _ _ (Nat.le_refl _) hk rfl
      replace hlt : w.heap.size + 1 < Wa.heap.size := (Array.getElem?_eq_some_iff.1 hl).1
      refine ⟨_, run_beginRound hl (by rw [hrec]), ?_⟩
      have hl2 : (Wa.putObj (w.heap.size + 1) (.loop { rec .ready none with state := .busy })).heap[w.heap.size + 1]? = some (.loop { rec .ready none with state := .busy }) := World.putObj_heap_same hlt
      have hk2 : (Wa.putObj (w.heap.size + 1) (.loop { rec .ready none with state := .busy })).heap[w.heap.size]? = some (.deferred (some [])) := (World.putObj_heap_other (by omega)).trans hk
      have hw2 : SameX R Wa (Wa.putObj (w.heap.size + 1) (.loop { rec .ready none with state := .busy })) := SameX.putObj _ _ hnR1
      refine wpIn_mono (hbody _ (keptX_putObj _ (by omega) hl rfl) ⟨_, hl2⟩ (by simp; omega)) ?_
      have fin : ∀ (jump : Option Code) (W3 : World), KeepsFrom w.heap.size (Wa.putObj (w.heap.size + 1) (.loop { rec .ready none with state := .busy })) W3 →
          (Instr.endRound (w.heap.size + 1) jump).run P W3 = .ok (.bool jump.isNone) (W3.putObj (w.heap.size + 1) (.loop (rec (if jump.isNone then .ready else .done) jump))) ∧
          W3.heap[w.heap.size + 1]? = some (.loop { rec .ready none with state := .busy }) ∧
          (W3.putObj (w.heap.size + 1) (.loop (rec (if jump.isNone then .ready else .done) jump))).heap[w.heap.size + 1]? = some (.loop (rec (if jump.isNone then .ready else .done) jump)) ∧
          (W3.putObj (w.heap.size + 1) (.loop (rec (if jump.isNone then .ready else .done) jump))).heap[w.heap.size]? = some (.deferred (some [])) := fun jump W3 hk3 => by
        have hl3 := hk3.same _ _ (by omega) hl2 rfl
        have := run_endRound (P := P) jump hl3
        rw [hrec] at this ⊢
        exact ⟨this, by rw [hrec] at hl3; exact hl3, World.putObj_heap_same (Array.getElem?_eq_some_iff.1 hl3).1, (World.putObj_heap_other (by omega)).trans (hk3.same _ _ (Nat.le_refl _) hk2 rfl)⟩
      rintro e a3 W3 hp
      cases e with
      | normal =>
        obtain ⟨hk3, hkp3, hi3⟩ := hp
        obtain ⟨hr, hl3, hl4, hk4⟩ := fin none W3 hk3
        exact ⟨_, _, hr, .inl ⟨rfl, ⟨hI _ _ _ hi3 (keptX_putObj _ (by omega) hl3 rfl), hl4, hk4⟩, hkpa.trans ((hw2.trans hkp3).trans (SameX.putObj _ _ hnR1)), (kf_up hkfa hsz1).trans (((keepsFrom_putObj _ (by omega)).trans (kf_up hk3 hsz1)).trans (keepsFrom_putObj _ (by omega)))⟩⟩
      | ret =>
        obtain ⟨hk3, hi3⟩ := hp
        obtain ⟨hr, hl3, hl4, hk4⟩ := fin (some .ret) W3 hk3
        exact ⟨_, _, hr, .inr ⟨rfl, .ret, hIx _ _ _ _ hi3 (keptX_putObj _ (by omega) hl3 rfl), hl4, hk4⟩⟩
      | exit id =>
        obtain ⟨hk3, hi3⟩ := hp
        obtain ⟨hr, hl3, hl4, hk4⟩ := fin (some (.exit id)) W3 hk3
        exact ⟨_, _, hr, .inr ⟨rfl, .exit id, hIx _ _ _ _ hi3 (keptX_putObj _ (by omega) hl3 rfl), hl4, hk4⟩⟩
      | goto t =>
        obtain ⟨hk3, hi3⟩ := hp
        obtain ⟨hr, hl3, hl4, hk4⟩ := fin (some (.goto t)) W3 hk3
        exact ⟨_, _, hr, .inr ⟨rfl, .goto t, hIx _ _ _ _ hi3 (keptX_putObj _ (by omega) hl3 rfl), hl4, hk4⟩⟩
      | panic ch => exact hp.elim
      | outgrown => exact hp.elim
    · rintro e W2 ⟨⟨v, rfl⟩, (⟨hi, hl, hk⟩ | ⟨pre, hSp, c, hi, hl, hk⟩)⟩
      · exact ⟨none, _, by have := run_endLoop (P := P) hl (by rw [hrec]; simp); rw [hrec] at this; exact this, hdone _ _ (Nat.le_refl _) (hI _ _ _ hi (keptX_putObj _ (by omega) hl rfl)) ((World.putObj_heap_other (by omega)).trans hk)⟩
      · exact ⟨some c, _, by have := run_endLoop (P := P) hl (by rw [hrec]; simp); rw [hrec] at this; exact this, hstop _ c pre _ (Nat.le_refl _) hSp (hIx _ _ _ _ hi (keptX_putObj _ (by omega) hl rfl)) ((World.putObj_heap_other (by omega)).trans hk)⟩
theorem rangeFuncW {P : Program} {α : Type} {g : Operand} {ps : Array Tmp} {assign body : Code} {Q : Exit → Act → World → Prop} {a : Act} {w : World}
    {gf : Nat} {lb : Array Value} (hg : a.eval g = .func (.func gf) #[] lb) (eg : ∀ args w, (callFunc gf args).run P w = .ok (.enter gf args) w)
    {encs : α → Array Value} {X R : Nat → Prop} {xs : List α} {w0 : World} (hseq : IterX P gf lb encs X R xs w0) (hX : ∀ k, X k → k < w.heap.size) (hR : ∀ k, R k → k < w.heap.size)
    (hb0 : Below w0.heap.size w0 w) (hps : ∀ x, (encs x).size = ps.size)
    (I : List α → World → Prop) (Ix : Code → List α → World → Prop) (hI : ∀ s A B, I s A → KeptX X w.heap.size A B → I s B) (hIx : ∀ c s A B, Ix c s A → KeptX X w.heap.size A B → Ix c s B) (h0 : I [] w)
    (hround : ∀ (l : Nat) (pre : List α) (x : α) (W : World) (K : Act → World → Prop), w.heap.size ≤ l → (∃ r, W.heap[l]? = some (.loop r)) → I pre W → (pre ++ [x]) <+: xs →
      (∀ a' W', KeepsFrom w.heap.size W W' → SameX R W W' → (∀ W1, KeptX X w.heap.size W' W1 → (∃ r, W1.heap[l]? = some (.loop r)) → w.heap.size ≤ W1.heap.size → body.wpIn (Fence.wide.inRound l) 9 P (postX w.heap.size R I Ix (pre ++ [x]) W1) a' W1) → K a' W') →
      assign.wpIn (Fence.wide.inRound l) 9 P (Exit.then K (fun _ _ _ => False)) { tmps := (ps.zip (encs x)).foldl (fun t (p, v) => t.setIfInBounds p v) a.tmps, defers := [] } W)
    (hdone : ∀ (D : Nat) (W : World), w.heap.size ≤ D → I xs W → W.heap[D]? = some (.deferred (some [])) → Q .normal { a with defers := { target := .collected D, args := #[] } :: a.defers } W)
    (hstop : ∀ (D : Nat) (c : Code) (pre : List α) (W : World), w.heap.size ≤ D → pre <+: xs → Ix c pre W → W.heap[D]? = some (.deferred (some [])) → c.wp P Q { a with defers := { target := .collected D, args := #[] } :: a.defers } W) :
    (Code.rangeFunc g ps assign body).wp P Q a w :=
  wpIn_wide.1 (rangeFuncX hg eg hseq hX hR hb0 hps I Ix hI hIx h0 hround hdone (fun D c pre W h1 h2 h3 h4 => wpIn_wide.2 (hstop D c pre W h1 h2 h3 h4)))
end Go.Proofs.YtbjbicaffblchaaGreatDoor.Hand
end
section
namespace Go.Proofs.YtbjbicaffblchaaGreatDoor.Hand
open Go.RowKit Go.Proofs.YtbjbicaffblchaaGreatDoor.SA Go.Proofs.YtbjbicaffblchaaGreatDoor.SB
structure Eid where
  s : Int
  n : ByteArray
  v : ByteArray
  a : Int
  b : Int
def Eid.enc (x : Eid) : Value := .agg #[.int .i64 x.s, .string x.n, .string x.v, .int .i64 x.a, .int .i64 x.b]
def cands (word rest : ByteArray) (k : Nat) : List Eid :=
  (if 0 < k ∧ word.toList = [100, 116, 110] then [⟨0, ⟨#[]⟩, ⟨#[]⟩, 0, 0⟩] else []) ++ ((if 1 < k ∧ word.toList = [100, 116, 110] then [⟨1, (dtnParts rest).1, (dtnParts rest).2, 0, 0⟩] else []) ++
    (if 2 < k ∧ word.toList = [105, 112, 110] then [⟨2, ⟨#[]⟩, ⟨#[]⟩, (ipnParts rest).1, (ipnParts rest).2⟩] else []))
set_option maxRecDepth 100000 in
theorem readings_calls (word rest : ByteArray) (w : World) :
    Calls Tryz.prog 64 #[.string word, .string rest] w fun e w' =>
      e = .returned (.func (.func 72) #[] #[.pointer (some ⟨w.heap.size, 0, none⟩), .pointer (some ⟨w.heap.size + 1, 0, none⟩)]) ∧ (w.alloc (.cells #[.string word] 9)).alloc (.cells #[.string rest] 9) = w' := by
  go_enter Tryz.func64, Tryz.ntmps64
  go_wp2
  go_ret
  exact ⟨rfl, rfl⟩
attribute [local go_sem] Oper.semAt_some
theorem rounds_keep0 {word rest : ByteArray} {b1 b2 g : Nat} {wr w3 : World} (h1 : Hid (wr.heap[g]? = some (.map schs 3))) (h2 : Hid (wr.heap[b1]? = some (.cells #[.string word] 9))) (h3 : Hid (wr.heap[b2]? = some (.cells #[.string rest] 9))) (h4 : Hid (Laid wr)) (hb : Below wr.heap.size wr w3) :
    Hid (w3.heap[g]? = some (.map schs 3)) ∧ Hid (w3.heap[b1]? = some (.cells #[.string word] 9)) ∧ Hid (w3.heap[b2]? = some (.cells #[.string rest] 9)) ∧ Hid (Laid w3) := by
  have k : ∀ (j : Nat) (o : Obj), wr.heap[j]? = some o → w3.heap[j]? = some o := fun j o h => (hb.block _ (Array.getElem?_eq_some_iff.1 h).1).trans h
  exact ⟨k _ _ h1.out, k _ _ h2.out, k _ _ h3.out, h4.out.below hb⟩
theorem rounds_keep {word rest : ByteArray} {b1 b2 g : Nat} {wr w3 W' : World} (h1 : Hid (wr.heap[g]? = some (.map schs 3))) (h2 : Hid (wr.heap[b1]? = some (.cells #[.string word] 9))) (h3 : Hid (wr.heap[b2]? = some (.cells #[.string rest] 9))) (h4 : Hid (Laid wr)) (hb : Below wr.heap.size wr w3)
    (hs : SameX (fun k => k = b1 ∨ k = b2 ∨ k < NG) w3 W') (hk : KeepsFrom g w3 W') :
    Hid (W'.heap[g]? = some (.map schs 3)) ∧ Hid (W'.heap[b1]? = some (.cells #[.string word] 9)) ∧ Hid (W'.heap[b2]? = some (.cells #[.string rest] 9)) ∧ Hid (Laid W') := by
  obtain ⟨a1, a2, a3, a4⟩ := rounds_keep0 h1 h2 h3 h4 hb
  exact ⟨hk.same _ _ (Nat.le_refl _) a1.out rfl, (hs _ (.inl rfl)).trans a2.out, (hs _ (.inr (.inl rfl))).trans a3.out, a4.out.same fun k hk => hs _ (.inr (.inr hk))⟩
set_option maxRecDepth 100000 in
set_option maxHeartbeats 4000000 in
theorem readings_iter (word rest : ByteArray) (b1 b2 : Nat) (w0 : World) (hL : Laid w0) (hr : rest.size < 4294967281) (h1 : w0.heap[b1]? = some (.cells #[.string word] 9)) (h2 : w0.heap[b2]? = some (.cells #[.string rest] 9)) (h3 : 6 < w0.heap.size) :
    IterX Tryz.prog 72 #[.pointer (some ⟨b1, 0, none⟩), .pointer (some ⟨b2, 0, none⟩)] (fun x => #[Eid.enc x]) (fun _ => False) (fun k => k = b1 ∨ k = b2 ∨ k < NG) (cands word rest 3) w0 := by
  intro l J Jx W hW hJ hJx hY h0
  have hlt1 : b1 < w0.heap.size := (Array.getElem?_eq_some_iff.1 h1).1
  have hlt2 : b2 < w0.heap.size := (Array.getElem?_eq_some_iff.1 h2).1
  have hLW := hL.below hW
  have hbW1 := (hW.block _ hlt1).trans h1
  have hbW2 := (hW.block _ hlt2).trans h2
  have hsW : 6 < W.heap.size := Nat.lt_of_lt_of_le h3 hW.size
  have HJ := Lib.hid hJ
  have HJx := Lib.hid hJx
  have HY := Lib.hid hY
  have HLW := Lib.hid hLW
  have HB1 := Lib.hid hbW1
  have HB2 := Lib.hid hbW2
  have H0 := Lib.hid h0
  clear hL h1 h2 hW hJ hJx hY hLW hbW1 hbW2 h0 hlt1 hlt2 h3
  refine (callsIn_wide (n := 10)).2 ?_
  simp only [List.append_toArray, List.cons_append, List.nil_append]
  go_enter Tryz.func72, Tryz.ntmps72
  go_wp2
  go_step3
  go_wp2_with (go_at_call 37; refine (schemes_calls _).mono ?_; rintro e w' ⟨rfl, rfl⟩)
  go_step3
  go_wp2_with (fail)
  obtain ⟨w1, hw1⟩ : ∃ w1, w1 = W.alloc (.map schs 3) := ⟨_, rfl⟩
  have hb : Below W.heap.size W w1 := by rw [hw1]; exact b_alloc (Below.refl _ _) _
  have hm : w1.heap[W.heap.size]? = some (.map schs 3) := by rw [hw1]; exact World.alloc_heap_new _ _
  rw [← hw1]
  clear hw1
  have HJ1 := Lib.hid (HJ.out _ _ _ H0.out (KeptA.of_below hb))
  have HL1 := Lib.hid (HLW.out.below hb)
  have hb1' := (hb.block _ (Array.getElem?_eq_some_iff.1 HB1.out).1).trans HB1.out
  have hb2' := (hb.block _ (Array.getElem?_eq_some_iff.1 HB2.out).1).trans HB2.out
  have HM := Lib.hid hm
  have HB1' := Lib.hid hb1'
  have HB2' := Lib.hid hb2'
  clear hb hm hb1' hb2' H0
  go_loopw [9] (fun i wr => ∃ k : Nat, k ≤ 3 ∧ i = .int .i64 k ∧ Hid (J (cands word rest k) wr) ∧ Hid (wr.heap[W.heap.size]? = some (.map schs 3)) ∧ Hid (wr.heap[b1]? = some (.cells #[.string word] 9)) ∧ Hid (wr.heap[b2]? = some (.cells #[.string rest] 9)) ∧ Hid (Laid wr)) (fun i _ => 3 - (intOf i).toNat)
  case atStart => exact ⟨0, by omega, rfl, HJ1, HM, HB1', HB2', HL1⟩
  case round =>
    obtain ⟨k, hk, rfl, HJr, HMr, HBr1, HBr2, HLr⟩ := hrel
    clear HB1 HB2 HJ1 HM HB1' HB2' HL1 HLW
    have hm1 : b1 < wr.heap.size := (Array.getElem?_eq_some_iff.1 HBr1.out).1
    have hm2 : b2 < wr.heap.size := (Array.getElem?_eq_some_iff.1 HBr2.out).1
    have q1 : wr.cell? ⟨b1, 0, none⟩ = some (.string word) := (cell_blk HBr1.out 0).trans rfl
    have q2 : wr.cell? ⟨b2, 0, none⟩ = some (.string rest) := (cell_blk HBr2.out 0).trans rfl
    rcases (show k = 0 ∨ k = 1 ∨ k = 2 ∨ k = 3 by omega) with rfl | rfl | rfl | rfl
    · have hl := look_some (n := 0) (wd := wDtn) (by rw [schAt, if_pos rfl]; rfl) false wr W.heap.size HMr.out
      simp only [schOf, Bool.false_eq_true, if_false] at hl
      by_cases hw : word.toList = [100, 116, 110]
      · have t1 : ([100, 116, 110] == word.toList) = true := by rw [hw]; decide
        have t2 : ([100, 116, 110] != word.toList) = false := by rw [hw]; decide
        have HP := Lib.hid (show cands word rest 0 ++ [⟨0, ⟨#[]⟩, ⟨#[]⟩, 0, 0⟩] <+: cands word rest 3 by simp [cands, hw])
        have HN := Lib.hid (show cands word rest 0 ++ [⟨0, ⟨#[]⟩, ⟨#[]⟩, 0, 0⟩] = cands word rest 1 by simp [cands, hw])
        clear hw
        unfold wDtn at hl
        go_wp2_with (fail)
        have hbb0 : Below wr.heap.size wr ((wr.alloc (.cells #[.string ⟨#[100, 116, 110]⟩, .func (.func 50) #[] #[], .func (.func 51) #[] #[], .func (.func 52) #[] #[]] 77)).alloc (.cells #[.int .i64 0, .string ⟨#[]⟩, .string ⟨#[]⟩, .int .i64 0, .int .i64 0] 110)) := b_alloc (b_alloc (Below.refl _ _) _) _
        have hpb0 : ((wr.alloc (.cells #[.string ⟨#[100, 116, 110]⟩, .func (.func 50) #[] #[], .func (.func 51) #[] #[], .func (.func 52) #[] #[]] 77)).alloc (.cells #[.int .i64 0, .string ⟨#[]⟩, .string ⟨#[]⟩, .int .i64 0, .int .i64 0] 110)).heap[wr.heap.size + 1]? = some (.cells #[.int .i64 0, .string ⟨#[]⟩, .string ⟨#[]⟩, .int .i64 0, .int .i64 0] 110) := by
          have := World.alloc_heap_new (wr.alloc (.cells #[.string ⟨#[100, 116, 110]⟩, .func (.func 50) #[] #[], .func (.func 51) #[] #[], .func (.func 52) #[] #[]] 77)) (.cells #[.int .i64 0, .string ⟨#[]⟩, .string ⟨#[]⟩, .int .i64 0, .int .i64 0] 110)
          rwa [World.size_alloc] at this
        obtain ⟨w2, hw2⟩ : ∃ w2, w2 = ((wr.alloc (.cells #[.string ⟨#[100, 116, 110]⟩, .func (.func 50) #[] #[], .func (.func 51) #[] #[], .func (.func 52) #[] #[]] 77)).alloc (.cells #[.int .i64 0, .string ⟨#[]⟩, .string ⟨#[]⟩, .int .i64 0, .int .i64 0] 110)) := ⟨_, rfl⟩
        have hsz : w2.heap.size = wr.heap.size + 2 := by rw [hw2]; simp
        rw [← hw2] at hbb0 hpb0
        rw [← hw2]
        clear hw2
        have HPB := Lib.hid hpb0
        have HBB0 := Lib.hid hbb0
        have HL2 := Lib.hid (HLr.out.below hbb0)
        have hwr : 6 < wr.heap.size := by
          obtain ⟨_, _, ⟨_, _, h1⟩, ⟨_, _, h2⟩⟩ := HLr.out
          have := World.block_lt_of_cell? wr _ h2
          exact Nat.lt_of_le_of_lt (by decide) this
        refine (parse0_calls _ rest _).mono ?_
        rintro e w3 ⟨rfl, hb3⟩
        have hpb : w3.heap[wr.heap.size + 1]? = some (.cells #[.int .i64 0, .string ⟨#[]⟩, .string ⟨#[]⟩, .int .i64 0, .int .i64 0] 110) := (hb3.block _ (by rw [hsz]; omega)).trans HPB.out
        have hb3' : Below wr.heap.size wr w3 := HBB0.out.trans (hb3.mono (by rw [hsz]; omega))
        have p0 : w3.cell? ⟨wr.heap.size + 1, 0, none⟩ = some (.int .i64 0) := cell_blk hpb 0
        have p1 : w3.cell? ⟨wr.heap.size + 1, 1, none⟩ = some (.string ⟨#[]⟩) := cell_blk hpb 1
        have p2 : w3.cell? ⟨wr.heap.size + 1, 2, none⟩ = some (.string ⟨#[]⟩) := cell_blk hpb 2
        have p3 : w3.cell? ⟨wr.heap.size + 1, 3, none⟩ = some (.int .i64 0) := cell_blk hpb 3
        have p4 : w3.cell? ⟨wr.heap.size + 1, 4, none⟩ = some (.int .i64 0) := cell_blk hpb 4
        have HJ3 := Lib.hid (HJ.out _ _ _ HJr.out (KeptA.of_below hb3'))
        have HBB := Lib.hid hb3'
        obtain ⟨fn, tmps, assign, body, hy, hR⟩ := HY.out _ _ _ HJ3.out HP.out
        unfold Eid.enc at hy
        dsimp only at hy
        have HR := Lib.hid hR
        have hE1 : wr.heap.size ≤ w3.heap.size := hb3'.size
        have HS := Lib.hid hsz
        clear hb3 hpb hR hl q1 q2 t1 t2 hm1 hm2 hbb0 hpb0 hb3' hsz
        have HYY := Lib.hid hy
        clear hy
        go_upto_region 8 with (fail)
        refine (wpIn_wide (n := 10)).1 ?_
        have hy := HYY.out
        clear HYY
        gi_wp2
        refine HR.out.mono ?_
        rintro e W' (⟨rfl, hJ', hsame, hkf⟩ | ⟨rfl, hJx'⟩)
        · have HJ' := Lib.hid hJ'
          have HSame := Lib.hid hsame
          have HKF := Lib.hid hkf
          clear hJ' hsame hkf hy p0 p1 p2 p3 p4
          gi_wp2
          go_wp2
          go_roundw
          case rel => exact ⟨1, by omega, rfl, by rw [← HN.out]; exact HJ', rounds_keep HMr HBr1 HBr2 HLr HBB.out HSame.out HKF.out⟩
          case measure => simp [intOf]
        · have HJx' := Lib.hid hJx'
          clear hJx' hy p0 p1 p2 p3 p4
          gi_wp2
          go_wp2
          rw [show ∀ Q a w, Exit.noGoto Q .normal a w = Q .normal a w from fun _ _ _ => rfl]
          go_end0
          exact ⟨⟨_, rfl⟩, .inr ⟨_, HP.out, HJx'.out⟩⟩
      · have hne : ¬ [100, 116, 110] = word.toList := fun e => hw e.symm
        have t1 : ([100, 116, 110] == word.toList) = false := beq_eq_false_iff_ne.2 hne
        have t2 : ([100, 116, 110] != word.toList) = true := by rw [bne, t1]; rfl
        have HN := Lib.hid (show cands word rest 0 = cands word rest 1 by simp [cands, hw])
        unfold wDtn at hl
        clear hw hne
        go_wp2
        go_roundw
        case rel => exact ⟨1, by omega, rfl, by rw [← HN.out]; exact HJ.out _ _ _ HJr.out (KeptA.of_below (b_alloc (Below.refl _ _) _)), rounds_keep0 HMr HBr1 HBr2 HLr (b_alloc (Below.refl _ _) _)⟩
        case measure => simp [intOf]
    · have hl := look_some (n := 1) (wd := wDtn) (by rw [schAt, if_neg (by decide), if_pos rfl]; rfl) false wr W.heap.size HMr.out
      simp only [schOf, Bool.false_eq_true, if_false] at hl
      by_cases hw : word.toList = [100, 116, 110]
      · have t1 : ([100, 116, 110] == word.toList) = true := by rw [hw]; decide
        have t2 : ([100, 116, 110] != word.toList) = false := by rw [hw]; decide
        have HP := Lib.hid (show cands word rest 1 ++ [⟨1, (dtnParts rest).1, (dtnParts rest).2, 0, 0⟩] <+: cands word rest 3 by simp [cands, hw])
        have HN := Lib.hid (show cands word rest 1 ++ [⟨1, (dtnParts rest).1, (dtnParts rest).2, 0, 0⟩] = cands word rest 2 by simp [cands, hw])
        clear hw
        unfold wDtn at hl
        go_wp2_with (fail)
        have hbb0 : Below wr.heap.size wr ((wr.alloc (.cells #[.string ⟨#[100, 116, 110]⟩, .func (.func 53) #[] #[], .func (.func 54) #[] #[], .func (.func 55) #[] #[]] 77)).alloc (.cells #[.int .i64 1, .string ⟨#[]⟩, .string ⟨#[]⟩, .int .i64 0, .int .i64 0] 110)) := b_alloc (b_alloc (Below.refl _ _) _) _
        have hpb0 : ((wr.alloc (.cells #[.string ⟨#[100, 116, 110]⟩, .func (.func 53) #[] #[], .func (.func 54) #[] #[], .func (.func 55) #[] #[]] 77)).alloc (.cells #[.int .i64 1, .string ⟨#[]⟩, .string ⟨#[]⟩, .int .i64 0, .int .i64 0] 110)).heap[wr.heap.size + 1]? = some (.cells #[.int .i64 1, .string ⟨#[]⟩, .string ⟨#[]⟩, .int .i64 0, .int .i64 0] 110) := by
          have := World.alloc_heap_new (wr.alloc (.cells #[.string ⟨#[100, 116, 110]⟩, .func (.func 53) #[] #[], .func (.func 54) #[] #[], .func (.func 55) #[] #[]] 77)) (.cells #[.int .i64 1, .string ⟨#[]⟩, .string ⟨#[]⟩, .int .i64 0, .int .i64 0] 110)
          rwa [World.size_alloc] at this
        obtain ⟨w2, hw2⟩ : ∃ w2, w2 = ((wr.alloc (.cells #[.string ⟨#[100, 116, 110]⟩, .func (.func 53) #[] #[], .func (.func 54) #[] #[], .func (.func 55) #[] #[]] 77)).alloc (.cells #[.int .i64 1, .string ⟨#[]⟩, .string ⟨#[]⟩, .int .i64 0, .int .i64 0] 110)) := ⟨_, rfl⟩
        have hsz : w2.heap.size = wr.heap.size + 2 := by rw [hw2]; simp
        rw [← hw2] at hbb0 hpb0
        rw [← hw2]
        clear hw2
        have HPB := Lib.hid hpb0
        have HBB0 := Lib.hid hbb0
        have HL2 := Lib.hid (HLr.out.below hbb0)
        have hwr : 6 < wr.heap.size := by
          obtain ⟨_, _, ⟨_, _, h1⟩, ⟨_, _, h2⟩⟩ := HLr.out
          have := World.block_lt_of_cell? wr _ h2
          exact Nat.lt_of_le_of_lt (by decide) this
        refine (parse1_calls (wr.heap.size + 1) 1 ⟨#[]⟩ ⟨#[]⟩ 0 0 rest _ HL2.out hr HPB.out).mono ?_
        rintro e w3 ⟨rfl, hb3, hpb⟩
        have hb3' : Below wr.heap.size wr w3 := HBB0.out.trans (hb3.mono (by omega))
        have p0 : w3.cell? ⟨wr.heap.size + 1, 0, none⟩ = some (.int .i64 1) := cell_blk hpb 0
        have p1 : w3.cell? ⟨wr.heap.size + 1, 1, none⟩ = some (.string (dtnParts rest).1) := cell_blk hpb 1
        have p2 : w3.cell? ⟨wr.heap.size + 1, 2, none⟩ = some (.string (dtnParts rest).2) := cell_blk hpb 2
        have p3 : w3.cell? ⟨wr.heap.size + 1, 3, none⟩ = some (.int .i64 0) := cell_blk hpb 3
        have p4 : w3.cell? ⟨wr.heap.size + 1, 4, none⟩ = some (.int .i64 0) := cell_blk hpb 4
        have HJ3 := Lib.hid (HJ.out _ _ _ HJr.out (KeptA.of_below hb3'))
        have HBB := Lib.hid hb3'
        obtain ⟨fn, tmps, assign, body, hy, hR⟩ := HY.out _ _ _ HJ3.out HP.out
        unfold Eid.enc at hy
        dsimp only at hy
        have HR := Lib.hid hR
        have hE1 : wr.heap.size ≤ w3.heap.size := hb3'.size
        have HS := Lib.hid hsz
        clear hb3 hpb hR hl q1 q2 t1 t2 hm1 hm2 hbb0 hpb0 hb3' hsz
        have HYY := Lib.hid hy
        clear hy
        go_upto_region 8 with (fail)
        refine (wpIn_wide (n := 10)).1 ?_
        have hy := HYY.out
        clear HYY
        gi_wp2
        refine HR.out.mono ?_
        rintro e W' (⟨rfl, hJ', hsame, hkf⟩ | ⟨rfl, hJx'⟩)
        · have HJ' := Lib.hid hJ'
          have HSame := Lib.hid hsame
          have HKF := Lib.hid hkf
          clear hJ' hsame hkf hy p0 p1 p2 p3 p4
          gi_wp2
          go_wp2
          go_roundw
          case rel => exact ⟨2, by omega, rfl, by rw [← HN.out]; exact HJ', rounds_keep HMr HBr1 HBr2 HLr HBB.out HSame.out HKF.out⟩
          case measure => simp [intOf]
        · have HJx' := Lib.hid hJx'
          clear hJx' hy p0 p1 p2 p3 p4
          gi_wp2
          go_wp2
          rw [show ∀ Q a w, Exit.noGoto Q .normal a w = Q .normal a w from fun _ _ _ => rfl]
          go_end0
          exact ⟨⟨_, rfl⟩, .inr ⟨_, HP.out, HJx'.out⟩⟩
      · have hne : ¬ [100, 116, 110] = word.toList := fun e => hw e.symm
        have t1 : ([100, 116, 110] == word.toList) = false := beq_eq_false_iff_ne.2 hne
        have t2 : ([100, 116, 110] != word.toList) = true := by rw [bne, t1]; rfl
        have HN := Lib.hid (show cands word rest 1 = cands word rest 2 by simp [cands, hw])
        unfold wDtn at hl
        clear hw hne
        go_wp2
        go_roundw
        case rel => exact ⟨2, by omega, rfl, by rw [← HN.out]; exact HJ.out _ _ _ HJr.out (KeptA.of_below (b_alloc (Below.refl _ _) _)), rounds_keep0 HMr HBr1 HBr2 HLr (b_alloc (Below.refl _ _) _)⟩
        case measure => simp [intOf]
    · have hl := look_some (n := 2) (wd := wIpn) (by rw [schAt, if_neg (by decide), if_neg (by decide), if_pos rfl]; rfl) false wr W.heap.size HMr.out
      simp only [schOf, Bool.false_eq_true, if_false] at hl
      by_cases hw : word.toList = [105, 112, 110]
      · have t1 : ([105, 112, 110] == word.toList) = true := by rw [hw]; decide
        have t2 : ([105, 112, 110] != word.toList) = false := by rw [hw]; decide
        have HP := Lib.hid (show cands word rest 2 ++ [⟨2, ⟨#[]⟩, ⟨#[]⟩, (ipnParts rest).1, (ipnParts rest).2⟩] <+: cands word rest 3 by simp [cands, hw])
        have HN := Lib.hid (show cands word rest 2 ++ [⟨2, ⟨#[]⟩, ⟨#[]⟩, (ipnParts rest).1, (ipnParts rest).2⟩] = cands word rest 3 by simp [cands, hw])
        clear hw
        unfold wIpn at hl
        go_wp2_with (fail)
        have hbb0 : Below wr.heap.size wr ((wr.alloc (.cells #[.string ⟨#[105, 112, 110]⟩, .func (.func 56) #[] #[], .func (.func 57) #[] #[], .func (.func 59) #[] #[]] 77)).alloc (.cells #[.int .i64 2, .string ⟨#[]⟩, .string ⟨#[]⟩, .int .i64 0, .int .i64 0] 110)) := b_alloc (b_alloc (Below.refl _ _) _) _
        have hpb0 : ((wr.alloc (.cells #[.string ⟨#[105, 112, 110]⟩, .func (.func 56) #[] #[], .func (.func 57) #[] #[], .func (.func 59) #[] #[]] 77)).alloc (.cells #[.int .i64 2, .string ⟨#[]⟩, .string ⟨#[]⟩, .int .i64 0, .int .i64 0] 110)).heap[wr.heap.size + 1]? = some (.cells #[.int .i64 2, .string ⟨#[]⟩, .string ⟨#[]⟩, .int .i64 0, .int .i64 0] 110) := by
          have := World.alloc_heap_new (wr.alloc (.cells #[.string ⟨#[105, 112, 110]⟩, .func (.func 56) #[] #[], .func (.func 57) #[] #[], .func (.func 59) #[] #[]] 77)) (.cells #[.int .i64 2, .string ⟨#[]⟩, .string ⟨#[]⟩, .int .i64 0, .int .i64 0] 110)
          rwa [World.size_alloc] at this
        obtain ⟨w2, hw2⟩ : ∃ w2, w2 = ((wr.alloc (.cells #[.string ⟨#[105, 112, 110]⟩, .func (.func 56) #[] #[], .func (.func 57) #[] #[], .func (.func 59) #[] #[]] 77)).alloc (.cells #[.int .i64 2, .string ⟨#[]⟩, .string ⟨#[]⟩, .int .i64 0, .int .i64 0] 110)) := ⟨_, rfl⟩
        have hsz : w2.heap.size = wr.heap.size + 2 := by rw [hw2]; simp
        rw [← hw2] at hbb0 hpb0
        rw [← hw2]
        clear hw2
        have HPB := Lib.hid hpb0
        have HBB0 := Lib.hid hbb0
        have HL2 := Lib.hid (HLr.out.below hbb0)
        have hwr : 6 < wr.heap.size := by
          obtain ⟨_, _, ⟨_, _, h1⟩, ⟨_, _, h2⟩⟩ := HLr.out
          have := World.block_lt_of_cell? wr _ h2
          exact Nat.lt_of_le_of_lt (by decide) this
        refine (parse2_calls (wr.heap.size + 1) 2 ⟨#[]⟩ ⟨#[]⟩ 0 0 rest _ HL2.out hr HPB.out (by omega)).mono ?_
        rintro e w3 ⟨rfl, hb3, hpb⟩
        have hb3' : Below wr.heap.size wr w3 := HBB0.out.trans (hb3.mono (by omega))
        have p0 : w3.cell? ⟨wr.heap.size + 1, 0, none⟩ = some (.int .i64 2) := cell_blk hpb 0
        have p1 : w3.cell? ⟨wr.heap.size + 1, 1, none⟩ = some (.string ⟨#[]⟩) := cell_blk hpb 1
        have p2 : w3.cell? ⟨wr.heap.size + 1, 2, none⟩ = some (.string ⟨#[]⟩) := cell_blk hpb 2
        have p3 : w3.cell? ⟨wr.heap.size + 1, 3, none⟩ = some (.int .i64 (ipnParts rest).1) := cell_blk hpb 3
        have p4 : w3.cell? ⟨wr.heap.size + 1, 4, none⟩ = some (.int .i64 (ipnParts rest).2) := cell_blk hpb 4
        have HJ3 := Lib.hid (HJ.out _ _ _ HJr.out (KeptA.of_below hb3'))
        have HBB := Lib.hid hb3'
        obtain ⟨fn, tmps, assign, body, hy, hR⟩ := HY.out _ _ _ HJ3.out HP.out
        unfold Eid.enc at hy
        dsimp only at hy
        have HR := Lib.hid hR
        have hE1 : wr.heap.size ≤ w3.heap.size := hb3'.size
        have HS := Lib.hid hsz
        clear hb3 hpb hR hl q1 q2 t1 t2 hm1 hm2 hbb0 hpb0 hb3' hsz
        have HYY := Lib.hid hy
        clear hy
        go_upto_region 8 with (fail)
        refine (wpIn_wide (n := 10)).1 ?_
        have hy := HYY.out
        clear HYY
        gi_wp2
        refine HR.out.mono ?_
        rintro e W' (⟨rfl, hJ', hsame, hkf⟩ | ⟨rfl, hJx'⟩)
        · have HJ' := Lib.hid hJ'
          have HSame := Lib.hid hsame
          have HKF := Lib.hid hkf
          clear hJ' hsame hkf hy p0 p1 p2 p3 p4
          gi_wp2
          go_wp2
          go_roundw
          case rel => exact ⟨3, by omega, rfl, by rw [← HN.out]; exact HJ', rounds_keep HMr HBr1 HBr2 HLr HBB.out HSame.out HKF.out⟩
          case measure => simp [intOf]
        · have HJx' := Lib.hid hJx'
          clear hJx' hy p0 p1 p2 p3 p4
          gi_wp2
          go_wp2
          rw [show ∀ Q a w, Exit.noGoto Q .normal a w = Q .normal a w from fun _ _ _ => rfl]
          go_end0
          exact ⟨⟨_, rfl⟩, .inr ⟨_, HP.out, HJx'.out⟩⟩
      · have hne : ¬ [105, 112, 110] = word.toList := fun e => hw e.symm
        have t1 : ([105, 112, 110] == word.toList) = false := beq_eq_false_iff_ne.2 hne
        have t2 : ([105, 112, 110] != word.toList) = true := by rw [bne, t1]; rfl
        have HN := Lib.hid (show cands word rest 2 = cands word rest 3 by simp [cands, hw])
        unfold wIpn at hl
        clear hw hne
        go_wp2
        go_roundw
        case rel => exact ⟨3, by omega, rfl, by rw [← HN.out]; exact HJ.out _ _ _ HJr.out (KeptA.of_below (b_alloc (Below.refl _ _) _)), rounds_keep0 HMr HBr1 HBr2 HLr (b_alloc (Below.refl _ _) _)⟩
        case measure => simp [intOf]
    · go_wp2
      rw [show ∀ Q a w, Exit.noGoto Q .normal a w = Q .normal a w from fun _ _ _ => rfl]
      go_end0
      exact ⟨⟨_, rfl⟩, .inl HJr.out⟩
end Go.Proofs.YtbjbicaffblchaaGreatDoor.Hand
end
section
namespace Go.Proofs.YtbjbicaffblchaaGreatDoor.Hand
open Go.RowKit Go.Proofs.YtbjbicaffblchaaGreatDoor.SA Go.Proofs.YtbjbicaffblchaaGreatDoor.SB
def isHalf (word rest : ByteArray) (x : Eid) : Bool := (halvesS x.s x.n x.v x.a x.b).2.2 == 0 && ((halvesS x.s x.n x.v x.a x.b).1.toList == word.toList && (halvesS x.s x.n x.v x.a x.b).2.1.toList == rest.toList)
def zeroEid : Eid := ⟨0, ⟨#[]⟩, ⟨#[]⟩, 0, 0⟩
def joinS (word rest : ByteArray) : Option Eid := (cands word rest 3).find? (isHalf word rest)
def joinV : Option Eid → Value
  | some x => .tuple #[x.enc, .int .i64 0]
  | none => .tuple #[zeroEid.enc, .int .i64 60]
def eidCells (x : Eid) : Array Value := #[.int .i64 x.s, .string x.n, .string x.v, .int .i64 x.a, .int .i64 x.b]
attribute [local go_sem] Oper.semAt_some
theorem areAll3 (x y z : Bool) (g : Nat) (w : World) (h : w.heap[g]? = some (.cells #[.bool x, .bool y, .bool z] 4)) :
    Calls Tryz.prog 65 #[.slice (some ⟨g, 0, none⟩) 3 3] w fun e w' => e = .returned (.bool (x && (y && z))) ∧ Below w.heap.size w w' := by
  have hr : YtbjbicaffblchaaGreatDoorW.PrintWords.ReadsOf Value.bool false w (some ⟨g, 0, none⟩) 3 [x, y, z] := ⟨rfl, by decide, fun _ => ⟨_, rfl, fun j hj => by
    rw [YtbjbicaffblchaaGreatDoorW.PrintWords.add_plain, cell_blk h]
    rcases (show j = 0 ∨ j = 1 ∨ j = 2 by omega) with rfl | rfl | rfl <;> rfl⟩⟩
  have hc := YtbjbicaffblchaaGreatDoorW.PrintWords.Kd.C_of_reads (h1 := fun _ => rfl) hr
  refine (eid_areAll.calls 10 (some ⟨g, 0, none⟩) 3 [x, y, z] (x && (y && z)) w hc (Nat.le_refl _) ?_).mono fun _ _ h => ⟨h.1, h.2.below⟩
  rw [areAll_is _ _ (by simp) (by simp)]
  simp
theorem cands_size (word rest : ByteArray) (x : Eid) (h : x ∈ cands word rest 3) : x.n.size ≤ rest.size ∧ x.v.size ≤ rest.size := by
  have hp : (dtnParts rest).1.size ≤ rest.size ∧ (dtnParts rest).2.size ≤ rest.size := by
    unfold dtnParts
    have := cut_sizes (Lib.trimPrefix rest.data.toList [47, 47]) [47]
    have := trim_le rest
    simp only [txt_size]
    omega
  unfold cands at h
  simp only [List.mem_append] at h
  rcases h with h | h | h
  · split at h
    · simp only [List.mem_singleton] at h; subst h; exact ⟨Nat.zero_le _, Nat.zero_le _⟩
    · cases h
  · split at h
    · simp only [List.mem_singleton] at h; subst h; exact hp
    · cases h
  · split at h
    · simp only [List.mem_singleton] at h; subst h; exact ⟨Nat.zero_le _, Nat.zero_le _⟩
    · cases h
def joinFr (word rest : ByteArray) (w W : World) : Prop :=
  Below w.heap.size w W ∧ W.heap[w.heap.size]? = some (.cells #[.string word] 9) ∧ W.heap[w.heap.size + 1]? = some (.cells #[.string rest] 9) ∧ W.heap[w.heap.size + 2]? = some (.cells (eidCells zeroEid) 41) ∧ W.heap[w.heap.size + 3]? = some (.cells #[.int .i64 0] 28)
def joinTo (word rest : ByteArray) (w W : World) : Prop :=
  Below w.heap.size w W ∧ ∃ x, joinS word rest = some x ∧ W.heap[w.heap.size + 2]? = some (.cells (eidCells x) 41) ∧ W.heap[w.heap.size + 3]? = some (.cells #[.int .i64 0] 28)
theorem joinFr_keep {word rest : ByteArray} {w A B : World} {B0 : Nat} (h : joinFr word rest w A) (hk : KeptX (fun _ => False) B0 A B) (h0 : w.heap.size ≤ B0) : joinFr word rest w B :=
  ⟨hk.below h.1 h0 (Nat.le_refl _) (fun _ _ => id), hk.blk h.2.1 id, hk.blk h.2.2.1 id, hk.blk h.2.2.2.1 id, hk.blk h.2.2.2.2 id⟩
theorem joinTo_keep {word rest : ByteArray} {w A B : World} {B0 : Nat} (h : joinTo word rest w A) (hk : KeptX (fun _ => False) B0 A B) (h0 : w.heap.size ≤ B0) : joinTo word rest w B := by
  obtain ⟨hb, x, hj, h2, h3⟩ := h
  exact ⟨hk.below hb h0 (Nat.le_refl _) (fun _ _ => id), x, hj, hk.blk h2 id, hk.blk h3 id⟩
theorem joinFr_below {word rest : ByteArray} {w A B : World} (h : joinFr word rest w A) (hb : Below A.heap.size A B) : joinFr word rest w B := joinFr_keep (B0 := w.heap.size) h ((KeptA.of_below hb).kx _) (Nat.le_refl _)
theorem join_end (w W : World) (D : Nat) (x : Eid) (e : Int) (a : Act) (hd : a.defers = [{ target := .collected D, args := #[] }]) (h4 : a.tmps[4]? = some (.pointer (some ⟨w.heap.size + 1 + 1, 0, none⟩))) (h5 : a.tmps[5]? = some (.pointer (some ⟨w.heap.size + 1 + 1 + 1, 0, none⟩)))
    (h2 : W.heap[w.heap.size + 1 + 1]? = some (.cells (eidCells x) 41)) (h3 : W.heap[w.heap.size + 1 + 1 + 1]? = some (.cells #[.int .i64 e] 28)) (hD : W.heap[D]? = some (.deferred (some []))) (hDn : w.heap.size + 3 < D) (hb : Below w.heap.size w W) (v : Value) (hv : v = .tuple #[x.enc, .int .i64 e]) :
    bodyPostM Fence.wide 11 Tryz.prog Tryz.f45 (fun e w' => e = .returned v ∧ Below w.heap.size w w') .ret a W := by
  subst hv
  show LeavesInM Fence.wide 11 Tryz.prog Tryz.f45 a.tmps _ a.defers .returning W
  rw [hd]
  have hu := Tryz.underlying41
  have hb' : Below w.heap.size w (W.putObj D (.deferred none)) := hb.trans ⟨rfl, rfl, rfl, by simp, fun k hk => World.putObj_heap_other (by omega)⟩
  have g2 : (W.putObj D (.deferred none)).heap[w.heap.size + 1 + 1]? = some (.cells (eidCells x) 41) := (World.putObj_heap_other (by omega)).trans h2
  have g3 : (W.putObj D (.deferred none)).heap[w.heap.size + 1 + 1 + 1]? = some (.cells #[.int .i64 e] 28) := (World.putObj_heap_other (by omega)).trans h3
  refine ⟨by simp, .inl ⟨_, _, rfl, run_takeDeferred hD, ?_⟩⟩
  have c0 := cell_blk g2 0
  have c1 := cell_blk g2 1
  have c2 := cell_blk g2 2
  have c3 := cell_blk g2 3
  have c4 := cell_blk g2 4
  have d0 := cell_blk g3 0
  simp [eidCells] at c0 c1 c2 c3 c4 d0
  exact ⟨_, by simp [results, Tryz.f45, go_sem, Array.getD_eq_getD_getElem?, h4, h5, c0, c1, c2, c3, c4, d0, Eid.enc], rfl, hb'⟩
theorem set5 {W : World} {g : Nat} {t : TypeId} {y x : Eid} (h : W.heap[g]? = some (.cells (eidCells y) t)) :
    (((((W.setCell ⟨g, 0, none⟩ (.int .i64 x.s)).setCell ⟨g, 1, none⟩ (.string x.n)).setCell ⟨g, 2, none⟩ (.string x.v)).setCell ⟨g, 3, none⟩ (.int .i64 x.a)).setCell ⟨g, 4, none⟩ (.int .i64 x.b)).heap[g]? = some (.cells (eidCells x) t) :=
  YtbjbicaffblchaaGreatDoorW.PrintWords.blk_set (YtbjbicaffblchaaGreatDoorW.PrintWords.blk_set (YtbjbicaffblchaaGreatDoorW.PrintWords.blk_set (YtbjbicaffblchaaGreatDoorW.PrintWords.blk_set (YtbjbicaffblchaaGreatDoorW.PrintWords.blk_set h 0 _) 1 _) 2 _) 3 _) 4 _
theorem keepsOthers_below {A B : World} (h : Below A.heap.size A B) : KeepsOthers A B := ⟨h.size, fun _ _ hk _ => (h.block _ (Array.getElem?_eq_some_iff.1 hk).1).trans hk⟩
theorem keptR {n a b c k : Nat} (h1 : b = n + 6) (h2 : a = n + 4) (h3 : b ≤ c) (hk : k = a ∨ k = a + 1 ∨ k < NG) (h4 : 6 < n := by omega) : k < c := by
  rcases hk with rfl | rfl | hk
  · omega
  · omega
  · have : k < 6 + 1 := hk
    omega
theorem join_found {word rest : ByteArray} {pre : List Eid} {x : Eid} (hp : (pre ++ [x]) <+: cands word rest 3) (hn : ∀ z ∈ pre, isHalf word rest z = false) (hx : isHalf word rest x = true) : joinS word rest = some x := by
  obtain ⟨t, ht⟩ := hp
  unfold joinS
  rw [← ht, List.append_assoc, List.find?_append, List.find?_eq_none.2 (fun z hz => by rw [hn z hz]; decide)]
  simp [hx]
theorem alloc4 (w : World) (o0 o1 o2 o3 : Obj) : (((((w.alloc o0).alloc o1).alloc o2).alloc o3).heap.size = w.heap.size + 4) ∧ ((((w.alloc o0).alloc o1).alloc o2).alloc o3).heap[w.heap.size]? = some o0 ∧
    ((((w.alloc o0).alloc o1).alloc o2).alloc o3).heap[w.heap.size + 1]? = some o1 ∧ ((((w.alloc o0).alloc o1).alloc o2).alloc o3).heap[w.heap.size + 2]? = some o2 ∧ ((((w.alloc o0).alloc o1).alloc o2).alloc o3).heap[w.heap.size + 3]? = some o3 := by
  have h0 := World.alloc_heap_new w o0
  have h1 := World.alloc_heap_new (w.alloc o0) o1
  have h2 := World.alloc_heap_new ((w.alloc o0).alloc o1) o2
  have h3 := World.alloc_heap_new (((w.alloc o0).alloc o1).alloc o2) o3
  simp only [World.size_alloc] at h1 h2 h3
  refine ⟨by simp, ?_, ?_, ?_, h3⟩
  · exact YtbjbicaffblchaaGreatDoorW.PrintWords.blk_alloc (YtbjbicaffblchaaGreatDoorW.PrintWords.blk_alloc (YtbjbicaffblchaaGreatDoorW.PrintWords.blk_alloc h0 _) _) _
  · exact YtbjbicaffblchaaGreatDoorW.PrintWords.blk_alloc (YtbjbicaffblchaaGreatDoorW.PrintWords.blk_alloc h1 _) _
  · exact YtbjbicaffblchaaGreatDoorW.PrintWords.blk_alloc h2 _
theorem alloc2 (w : World) (o0 o1 : Obj) : (((w.alloc o0).alloc o1).heap.size = w.heap.size + 2) ∧ ((w.alloc o0).alloc o1).heap[w.heap.size]? = some o0 ∧ ((w.alloc o0).alloc o1).heap[w.heap.size + 1]? = some o1 := by
  have h0 := World.alloc_heap_new w o0
  have h1 := World.alloc_heap_new (w.alloc o0) o1
  simp only [World.size_alloc] at h1
  exact ⟨by simp, YtbjbicaffblchaaGreatDoorW.PrintWords.blk_alloc h0 _, h1⟩
set_option maxRecDepth 100000 in
set_option maxHeartbeats 4000000 in
theorem join_walk (word rest : ByteArray) (w : World) (hL : Laid w) (hr : rest.size < 4294967281) (h3 : 6 < w.heap.size) :
    Calls Tryz.prog 45 #[.string word, .string rest] w fun e w' =>
      e = .returned (joinV (joinS word rest)) ∧ Below w.heap.size w w' := by
  have hu := Tryz.underlying41
  have HL := Lib.hid hL
  clear hL
  refine (callsIn_wide (n := 11)).1 (callsIn_of_wp_marks Tryz.func45 rfl trivial (wpIn_wide.2 ?_) rfl)
  simp only [Tryz.ntmps45, List.size_toArray, List.length_cons, List.length_nil, Nat.reduceAdd, Nat.reduceSub, Array.replicate_succ, Array.replicate_zero, List.push_toArray, List.append_toArray, List.nil_append, List.cons_append]
  go_wp2_with (fail)
  obtain ⟨w1, hw1⟩ : ∃ w1, w1 = (((w.alloc (.cells #[.string word] 9)).alloc (.cells #[.string rest] 9)).alloc (.cells #[.int .i64 0, .string ⟨#[]⟩, .string ⟨#[]⟩, .int .i64 0, .int .i64 0] 41)).alloc (.cells #[.int .i64 0] 28) := ⟨_, rfl⟩
  have hb1 : Below w.heap.size w w1 := by rw [hw1]; exact b_alloc (b_alloc (b_alloc (b_alloc (Below.refl _ _) _) _) _) _
  obtain ⟨hs1, hz0, hz1, hz2, hz3⟩ := alloc4 w (.cells #[.string word] 9) (.cells #[.string rest] 9) (.cells #[.int .i64 0, .string ⟨#[]⟩, .string ⟨#[]⟩, .int .i64 0, .int .i64 0] 41) (.cells #[.int .i64 0] 28)
  rw [← hw1] at hs1 hz0 hz1 hz2 hz3
  rw [← hw1]
  clear hw1
  refine (readings_calls word rest w1).mono ?_
  rintro e w2' ⟨rfl, hw2⟩
  obtain ⟨hs2, hy0, hy1⟩ := alloc2 w1 (.cells #[.string word] 9) (.cells #[.string rest] 9)
  have hb2 : Below w1.heap.size w1 w2' := by rw [← hw2]; exact b_alloc (b_alloc (Below.refl _ _) _) _
  rw [hw2] at hs2 hy0 hy1
  clear hw2
  obtain ⟨w2, rfl⟩ : ∃ w2, w2 = w2' := ⟨_, rfl⟩
  have keep : ∀ (k : Nat) (o : Obj), w1.heap[k]? = some o → w2.heap[k]? = some o := fun k o h => (hb2.block _ (Array.getElem?_eq_some_iff.1 h).1).trans h
  have HZ0 := Lib.hid (keep _ _ hz0)
  have HZ1 := Lib.hid (keep _ _ hz1)
  have HZ2 := Lib.hid (keep _ _ hz2)
  have HZ3 := Lib.hid (keep _ _ hz3)
  have HB := Lib.hid (hb1.trans (hb2.mono hb1.size))
  have HL2 := Lib.hid (HL.out.below (hb1.trans (hb2.mono hb1.size)))
  have HY0 := Lib.hid hy0
  have HY1 := Lib.hid hy1
  have HS2 := Lib.hid (show w2.heap.size = w.heap.size + 6 by omega)
  have hS1 := Lib.hid hs1
  clear keep hz0 hz1 hz2 hz3 hb1 hb2 hy0 hy1 hs2 hs1
  go_wp2_with (fail)
  refine rangeFuncW (gf := 72) (lb := #[.pointer (some ⟨w1.heap.size, 0, none⟩), .pointer (some ⟨w1.heap.size + 1, 0, none⟩)]) rfl (Go.Proofs.enters_of Tryz.func72 (by kernel_rfl) rfl)
    (readings_iter word rest w1.heap.size (w1.heap.size + 1) w2 HL2.out hr HY0.out HY1.out (by have := HS2.out; omega)) (fun _ h => h.elim) ?hR (Below.refl _ _) (fun _ => rfl)
    (fun pre W => (∀ x ∈ pre, isHalf word rest x = false) ∧ joinFr word rest w W) (fun c _ W => c = .ret ∧ joinTo word rest w W)
    ?hI ?hIx ?h0 ?hround ?hdone ?hstop
  case hR =>
    have e1 := HS2.out
    have e2 := hS1.out
    rintro k (rfl | rfl | h)
    · omega
    · omega
    · have : k < 6 + 1 := h
      omega
  case hI => exact fun s A B hs hk => ⟨hs.1, joinFr_keep hs.2 hk (by have := HS2.out; omega)⟩
  case hIx => exact fun c s A B hs hk => ⟨hs.1, joinTo_keep hs.2 hk (by have := HS2.out; omega)⟩
  case h0 => exact ⟨(fun x hx => by cases hx), HB.out, HZ0.out, HZ1.out, HZ2.out, HZ3.out⟩
  case hround =>
    intro l pre x W K hlw hloop hi hpre hK
    obtain ⟨hno, hfr⟩ := hi
    have hxm : x ∈ cands word rest 3 := hpre.subset (by simp)
    obtain ⟨hxn, hxv⟩ := cands_size word rest x hxm
    have HK := Lib.hid hK
    have HFR := Lib.hid hfr
    have HNO := Lib.hid hno
    have HPRE := Lib.hid hpre
    clear hK hfr hno hpre hxm
    unfold Eid.enc
    dsimp only
    gi_wp2
    refine HK.out _ _ ((KeepsOthers.alloc _ _).from _) (fun k hk => Below.heap_alloc _ _ _ ?_) ?_
    · obtain ⟨r0, hr0⟩ := hloop
      have hl0 : l < W.heap.size := (Array.getElem?_eq_some_iff.1 hr0).1
      have e1 := HS2.out
      have e2 := hS1.out
      rcases hk with rfl | rfl | hk
      · omega
      · omega
      · have : k < 6 + 1 := hk
        omega
    · intro W1 hkx hl1 hsz1
      have hxb := hkx.blk (World.alloc_heap_new W (.cells #[.int .i64 x.s, .string x.n, .string x.v, .int .i64 x.a, .int .i64 x.b] 41)) id
      have hfr1 := joinFr_keep (joinFr_below HFR.out (b_alloc (Below.refl _ _) _)) hkx (by have := HS2.out; omega)
      have hxlt : W.heap.size < W1.heap.size := (Array.getElem?_eq_some_iff.1 hxb).1
      have x0 : W1.cell? ⟨W.heap.size, 0, none⟩ = some (.int .i64 x.s) := cell_blk hxb 0
      have x1 : W1.cell? ⟨W.heap.size, 1, none⟩ = some (.string x.n) := cell_blk hxb 1
      have x2 : W1.cell? ⟨W.heap.size, 2, none⟩ = some (.string x.v) := cell_blk hxb 2
      have x3 : W1.cell? ⟨W.heap.size, 3, none⟩ = some (.int .i64 x.a) := cell_blk hxb 3
      have x4 : W1.cell? ⟨W.heap.size, 4, none⟩ = some (.int .i64 x.b) := cell_blk hxb 4
      have HXB := Lib.hid hxb
      have HF1 := Lib.hid hfr1
      clear hxb hfr1 hkx hl1
      obtain ⟨y1, y2, y3, hy⟩ : ∃ y1 y2 y3, halvesS x.s x.n x.v x.a x.b = (y1, y2, y3) := ⟨_, _, _, rfl⟩
      have HYY := Lib.hid hy
      clear hy
      gi_wp2_with (fail)
      refine ⟨trivial, (CallsIn.inRound l (callsIn_wide.2 (eid_Halves.calls x.s x.n x.v x.a x.b y1 y2 y3 W1 (HL.out.below HF1.out.1) ?_))).mono ?_⟩
      · unfold eid_Halves.f
        rw [if_pos ⟨by unfold maxLen; omega, by unfold maxLen; omega⟩, HYY.out]
      · rintro e w4 ⟨rfl, hb4⟩
        have hfr4 := joinFr_below HF1.out hb4
        have hxb4 := (hb4.block _ hxlt).trans HXB.out
        have hw0 : w4.cell? ⟨w.heap.size, 0, none⟩ = some (.string word) := cell_blk hfr4.2.1 0
        have hw1 : w4.cell? ⟨w.heap.size + 1, 0, none⟩ = some (.string rest) := cell_blk hfr4.2.2.1 0
        have HF4 := Lib.hid hfr4
        have HX4 := Lib.hid hxb4
        have HB4 := Lib.hid hb4
        clear hfr4 hxb4 hb4
        gi_wp2_with (fail)
        refine ⟨trivial, (CallsIn.inRound l (callsIn_wide.2 (areAll3 (y3 == 0) (y1.toList == word.toList) (y2.toList == rest.toList) w4.heap.size _ (World.alloc_heap_new _ _)))).mono ?_⟩
        rintro e w5 ⟨rfl, hb5⟩
        have hb45 : Below w4.heap.size w4 w5 := (b_alloc (Below.refl _ _) _).trans (hb5.mono (by simp))
        have hfr5 := joinFr_below HF4.out hb45
        have hxlt4 : W.heap.size < w4.heap.size := (Array.getElem?_eq_some_iff.1 HX4.out).1
        have hxb5 := (hb45.block _ hxlt4).trans HX4.out
        have hb15 : Below W1.heap.size W1 w5 := HB4.out.trans (hb45.mono HB4.out.size)
        have hval : (y3 == 0 && (y1.toList == word.toList && y2.toList == rest.toList)) = isHalf word rest x := by unfold isHalf; rw [HYY.out]
        rw [hval]
        have HF5 := Lib.hid hfr5
        have HX5 := Lib.hid hxb5
        have HB15 := Lib.hid hb15
        clear hb5 hb45 hfr5 hxb5 hb15 hval hw0 hw1 x0 x1 x2 x3 x4
        cases hh : isHalf word rest x with
        | false =>
          have HH := Lib.hid hh
          clear hh
          gi_wp2
          exact ⟨(keepsOthers_below HB15.out).from _, fun k hk => HB15.out.block k (keptR HS2.out hS1.out hsz1 hk), fun z hz => by
            rcases List.mem_append.1 hz with hz | hz
            · exact HNO.out z hz
            · rw [List.mem_singleton.1 hz]; exact HH.out, HF5.out⟩
        | true =>
          have HH := Lib.hid hh
          clear hh
          have g0 : w5.cell? ⟨W.heap.size, 0, none⟩ = some (.int .i64 x.s) := cell_blk HX5.out 0
          have g1 : w5.cell? ⟨W.heap.size, 1, none⟩ = some (.string x.n) := cell_blk HX5.out 1
          have g2 : w5.cell? ⟨W.heap.size, 2, none⟩ = some (.string x.v) := cell_blk HX5.out 2
          have g3 : w5.cell? ⟨W.heap.size, 3, none⟩ = some (.int .i64 x.a) := cell_blk HX5.out 3
          have g4 : w5.cell? ⟨W.heap.size, 4, none⟩ = some (.int .i64 x.b) := cell_blk HX5.out 4
          gi_wp2_with (fail)
          refine ⟨trivial, (CallsIn.inRound l (callsIn_wide.2 (api_Eid.calls x.s x.n x.v x.a x.b true x.s x.n x.v x.a x.b 0 _ (by unfold api_Eid.f; rw [if_pos rfl])))).mono ?_⟩
          rintro e w6 ⟨rfl, hb6⟩
          have hfr6 := joinFr_below HF5.out hb6
          have k2 : w6.heap[w.heap.size + 1 + 1]? = some (.cells (eidCells zeroEid) 41) := hfr6.2.2.2.1
          have k3 : w6.heap[w.heap.size + 1 + 1 + 1]? = some (.cells #[.int .i64 0] 28) := hfr6.2.2.2.2
          have c0 : w6.cell? ⟨w.heap.size + 1 + 1, 0, none⟩ = some (.int .i64 0) := cell_blk k2 0
          have c1 : w6.cell? ⟨w.heap.size + 1 + 1, 1, none⟩ = some (.string ⟨#[]⟩) := cell_blk k2 1
          have c2 : w6.cell? ⟨w.heap.size + 1 + 1, 2, none⟩ = some (.string ⟨#[]⟩) := cell_blk k2 2
          have c3 : w6.cell? ⟨w.heap.size + 1 + 1, 3, none⟩ = some (.int .i64 0) := cell_blk k2 3
          have c4 : w6.cell? ⟨w.heap.size + 1 + 1, 4, none⟩ = some (.int .i64 0) := cell_blk k2 4
          have d0 : w6.cell? ⟨w.heap.size + 1 + 1 + 1, 0, none⟩ = some (.int .i64 0) := cell_blk k3 0
          have f0 : ∀ j, w6.frozen? ⟨w.heap.size + 1 + 1, j, none⟩ = false := fun j => frozen_blk k2 j
          have f1 : w6.frozen? ⟨w.heap.size + 1 + 1 + 1, 0, none⟩ = false := frozen_blk k3 0
          have HK2 := Lib.hid k2
          have HK3 := Lib.hid k3
          have HF6 := Lib.hid hfr6
          have HB6 := Lib.hid hb6
          clear k2 k3 hfr6 hb6 g0 g1 g2 g3 g4
          gi_wp2
          refine ⟨?_, rfl, ?_, x, ?_, ?_, ?_⟩
          · have hk : KeepsOthers W1 w6 := (keepsOthers_below HB15.out).trans (keepsOthers_below HB6.out)
            exact ((((((hk.trans (KeepsOthers.setCell _ _ _)).trans (KeepsOthers.setCell _ _ _)).trans (KeepsOthers.setCell _ _ _)).trans (KeepsOthers.setCell _ _ _)).trans (KeepsOthers.setCell _ _ _)).trans (KeepsOthers.setCell _ _ _)).from _
          · iterate 6 refine Below.setCell ?_ (by simp; omega) _
            exact HF6.out.1
          · exact join_found HPRE.out HNO.out HH.out
          · exact (Below.heap_setCell _ _ _ _ (by simp)).trans (set5 (x := x) HK2.out)
          · refine YtbjbicaffblchaaGreatDoorW.PrintWords.blk_set (?_ : _ = some (Obj.cells #[.int .i64 0] 28)) 0 _
            iterate 5 refine (Below.heap_setCell _ _ _ _ (by simp)).trans ?_
            exact HK3.out
  case hdone =>
    intro D W hD hi hd
    obtain ⟨hno, hb, hf0, hf1, hf2, hf3⟩ := hi
    have hj : joinS word rest = none := List.find?_eq_none.2 fun x hx => by rw [hno x hx]; decide
    have HD := Lib.hid hd
    have HBB := Lib.hid hb
    have HF2 := Lib.hid hf2
    have HF3 := Lib.hid hf3
    have HJN := Lib.hid hj
    have hs2 := HS2.out
    have hn2 : w.heap.size + 2 < W.heap.size := (Array.getElem?_eq_some_iff.1 hf2).1
    have hn3 : w.heap.size + 3 < W.heap.size := (Array.getElem?_eq_some_iff.1 hf3).1
    have hDW : D < W.heap.size := (Array.getElem?_eq_some_iff.1 hd).1
    have hDn : w.heap.size + 3 < D := by omega
    clear hd hb hf0 hf1 hf2 hf3 hno hj hs2 hD
    go_wp2_with (fail)
    refine (api_Eid.calls 0 ⟨#[]⟩ ⟨#[]⟩ 0 0 false 0 ⟨#[]⟩ ⟨#[]⟩ 0 0 60 _ (by unfold api_Eid.f; rw [if_neg (by decide)])).mono ?_
    rintro e w5 ⟨rfl, hb5⟩
    have k2 : w5.heap[w.heap.size + 1 + 1]? = some (.cells (eidCells zeroEid) 41) := (hb5.block _ hn2).trans HF2.out
    have k3 : w5.heap[w.heap.size + 1 + 1 + 1]? = some (.cells #[.int .i64 0] 28) := (hb5.block _ hn3).trans HF3.out
    have hD5 : w5.heap[D]? = some (.deferred (some [])) := (hb5.block _ hDW).trans HD.out
    have c0 : w5.cell? ⟨w.heap.size + 1 + 1, 0, none⟩ = some (.int .i64 0) := cell_blk k2 0
    have c1 : w5.cell? ⟨w.heap.size + 1 + 1, 1, none⟩ = some (.string ⟨#[]⟩) := cell_blk k2 1
    have c2 : w5.cell? ⟨w.heap.size + 1 + 1, 2, none⟩ = some (.string ⟨#[]⟩) := cell_blk k2 2
    have c3 : w5.cell? ⟨w.heap.size + 1 + 1, 3, none⟩ = some (.int .i64 0) := cell_blk k2 3
    have c4 : w5.cell? ⟨w.heap.size + 1 + 1, 4, none⟩ = some (.int .i64 0) := cell_blk k2 4
    have d0 : w5.cell? ⟨w.heap.size + 1 + 1 + 1, 0, none⟩ = some (.int .i64 0) := cell_blk k3 0
    have f0 : ∀ j, w5.frozen? ⟨w.heap.size + 1 + 1, j, none⟩ = false := fun j => frozen_blk k2 j
    have f1 : w5.frozen? ⟨w.heap.size + 1 + 1 + 1, 0, none⟩ = false := frozen_blk k3 0
    have HK2 := Lib.hid k2
    have HK3 := Lib.hid k3
    have HD5 := Lib.hid hD5
    have HB5 := Lib.hid hb5
    clear k2 k3 hD5 hb5
    go_wp2
    refine join_end w _ D zeroEid 60 _ rfl rfl rfl ?_ ?_ ?_ hDn ?_ _ (by rw [HJN.out]; rfl)
    · exact (Below.heap_setCell _ _ _ _ (by simp)).trans (set5 (x := zeroEid) HK2.out)
    · refine YtbjbicaffblchaaGreatDoorW.PrintWords.blk_set (?_ : _ = some (Obj.cells #[.int .i64 0] 28)) 0 _
      iterate 5 refine (Below.heap_setCell _ _ _ _ (by simp)).trans ?_
      exact HK3.out
    · iterate 6 refine (Below.heap_setCell _ _ _ _ (by simp; omega)).trans ?_
      exact HD5.out
    · have hbw := HBB.out.trans (HB5.out.mono HBB.out.size)
      iterate 6 refine Below.setCell ?_ (by simp; omega) _
      exact hbw
  case hstop =>
    intro D c pre W hD hp hx hd
    obtain ⟨rfl, hb, x, hj, hf2, hf3⟩ := hx
    have HJN := Lib.hid hj
    have hs2 := HS2.out
    have hDn : w.heap.size + 3 < D := by omega
    clear hj hs2 hD
    go_wp2
    exact join_end w W D x 0 _ rfl rfl rfl hf2 hf3 hd hDn hb _ (by rw [HJN.out]; rfl)
end Go.Proofs.YtbjbicaffblchaaGreatDoor.Hand
end
section
namespace Go.Proofs.YtbjbicaffblchaaGreatDoor.Hand
open Go.RowKit
theorem Laid.size {w : World} (h : Laid w) : 6 < w.heap.size := by
  obtain ⟨_, _, _, ⟨_, _, h2⟩⟩ := h
  have := World.block_lt_of_cell? w _ h2
  exact Nat.lt_of_le_of_lt (by decide) this
def joinT (a0 a1 : ByteArray) : Int × ByteArray × ByteArray × Int × Int × Int :=
  match joinS a0 a1 with
  | some x => (x.s, x.n, x.v, x.a, x.b, 0)
  | none => (0, ⟨#[]⟩, ⟨#[]⟩, 0, 0, 60)
def eid_Join.f (a0 a1 : ByteArray) : Option (Int × ByteArray × ByteArray × Int × Int × Int) := if a1.size < 4294967281 then some (joinT a0 a1) else none
theorem eid_Join.calls (a0 a1 : ByteArray) (r1 : Int) (r2 r3 : ByteArray) (r4 r5 r6 : Int) (w : World) (hLd : Laid w) (h : eid_Join.f a0 a1 = some (r1, r2, r3, r4, r5, r6)) :
    Calls Tryz.prog 45 #[.string a0, .string a1] w fun e w' => e = .returned (.tuple #[.agg #[.int .i64 r1, .string r2, .string r3, .int .i64 r4, .int .i64 r5], .int .i64 r6]) ∧ Below w.heap.size w w' := by
  unfold eid_Join.f at h
  split at h
  case isFalse => cases h
  rename_i hs
  obtain h := Option.some.inj h
  refine (join_walk a0 a1 w hLd hs hLd.size).mono fun e w' he => ⟨?_, he.2⟩
  rw [he.1]
  unfold joinT at h
  cases hj : joinS a0 a1 with
  | none =>
    rw [hj] at h
    simp only [Prod.mk.injEq] at h
    obtain ⟨rfl, rfl, rfl, rfl, rfl, rfl⟩ := h
    rfl
  | some x =>
    rw [hj] at h
    simp only [Prod.mk.injEq] at h
    obtain ⟨rfl, rfl, rfl, rfl, rfl, rfl⟩ := h
    rfl
end Go.Proofs.YtbjbicaffblchaaGreatDoor.Hand
end
section
namespace Go.Proofs.YtbjbicaffblchaaGreatDoor.Hand
open Go.RowKit
structure LaidAt (w : World) (am ae ad : Addr) : Prop where
  many : ErrAt w 1 am
  eid : ErrAt w 2 ae
  dict : ErrAt w 0 ad
  n1 : am ≠ ae
  n2 : am ≠ ad
  n3 : ae ≠ ad
theorem LaidAt.below {w w' : World} {am ae ad : Addr} (h : LaidAt w am ae ad) (hb : Below w.heap.size w w') : LaidAt w' am ae ad := ⟨h.many.below hb, h.eid.below hb, h.dict.below hb, h.n1, h.n2, h.n3⟩
structure LaidD (w : World) : Prop where
  laid : Laid w
  errs : ∃ am ae ad, LaidAt w am ae ad
theorem LaidD.below {w w' : World} (h : LaidD w) (hb : Below w.heap.size w w') : LaidD w' := by
  obtain ⟨h1, am, ae, ad, h2⟩ := h
  exact ⟨h1.below hb, am, ae, ad, h2.below hb⟩
set_option maxRecDepth 100000 in
theorem either_int_many (v : Int) (w : World) (am ae ad : Addr) (h : LaidAt w am ae ad) :
    Calls Tryz.prog 25 #[.int .i64 v, errV am] w fun e w' => e = .returned (.tuple #[.int .i64 0, .int .i64 71]) ∧ w' = w := by
  obtain ⟨⟨hm, cm, tm, bm⟩, ⟨he, ce, te, be⟩, ⟨hd, cd, td, bd⟩, n1, n2, n3⟩ := h
  have s0 := is_same am w
  clear bm be bd
  unfold errV at *
  go_enter Tryz.func25, Tryz.ntmps25
  go_wp2_with (go_at_call 42; with_reducible refine s0.mono ?_; rintro e w' ⟨rfl, rfl⟩)
  go_ret2
  exact ⟨rfl, rfl⟩
set_option maxRecDepth 100000 in
theorem either_int_eid (v : Int) (w : World) (am ae ad : Addr) (h : LaidAt w am ae ad) :
    Calls Tryz.prog 25 #[.int .i64 v, errV ae] w fun e w' => e = .returned (.tuple #[.int .i64 0, .int .i64 60]) ∧ w' = w := by
  obtain ⟨⟨hm, cm, tm, bm⟩, ⟨he, ce, te, be⟩, ⟨hd, cd, td, bd⟩, n1, n2, n3⟩ := h
  have s0 := is_other ae am ce cm te tm w n1.symm be bm
  have s1 := is_same ae w
  clear bm be bd
  unfold errV at *
  go_enter Tryz.func25, Tryz.ntmps25
  go_wp2_with (go_at_call 42; (first | (with_reducible refine s0.mono ?_) | (with_reducible refine s1.mono ?_)); rintro e w' ⟨rfl, rfl⟩)
  go_ret2
  exact ⟨rfl, rfl⟩
set_option maxRecDepth 100000 in
theorem either_eids_dict (A : Option Addr) (n c : Nat) (w : World) (am ae ad : Addr) (h : LaidAt w am ae ad) :
    Calls Tryz.prog 29 #[.slice A n c, errV ad] w fun e w' => e = .returned (.tuple #[.slice none 0 0, .int .i64 70]) ∧ w' = w := by
  obtain ⟨⟨hm, cm, tm, bm⟩, ⟨he, ce, te, be⟩, ⟨hd, cd, td, bd⟩, n1, n2, n3⟩ := h
  have s0 := is_other ad am cd cm td tm w n2.symm bd bm
  have s1 := is_other ad ae cd ce td te w n3.symm bd be
  have s2 := is_same ad w
  clear bm be bd
  unfold errV at *
  go_enter Tryz.func29, Tryz.ntmps29
  go_wp2_with (go_at_call 42; (first | (with_reducible refine s0.mono ?_) | (with_reducible refine s1.mono ?_) | (with_reducible refine s2.mono ?_)); rintro e w' ⟨rfl, rfl⟩)
  go_ret2
  exact ⟨rfl, rfl⟩
set_option maxRecDepth 100000 in
theorem either_eids_nil (A : Option Addr) (n c : Nat) (w : World) (am ae ad : Addr) (h : LaidAt w am ae ad) :
    Calls Tryz.prog 29 #[.slice A n c, .nilIface] w fun e w' => e = .returned (.tuple #[.slice A n c, .int .i64 0]) ∧ w' = w := by
  obtain ⟨⟨hm, cm, tm, bm⟩, ⟨he, ce, te, be⟩, ⟨hd, cd, td, bd⟩, n1, n2, n3⟩ := h
  have s0 := is_nil am w
  have s1 := is_nil ae w
  have s2 := is_nil ad w
  clear bm be bd
  unfold errV at *
  go_enter Tryz.func29, Tryz.ntmps29
  go_wp2_with (go_at_call 42; (first | (with_reducible refine s0.mono ?_) | (with_reducible refine s1.mono ?_) | (with_reducible refine s2.mono ?_)); rintro e w' ⟨rfl, rfl⟩)
  go_ret2
  exact ⟨rfl, rfl⟩
set_option maxRecDepth 100000 in
theorem either_strs_dict (A : Option Addr) (n c : Nat) (w : World) (am ae ad : Addr) (h : LaidAt w am ae ad) :
    Calls Tryz.prog 34 #[.slice A n c, errV ad] w fun e w' => e = .returned (.tuple #[.slice none 0 0, .int .i64 70]) ∧ w' = w := by
  obtain ⟨⟨hm, cm, tm, bm⟩, ⟨he, ce, te, be⟩, ⟨hd, cd, td, bd⟩, n1, n2, n3⟩ := h
  have s0 := is_other ad am cd cm td tm w n2.symm bd bm
  have s1 := is_other ad ae cd ce td te w n3.symm bd be
  have s2 := is_same ad w
  clear bm be bd
  unfold errV at *
  go_enter Tryz.func34, Tryz.ntmps34
  go_wp2_with (go_at_call 42; (first | (with_reducible refine s0.mono ?_) | (with_reducible refine s1.mono ?_) | (with_reducible refine s2.mono ?_)); rintro e w' ⟨rfl, rfl⟩)
  go_ret2
  exact ⟨rfl, rfl⟩
set_option maxRecDepth 100000 in
theorem either_strs_nil (A : Option Addr) (n c : Nat) (w : World) (am ae ad : Addr) (h : LaidAt w am ae ad) :
    Calls Tryz.prog 34 #[.slice A n c, .nilIface] w fun e w' => e = .returned (.tuple #[.slice A n c, .int .i64 0]) ∧ w' = w := by
  obtain ⟨⟨hm, cm, tm, bm⟩, ⟨he, ce, te, be⟩, ⟨hd, cd, td, bd⟩, n1, n2, n3⟩ := h
  have s0 := is_nil am w
  have s1 := is_nil ae w
  have s2 := is_nil ad w
  clear bm be bd
  unfold errV at *
  go_enter Tryz.func34, Tryz.ntmps34
  go_wp2_with (go_at_call 42; (first | (with_reducible refine s0.mono ?_) | (with_reducible refine s1.mono ?_) | (with_reducible refine s2.mono ?_)); rintro e w' ⟨rfl, rfl⟩)
  go_ret2
  exact ⟨rfl, rfl⟩
end Go.Proofs.YtbjbicaffblchaaGreatDoor.Hand
end
section
namespace Go.Proofs.YtbjbicaffblchaaGreatDoor.Hand
open Go.RowKit
theorem ba_ext {a b : ByteArray} (h : a.toList = b.toList) : a = b := by
  rw [ByteArray.toList_eq, ByteArray.toList_eq] at h
  exact ByteArray.ext (Array.toList_inj.1 h)
theorem ba_nil {a : ByteArray} (h : a.toList = []) : a = ⟨#[]⟩ := ba_ext (h.trans (by rw [ByteArray.toList_eq]))
theorem index_one (c : UInt8) (q : List UInt8) : ∀ p : List UInt8, c ∉ p → Lib.index (p ++ c :: q) [c] = p.length
  | [], _ => by simp [Lib.index]
  | b :: p, h => by
    have hb : c ≠ b := fun e => h (e ▸ List.mem_cons_self ..)
    have hp : c ∉ p := fun e => h (List.mem_cons_of_mem _ e)
    have ih := index_one c q p hp
    simp only [List.cons_append, Lib.index]
    rw [ih]
    simp [hb, List.isPrefixOf]
    try omega
theorem cut_one (c : UInt8) (p q : List UInt8) (h : c ∉ p) : Lib.cut (p ++ c :: q) [c] = (p, q, true) := by
  unfold Lib.cut
  rw [index_one c q p h, if_pos (by omega)]
  simp
theorem dig_ok : ∀ u : Nat, ∀ d ∈ Lib.decDigits u, 48 ≤ d.toNat ∧ d.toNat ≤ 57 := by
  intro u
  induction u using Nat.strongRecOn with
  | _ u ih =>
    intro d hd
    rw [Lib.decDigits] at hd
    split at hd
    · simp only [List.mem_singleton] at hd
      subst hd
      have : (UInt8.ofNat (48 + u)).toNat = 48 + u := by simp; omega
      omega
    · rcases List.mem_append.1 hd with hd | hd
      · exact ih (u / 10) (by omega) d hd
      · simp only [List.mem_singleton] at hd
        subst hd
        have : (UInt8.ofNat (48 + u % 10)).toNat = 48 + u % 10 := by simp; omega
        omega
theorem dig_len : ∀ k u : Nat, u < 10 ^ (k + 1) → (Lib.decDigits u).length ≤ k + 1 := by
  intro k
  induction k with
  | zero =>
    intro u hu
    rw [Lib.decDigits, dif_pos (by omega)]
    simp
  | succ k ih =>
    intro u hu
    rw [Lib.decDigits]
    split
    · simp
    · have := ih (u / 10) (by rw [Nat.pow_succ] at hu; omega)
      simp
      omega
theorem dig_ne (u : Nat) : Lib.decDigits u ≠ [] := by
  rw [Lib.decDigits]
  split <;> simp
theorem parse_app : ∀ (l r : List UInt8) (acc v : Nat), Lib.parseUint10 acc l = .ok v → Lib.parseUint10 acc (l ++ r) = Lib.parseUint10 v r
  | [], r, acc, v, h => by
    simp only [Lib.parseUint10] at h
    injection h with h
    subst h
    rfl
  | c :: l, r, acc, v, h => by
    simp only [Lib.parseUint10, List.cons_append] at h ⊢
    split at h
    · split at h
      · cases h
      · split at h
        · cases h
        · rename_i h1 h2 h3
          rw [if_pos h1, if_neg h2, if_neg h3]
          exact parse_app l r _ v h
    · cases h
theorem parse_dig : ∀ u : Nat, u ≤ 1000000000000000000 → Lib.parseUint10 0 (Lib.decDigits u) = .ok u := by
  intro u
  induction u using Nat.strongRecOn with
  | _ u ih =>
    intro hu
    rw [Lib.decDigits]
    split
    · have : (UInt8.ofNat (48 + u)).toNat = 48 + u := by simp; omega
      simp only [Lib.parseUint10, this]
      rw [if_pos (by omega), if_neg (by omega), if_neg (by omega)]
      congr 1
      omega
    · rw [parse_app _ _ _ _ (ih (u / 10) (by omega) (by omega))]
      have : (UInt8.ofNat (48 + u % 10)).toNat = 48 + u % 10 := by simp; omega
      simp only [Lib.parseUint10, this]
      rw [if_pos (by omega), if_neg (by omega), if_neg (by omega)]
      congr 1
      omega
theorem itoa_dig (a : Int) (h : 0 ≤ a) : Lib.itoa a = Lib.decDigits a.toNat := by
  unfold Lib.itoa
  rw [if_neg (by omega)]
theorem atoi_itoa (a : Int) (h : 0 ≤ a) (h2 : a ≤ 999999999) : atoiNum (Lib.itoa a) = a := by
  have hp := parse_dig a.toNat (by omega)
  rw [itoa_dig a h]
  cases hd : Lib.decDigits a.toNat with
  | nil => exact absurd hd (dig_ne _)
  | cons c r =>
    have hc := dig_ok a.toNat c (by rw [hd]; exact List.mem_cons_self ..)
    unfold atoiNum Lib.atoiAll
    rw [hd] at hp
    simp only
    rw [if_neg (by omega)]
    unfold Lib.parseMag
    rw [if_neg (by simp), hp]
    simp only
    rw [if_neg (by omega), if_neg (by omega), if_neg (by omega)]
    simp
    omega
theorem restDtn_data (a1 a2 : ByteArray) : (restDtn a1 a2).data.toList = [47, 47] ++ (a1.data.toList ++ 47 :: a2.data.toList) := by
  unfold restDtn
  simp [ByteArray.data_append]
theorem restIpn_data (a3 a4 : Int) : (restIpn a3 a4).data.toList = Lib.itoa a3 ++ 46 :: Lib.itoa a4 := by
  unfold restIpn txt
  simp [ByteArray.data_append]
theorem txt_data (a : ByteArray) : txt a.data.toList = a := by
  unfold txt
  simp
theorem part_no {a : ByteArray} {signs : ByteArray} {c : UInt8} (h : partS a signs = true) (hc : okByte signs c = false) : c ∉ a.data.toList := by
  intro hm
  unfold partS at h
  simp only [Bool.and_eq_true, List.all_eq_true] at h
  rw [h.1 c hm] at hc
  cases hc
theorem dtn_parts (a1 a2 : ByteArray) (h : partS a1 ⟨#[45, 46]⟩ = true) : dtnParts (restDtn a1 a2) = (a1, a2) := by
  have hn : (47 : UInt8) ∉ a1.data.toList := part_no h (by decide)
  unfold dtnParts
  have ht : Lib.trimPrefix (restDtn a1 a2).data.toList [47, 47] = a1.data.toList ++ 47 :: a2.data.toList := by
    rw [restDtn_data]
    unfold Lib.trimPrefix Lib.hasPrefix
    simp [List.isPrefixOf]
  rw [ht, cut_one _ _ _ hn, txt_data, txt_data]
theorem ipn_parts (a3 a4 : Int) (h3 : 0 ≤ a3) (h3' : a3 ≤ 999999999) (h4 : 0 ≤ a4) (h4' : a4 ≤ 999999999) : ipnParts (restIpn a3 a4) = (a3, a4) := by
  have hn : (46 : UInt8) ∉ Lib.itoa a3 := by
    intro hm
    rw [itoa_dig a3 h3] at hm
    have := dig_ok _ _ hm
    simp at this
  unfold ipnParts
  rw [restIpn_data, cut_one _ _ _ hn]
  simp only
  rw [atoi_itoa a3 h3 h3', atoi_itoa a4 h4 h4']
theorem right_none2 {a1 a2 : ByteArray} {a3 a4 : Int} (h : rightS 0 a1 a2 a3 a4 = true) : a1 = ⟨#[]⟩ ∧ a2 = ⟨#[]⟩ ∧ a3 = 0 ∧ a4 = 0 := by
  unfold rightS at h
  rw [if_pos rfl] at h
  simp only [Bool.and_eq_true, beq_iff_eq] at h
  exact ⟨ba_nil h.1, ba_nil h.2.1, h.2.2.1, h.2.2.2⟩
theorem right_num {n : Int} {a1 a2 : ByteArray} {a3 a4 : Int} (h : rightS n a1 a2 a3 a4 = true) : n = 0 ∨ n = 1 ∨ n = 2 := by
  unfold rightS at h
  by_cases h0 : n = 0
  · exact .inl h0
  · by_cases h1 : n = 1
    · exact .inr (.inl h1)
    · by_cases h2 : n = 2
      · exact .inr (.inr h2)
      · rw [if_neg h0, if_neg h1, if_neg h2] at h
        cases h
theorem half_is {word rest : ByteArray} {x : Eid} : isHalf word rest x = true ↔ rightS x.s x.n x.v x.a x.b = true ∧ wordS x.s = word ∧ restS x.s x.n x.v x.a x.b = rest := by
  unfold isHalf halvesS
  by_cases hr : rightS x.s x.n x.v x.a x.b = true
  · rw [if_pos hr]
    simp only [hr, Bool.and_eq_true, beq_iff_eq, true_and]
    exact ⟨fun h => ⟨ba_ext h.1, ba_ext h.2⟩, fun h => ⟨by rw [h.1], by rw [h.2]⟩⟩
  · rw [if_neg hr]
    simp [hr]
theorem join_right {word rest : ByteArray} {x : Eid} (h : joinS word rest = some x) : rightS x.s x.n x.v x.a x.b = true ∧ wordS x.s = word ∧ restS x.s x.n x.v x.a x.b = rest :=
  half_is.1 (List.find?_some h)
theorem join_of {n : Int} {a1 a2 : ByteArray} {a3 a4 : Int} (h : rightS n a1 a2 a3 a4 = true) : joinS (wordS n) (restS n a1 a2 a3 a4) = some ⟨n, a1, a2, a3, a4⟩ := by
  have hh : isHalf (wordS n) (restS n a1 a2 a3 a4) ⟨n, a1, a2, a3, a4⟩ = true := half_is.2 ⟨h, rfl, rfl⟩
  rcases right_num h with rfl | rfl | rfl
  · obtain ⟨rfl, rfl, rfl, rfl⟩ := right_none2 h
    unfold joinS cands
    rw [if_pos ⟨by decide, by rw [ByteArray.toList_eq]; rfl⟩]
    simp only [List.cons_append, List.nil_append, List.find?_cons]
    rw [hh]
  · obtain ⟨_, hp, _, h3, h4⟩ := right_dtn h
    subst h3 h4
    unfold joinS cands
    rw [if_pos ⟨by decide, by rw [ByteArray.toList_eq]; rfl⟩, if_pos ⟨by decide, by rw [ByteArray.toList_eq]; rfl⟩]
    simp only [List.cons_append, List.nil_append, List.find?_cons]
    have h0 : isHalf (wordS 1) (restS 1 a1 a2 0 0) ⟨0, ⟨#[]⟩, ⟨#[]⟩, 0, 0⟩ = false := by
      rw [Bool.eq_false_iff]
      intro hc
      have h2 := (half_is.1 hc).2.2
      have h3 : wNone.data.toList = (restDtn a1 a2).data.toList := congrArg (fun z : ByteArray => z.data.toList) h2
      rw [restDtn_data] at h3
      simp [wNone] at h3
    rw [h0]
    simp only
    rw [show restS 1 a1 a2 0 0 = restDtn a1 a2 from rfl, dtn_parts a1 a2 hp]
    rw [show restS 1 a1 a2 0 0 = restDtn a1 a2 from rfl] at hh
    rw [hh]
  · obtain ⟨h1, h2, h3, h3', h4, h4'⟩ := right_ipn h
    obtain rfl := ba_nil h1
    obtain rfl := ba_nil h2
    unfold joinS cands
    rw [if_neg (by rw [ByteArray.toList_eq]; rintro ⟨_, h⟩; revert h; decide), if_neg (by rw [ByteArray.toList_eq]; rintro ⟨_, h⟩; revert h; decide), if_pos ⟨by decide, by rw [ByteArray.toList_eq]; rfl⟩]
    simp only [List.nil_append, List.find?_cons]
    rw [show restS 2 ⟨#[]⟩ ⟨#[]⟩ a3 a4 = restIpn a3 a4 from rfl, ipn_parts a3 a4 (by omega) h3' h4 h4']
    rw [show restS 2 ⟨#[]⟩ ⟨#[]⟩ a3 a4 = restIpn a3 a4 from rfl] at hh
    rw [hh]
end Go.Proofs.YtbjbicaffblchaaGreatDoor.Hand
end
section
namespace Go.Proofs.YtbjbicaffblchaaGreatDoor.Hand
open Go.RowKit Go.Proofs.YtbjbicaffblchaaGreatDoor.SA
theorem mn_len (n : Nat) (k : Int) (hk : 0 ≤ k) : 0 ≤ YtbjbicaffblchaaGreatDoorW.PrintWords.mn n k ∧ YtbjbicaffblchaaGreatDoorW.PrintWords.mn n k ≤ n ∧ YtbjbicaffblchaaGreatDoorW.PrintWords.mn n k ≤ k := by
  unfold YtbjbicaffblchaaGreatDoorW.PrintWords.mn
  split <;> omega
theorem Cut_is (a0 : Int) (a1 a2 : ByteArray) (a3 a4 : Int) : ∃ b1 b2 : ByteArray, postriderlaw06_Cut.f a0 a1 a2 a3 a4 = some (a0, b1, b2, a3, a4) ∧ b1.size ≤ 21 ∧ b2.size ≤ 21 := by
  obtain ⟨h1, h2, h3⟩ := mn_len a1.size 21 (by decide)
  obtain ⟨k1, k2, k3⟩ := mn_len a2.size 21 (by decide)
  unfold postriderlaw06_Cut.f
  rw [if_pos h1, if_pos h2, if_pos k1, if_pos k2]
  refine ⟨_, _, rfl, ?_, ?_⟩
  · rw [ByteArray.size_extract]; omega
  · rw [ByteArray.size_extract]; omega
theorem rest_size {n : Int} {a1 a2 : ByteArray} {a3 a4 : Int} (h : rightS n a1 a2 a3 a4 = true) : (restS n a1 a2 a3 a4).size ≤ 43 := by
  rcases right_num h with rfl | rfl | rfl
  · show wNone.size ≤ 43
    decide
  · obtain ⟨_, hp, hq, h3, h4⟩ := right_dtn h
    have := partS_size hp
    have := partS_size hq
    show (restDtn a1 a2).size ≤ 43
    have e : (restDtn a1 a2).size = (restDtn a1 a2).data.toList.length := (Array.length_toList ..).symm
    rw [e, restDtn_data]
    simp only [List.length_append, List.length_cons, List.length_nil, Array.length_toList]
    show 2 + (a1.size + (a2.size + 1)) ≤ 43
    omega
  · obtain ⟨h1, h2, h3, h3', h4, h4'⟩ := right_ipn h
    show (restIpn a3 a4).size ≤ 43
    have e : (restIpn a3 a4).size = (restIpn a3 a4).data.toList.length := (Array.length_toList ..).symm
    rw [e, restIpn_data, itoa_dig a3 (by omega), itoa_dig a4 h4]
    have := dig_len 8 a3.toNat (by omega)
    have := dig_len 8 a4.toNat (by omega)
    simp only [List.length_append, List.length_cons]
    omega
theorem word_size (n : Int) : (wordS n).size = 3 := by unfold wordS; split <;> decide
theorem joinT_of {n : Int} {a1 a2 : ByteArray} {a3 a4 : Int} (h : rightS n a1 a2 a3 a4 = true) : joinT (wordS n) (restS n a1 a2 a3 a4) = (n, a1, a2, a3, a4, 0) := by
  unfold joinT
  rw [join_of h]
end Go.Proofs.YtbjbicaffblchaaGreatDoor.Hand
end
section
namespace Go.Proofs.YtbjbicaffblchaaGreatDoor.Hand
open Go.ChangeShapes Go.WideShapes Go.ChangeAt Go.RowKit
theorem own : ownKnob Tryz.prog.godebug = none := by kernel_rfl
abbrev laid5 : List (String × DataW Unit) := [("math/bits.deBruijn32tab", Rows.laid_math_bits_deBruijn32tab), ("math/bits.deBruijn64tab", Rows.laid_math_bits_deBruijn64tab), ("internal/strconv.uint64pow10", Rows.laid_internal_strconv_uint64pow10), ("strconv.ErrRange", Rows.laid_strconv_ErrRange), ("strconv.ErrSyntax", Rows.laid_strconv_ErrSyntax), ("postrider/dict.errMany", Rows.laid_postrider_dict_errMany), ("postrider/dict.errEid", Rows.laid_postrider_dict_errEid), ("postrider/dict.errDict", Rows.laid_postrider_dict_errDict)]
theorem gErrRange : Tryz.prog.globalNamed "strconv.ErrRange" = some 6 := by kernel_rfl
theorem gErrSyntax : Tryz.prog.globalNamed "strconv.ErrSyntax" = some 5 := by kernel_rfl
theorem tyTab : (Tryz.prog.globals[4]?).map (·.type) = some 148 := by kernel_rfl
theorem tyRange : (Tryz.prog.globals[6]?).map (·.type) = some 51 := by kernel_rfl
theorem tySyntax : (Tryz.prog.globals[5]?).map (·.type) = some 51 := by kernel_rfl
theorem star : "*errors.errorString" = "*" ++ "errors.errorString" := by decide
theorem name_row (u : TypeId) (h : Tryz.prog.typeName? 3 u = some "*errors.errorString") : u = 160 :=
  typeName_ptr_named (nm := "errors.errorString") (by rw [← star]; kernel_rfl) (by kernel_rfl) (by decide) u (by rw [← star]; exact h)
theorem sentinel1 {P : Program} {n nm : String} {text : List UInt8} {r : List (String × DataW Unit)} {W : World} {g : Nat} {ti tp te ts : TypeId} {ms : Array (String × TypeId)} {f : Field}
    (h : laidMet P ((n, .iface nm (.ptr (.agg [.lit (.string text)]))) :: r) W)
    (hg : P.globalNamed n = some g) (ht : (P.globals[g]?).map (·.type) = some ti) (hi : P.underlying ti = some (.interface ms)) (hrow : ∀ u, P.typeName? 3 u = some nm → u = tp)
    (hp : P.underlying tp = some (.pointer te)) (he : P.underlying te = some (.struct #[f])) (hft : f.type = ts) (hfo : f.offset = 0) (hs : P.underlying ts = some .string) (hc : P.cellsOf te = 1) (hcs : P.cellsOf ts = 1) :
    ∃ (a : Addr) (s : ByteArray), W.cell? ⟨g, 0, none⟩ = some (.iface tp (.pointer (some a))) ∧ W.cell? a = some (.string s) ∧ s.data.toList = text ∧ ∃ c t, W.heap[a.block]? = some (.cells c t (0, 0)) := by
  obtain ⟨ps, ⟨g0', t0', cs0, f0, p0, q0, hg0', ht0', hv0, hd0, _, e0⟩, hnd, hrows⟩ := h
  obtain rfl := Option.some.inj (hg.symm.trans hg0')
  obtain rfl := Option.some.inj (ht.symm.trans ht0')
  subst e0
  obtain ⟨l0⟩ := cs0
  have ok0 : ∀ u v, l0 = [.iface u v] → Value.okWide P W .any 0 u v := fun u v e => by
    subst e
    exact (hrows g 0 (by simp [MemPlace.row])).2 u v (by simpa using World.var?_cell hg0' hv0 0)
  obtain ⟨a0, s0, rfl, hc0, hs0, hz0, rfl⟩ := errorString_of_trod hi hrow hp he hft hfo hs hc hcs hd0 ok0
  obtain ⟨c0, t0, hb0⟩ := (hrows a0.block a0.off (by simp [MemPlace.row])).1
  exact ⟨a0, s0, World.var?_cell hg0' hv0 0, hc0, hs0, c0, t0, hb0⟩
theorem gMany : Tryz.prog.globalNamed "postrider/dict.errMany" = some 1 := by kernel_rfl
theorem gEid : Tryz.prog.globalNamed "postrider/dict.errEid" = some 2 := by kernel_rfl
theorem gDict : Tryz.prog.globalNamed "postrider/dict.errDict" = some 0 := by kernel_rfl
theorem tyMany : (Tryz.prog.globals[1]?).map (·.type) = some 51 := by kernel_rfl
theorem tyEid : (Tryz.prog.globals[2]?).map (·.type) = some 51 := by kernel_rfl
theorem tyDict : (Tryz.prog.globals[0]?).map (·.type) = some 51 := by kernel_rfl
theorem addr_ne {W : World} {a b : Addr} {s t : ByteArray} (ha : W.cell? a = some (.string s)) (hb : W.cell? b = some (.string t)) (h : s.data.toList ≠ t.data.toList) : a ≠ b := fun e => by
  subst e
  rw [ha] at hb
  injection hb with hb
  injection hb with hb
  exact h (by rw [hb])
theorem laid_of {W : World} (h : laidMetH Tryz.prog laid5 W) (hsh : W.ShapedOpen Tryz.prog) : LaidD W := by
  rw [MakeChecks.laidMetH_plain _ _ _ (by kernel_rfl)] at h
  have h2 := h.tail.tail
  have h3 := h2.tail
  have h4 := h3.tail
  have h5 := h4.tail
  have h6 := h5.tail
  have h7 := h6.tail
  obtain ⟨a3, s3, hv3, _⟩ := sentinel1 h3 gErrRange tyRange Tryz.underlying51 name_row Tryz.underlying160 Tryz.underlying162 rfl rfl Tryz.underlying9 (by kernel_rfl) (by kernel_rfl)
  obtain ⟨a4, s4, hv4, _⟩ := sentinel1 h4 gErrSyntax tySyntax Tryz.underlying51 name_row Tryz.underlying160 Tryz.underlying162 rfl rfl Tryz.underlying9 (by kernel_rfl) (by kernel_rfl)
  obtain ⟨am, sm, hvm, hcm, hsm, hbm⟩ := sentinel1 h5 gMany tyMany Tryz.underlying51 name_row Tryz.underlying160 Tryz.underlying162 rfl rfl Tryz.underlying9 (by kernel_rfl) (by kernel_rfl)
  obtain ⟨ae, se, hve, hce, hse, hbe⟩ := sentinel1 h6 gEid tyEid Tryz.underlying51 name_row Tryz.underlying160 Tryz.underlying162 rfl rfl Tryz.underlying9 (by kernel_rfl) (by kernel_rfl)
  obtain ⟨ad, sd, hvd, hcd, hsd, hbd⟩ := sentinel1 h7 gDict tyDict Tryz.underlying51 name_row Tryz.underlying160 Tryz.underlying162 rfl rfl Tryz.underlying9 (by kernel_rfl) (by kernel_rfl)
  exact {
    laid := {
      max := cell_of_shapedOpen_int (zero := #[.int .i64 0]) (t := 3) hsh (of_decide_eq_true (by kernel_rfl)) (by kernel_rfl) rfl (by kernel_rfl) (by kernel_rfl) Tryz.underlying3
      tab := Lib.tabIs_of_head gTab tyTab Tryz.underlying148 Tryz.underlying133 (by kernel_rfl) (by kernel_rfl) h2
      syn := ⟨_, _, hv4⟩
      rng := ⟨_, _, hv3⟩ }
    errs := ⟨am, ae, ad, ⟨hvm, hbm⟩, ⟨hve, hbe⟩, ⟨hvd, hbd⟩, addr_ne hcm hce (by rw [hsm, hse]; decide), addr_ne hcm hcd (by rw [hsm, hsd]; decide), addr_ne hce hcd (by rw [hse, hsd]; decide)⟩ }
theorem door_met (os : Os) (args : Array Value) : laidMetH Tryz.prog laid5 ((World.doorLaid Tryz.prog 400 os).forCall (fun _ _ => 0) ⟨#[], args, []⟩).memory :=
  laidMetH_of_parts3 (fuel := 8) (laidMet_of_run' 8 (by kernel_rfl) (by kernel_rfl)) (by kernel_rfl) (by kernel_rfl)
section
variable {H : Type} {enc : TypeId × Value → H} {W : World} {base : Nat} {spare : Nat → Bool} {held : Bool}
theorem cellsEid : Tryz.prog.cellsOf 41 = 5 := by kernel_rfl
theorem cellsStr : Tryz.prog.cellsOf 9 = 1 := by kernel_rfl
theorem cellsInt : Tryz.prog.cellsOf 3 = 1 := by kernel_rfl
end
end Go.Proofs.YtbjbicaffblchaaGreatDoor.Hand
end

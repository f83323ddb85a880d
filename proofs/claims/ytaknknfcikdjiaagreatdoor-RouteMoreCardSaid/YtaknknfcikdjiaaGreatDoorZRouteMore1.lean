import Derived.Test.YtaknknfcikdjiaaGreatDoorZRouteMore0
import Derived.ArgAppend
import Derived.Below
import Derived.BigQuiet
import Derived.BigRegion
import Derived.Carry
import Derived.Deep.AppendLies
import Derived.Deep.CutBlock
import Derived.Deep.DeepCutAuto
import Derived.Deep.DeepHandedRow
import Derived.Deep.DeepWitnessRowRef
import Derived.Deep.Draws
import Derived.Deep.LoopGhost
import Derived.Deep.OwnRows
import Derived.Deep.QuietTactic
import Derived.Deep.RegionHeld3
import Derived.Deep.RegionWith
import Derived.KernelRfl
import Derived.LaidEql
import Derived.LaidMore
import Derived.Laws.BitsLemmas
import Derived.Laws.BytesArg
import Derived.Laws.EntriesVeiled
import Derived.Laws.IdiomCopy
import Derived.Laws.MakeOwn
import Derived.Laws.OwnMore
import Derived.Laws.RangeAny
import Derived.Laws.RangeString
import Derived.Laws.Rows
import Derived.Laws.Slices
import Derived.Lib.AppendStr
import Derived.Lib.ConvBytes
import Derived.Lib.Hide
import Derived.Lib.ItoaLen
import Derived.Lib.LaidTab
import Derived.Lib.OthersKept
import Derived.Lib.SmallJoins
import Derived.LoopIn
import Derived.LoopNIn
import Derived.MakeChecks
import Derived.Maps.AppendAt
import Derived.OpenShut
import Derived.OrdersHeld
import Derived.Outline
import Derived.OwnWalk
import Derived.OwnWalkIn
import Derived.ProofKit
import Derived.RangeFuncBound
import Derived.RangeFuncCalls
import Derived.RangeFuncLeaves
import Derived.RangeFuncNested
import Derived.RangeFuncRecord
import Derived.RangeFuncStops
import Derived.RowKit
import Derived.RowKit3
import Derived.Shelf.Abstract
import Derived.Shelf.LaysC
import Derived.Shelf.LaysM
import Derived.Shelf.SlSortCmp.InsertionK
import Derived.Shelf.Strconv.Atoi
import Derived.Shelf.Strconv.AtoiAll
import Derived.Shelf.Strconv.AtoiErrFast
import Derived.Shelf.Strconv.AtoiFail
import Derived.Shelf.Strconv.AtoiInnerAll
import Derived.Shelf.Strconv.AtoiLong
import Derived.Shelf.Strconv.Clone
import Derived.Shelf.Strconv.ErrVarAll
import Derived.Shelf.Strconv.Itoa0
import Derived.Shelf.Strconv.Itoa1
import Derived.Shelf.Strconv.Itoa2
import Derived.Shelf.Strconv.Itoa3
import Derived.Shelf.Strconv.Lower
import Derived.Shelf.Strconv.ParseInt10
import Derived.Shelf.Strconv.ParseIntEmpty
import Derived.Shelf.Strconv.ParseUint10
import Derived.Shelf.Strconv.ParseUint10Any
import Derived.Shelf.Strconv.ParseUint10Empty
import Derived.Shelf.Strconv.RangeError
import Derived.Shelf.Strconv.SyntaxError
import Derived.Shelf.Strconv.ToError
import Derived.Shelf.Strconv.ToErrorRange
import Derived.Shelf.Strings.Cut
import Derived.Shelf.Strings.Prefix
import Derived.Shelf.Strings.Search1
import Derived.Shelf.Strings.Search2
import Derived.Shelf.Strings.Shaped
import Derived.Stop.Asserts
import Derived.Stop.LaidErr
import Derived.Tactics
import Derived.TacticsInMore
import Derived.Test.YtaknknfcikdjiaaGreatDoorCards
import Derived.Test.YtaknknfcikdjiaaGreatDoorProg
import Derived.Test.YtaknknfcikdjiaaGreatDoorTie
import Derived.WalkKit
import Derived.WalkLawsBesides
import Derived.WalkMore
import Derived.WalkSmall
import Derived.WalkSpells
import Derived.WideLaws
section
namespace Go.Proofs.YtaknknfcikdjiaaGreatDoor.Hand
open Go.RowKit
theorem isEmpty_ne (l : List UInt8) : (!l.isEmpty) = (l != []) := by cases l <;> rfl
theorem isEmpty_eq (l : List UInt8) : l.isEmpty = (l == []) := by cases l <;> rfl
theorem below_run {w0 w w' : World} (h : Below w0.heap.size w0 w) (hb : Below w.heap.size w w') : Below w0.heap.size w0 w' := h.trans (hb.mono h.size)
theorem b_alloc {w W : World} (h : Below w.heap.size w W) (o : Obj) : Below w.heap.size w (W.alloc o) := h.alloc h.size o
theorem cell_blk {w : World} {b : Nat} {cs : Array Value} {t : TypeId} {fr : Nat × Nat} (h : w.heap[b]? = some (.cells cs t fr)) (j : Nat) : w.cell? ⟨b, j, none⟩ = cs[j]? := by
  simp [World.cell?, h]
theorem frozen_blk {w : World} {b : Nat} {cs : Array Value} {t : TypeId} (h : w.heap[b]? = some (.cells cs t)) (j : Nat) : w.frozen? ⟨b, j, none⟩ = false := by
  simp [World.frozen?, h]
end Go.Proofs.YtaknknfcikdjiaaGreatDoor.Hand
end
section
namespace Go.Proofs
open Go.Shelf
def Tryz.laysM171_ren : Go.Shelf.Ren := ⟨fun | 171 => 61 | 243 => 74 | 246 => 82 | 283 => 87 | 284 => 88 | 285 => 89 | 286 => 90 | 129 => 102 | 317 => 101 | 318 => 103 | 319 => 104 | 320 => 105 | 337 => 111 | 338 => 112 | n => n, fun | 3 => 3 | 9 => 9 | 2 => 2 | 4 => 4 | 171 => 132 | 0 => 0 | 53 => 133 | 37 => 136 | 5 => 5 | 173 => 137 | 212 => 148 | 51 => 149 | 20 => 20 | 213 => 150 | 46 => 130 | 232 => 166 | 233 => 167 | n => n, fun | 17 => 7 | 18 => 10 | 19 => 11 | n => n⟩
theorem Tryz.laysM171 : Go.Proofs.LaysM.n171 Tryz.prog Tryz.laysM171_ren := {
  mixed := by kernel_rfl
  f129 := Tryz.func102.trans (congrArg some (by kernel_rfl))
  f171 := Tryz.func61.trans (congrArg some (by kernel_rfl))
  f243 := Tryz.func74.trans (congrArg some (by kernel_rfl))
  f246 := Tryz.func82.trans (congrArg some (by kernel_rfl))
  f283 := Tryz.func87.trans (congrArg some (by kernel_rfl))
  f284 := Tryz.func88.trans (congrArg some (by kernel_rfl))
  f285 := Tryz.func89.trans (congrArg some (by kernel_rfl))
  f286 := Tryz.func90.trans (congrArg some (by kernel_rfl))
  f317 := Tryz.func101.trans (congrArg some (by kernel_rfl))
  f318 := Tryz.func103.trans (congrArg some (by kernel_rfl))
  f319 := Tryz.func104.trans (congrArg some (by kernel_rfl))
  f320 := Tryz.func105.trans (congrArg some (by kernel_rfl))
  f337 := Tryz.func111.trans (congrArg some (by kernel_rfl))
  f338 := Tryz.func112.trans (congrArg some (by kernel_rfl))
  t0 := Tryz.underlying0
  a0 := Tryz.isAgg0
  z0 := Tryz.sizeOf0
  v0 := Tryz.zeroValue0
  t2 := Tryz.underlying2
  a2 := Tryz.isAgg2
  z2 := Tryz.sizeOf2
  v2 := Tryz.zeroValue2
  t3 := Tryz.underlying3
  a3 := Tryz.isAgg3
  z3 := Tryz.sizeOf3
  v3 := Tryz.zeroValue3
  t4 := Tryz.underlying4
  a4 := Tryz.isAgg4
  z4 := Tryz.sizeOf4
  v4 := Tryz.zeroValue4
  t5 := Tryz.underlying5
  a5 := Tryz.isAgg5
  z5 := Tryz.sizeOf5
  v5 := Tryz.zeroValue5
  t9 := Tryz.underlying9
  a9 := Tryz.isAgg9
  z9 := Tryz.sizeOf9
  v9 := Tryz.zeroValue9
  t20 := Tryz.underlying20
  a20 := Tryz.isAgg20
  z20 := Tryz.sizeOf20
  v20 := Tryz.zeroValue20
  t37 := Tryz.underlying136
  a37 := Tryz.isAgg136
  z37 := Tryz.sizeOf136
  v37 := Tryz.zeroValue136
  t46 := Tryz.underlying130
  a46 := Tryz.isAgg130
  z46 := Tryz.sizeOf130
  v46 := Tryz.zeroValue130
  t51 := Tryz.underlying149
  a51 := Tryz.isAgg149
  z51 := Tryz.sizeOf149
  v51 := Tryz.zeroValue149
  t53 := Tryz.underlying133
  a53 := Tryz.isAgg133
  z53 := Tryz.sizeOf133
  v53 := Tryz.zeroValue133
  t171 := Tryz.underlying132
  a171 := Tryz.isAgg132
  z171 := Tryz.sizeOf132
  v171 := Tryz.zeroValue132
  t173 := Tryz.underlying137
  a173 := Tryz.isAgg137
  z173 := Tryz.sizeOf137
  v173 := Tryz.zeroValue137
  t212 := Tryz.underlying148
  a212 := Tryz.isAgg148
  z212 := Tryz.sizeOf148
  v212 := Tryz.zeroValue148
  t213 := Tryz.underlying150
  a213 := Tryz.isAgg150
  z213 := Tryz.sizeOf150
  t232 := Tryz.underlying166
  a232 := Tryz.isAgg166
  z232 := Tryz.sizeOf166
  v232 := Tryz.zeroValue166
  t233 := Tryz.underlying167
  a233 := Tryz.isAgg167
  z233 := Tryz.sizeOf167
  v233 := Tryz.zeroValue167
  g17 := by kernel_rfl
  g18 := by kernel_rfl
  g19 := by kernel_rfl
  i0 := by kernel_rfl
  i2 := by kernel_rfl
  i3 := by kernel_rfl
  i4 := by kernel_rfl
  i5 := by kernel_rfl
  i9 := by kernel_rfl
  i20 := by kernel_rfl
  i37 := by kernel_rfl
  i46 := by kernel_rfl
  i51 := by kernel_rfl
  i53 := by kernel_rfl
  i171 := by kernel_rfl
  i173 := by kernel_rfl
  i212 := by kernel_rfl
  i232 := by kernel_rfl
  i233 := by kernel_rfl
  m17 := by kernel_rfl
  m18 := by kernel_rfl
  m19 := by kernel_rfl }
open Go.RowKit Go.Sort Go.Lib in
theorem Tryz.strconv_Itoa (n : Int) (h0 : -9223372036854775808 ≤ n) (h1 : n ≤ 9223372036854775807) (w : World) (htab : Lib.TabIs Tryz.prog w "internal/strconv.uint64pow10" .u64 Lib.pow10Tab) :
    Calls Tryz.prog 61 #[.int .i64 n] w fun e w' => e = .returned (.string ⟨(Lib.itoa n).toArray⟩) ∧ ∃ k os, w' = grow (w.drewN k) os := Any.strconv_Itoa Tryz.laysM171 n h0 h1 w htab
def Tryz.lays145_ren : Go.Shelf.Ren := ⟨fun | 145 => 72 | 220 => 80 | 219 => 86 | 217 => 97 | 225 => 98 | 224 => 99 | 267 => 100 | 266 => 109 | 314 => 110 | n => n, fun | 9 => 9 | 4 => 4 | 59 => 105 | 3 => 3 | 5 => 5 | 46 => 130 | 146 => 158 | 51 => 149 | n => n, fun | 1 => 6 | n => n⟩
theorem Tryz.lays145 : Go.Proofs.Lays.n145 Tryz.prog Tryz.lays145_ren := {
  mixed := by kernel_rfl
  f145 := Tryz.func72.trans (congrArg some (by kernel_rfl))
  f217 := Tryz.func97.trans (congrArg some (by kernel_rfl))
  f219 := Tryz.func86.trans (congrArg some (by kernel_rfl))
  f220 := Tryz.func80.trans (congrArg some (by kernel_rfl))
  f224 := Tryz.func99.trans (congrArg some (by kernel_rfl))
  f225 := Tryz.func98.trans (congrArg some (by kernel_rfl))
  f266 := Tryz.func109.trans (congrArg some (by kernel_rfl))
  f267 := Tryz.func100.trans (congrArg some (by kernel_rfl))
  f314 := Tryz.func110.trans (congrArg some (by kernel_rfl))
  t3 := Tryz.underlying3
  a3 := Tryz.isAgg3
  z3 := Tryz.sizeOf3
  v3 := Tryz.zeroValue3
  t4 := Tryz.underlying4
  a4 := Tryz.isAgg4
  z4 := Tryz.sizeOf4
  v4 := Tryz.zeroValue4
  t5 := Tryz.underlying5
  a5 := Tryz.isAgg5
  z5 := Tryz.sizeOf5
  v5 := Tryz.zeroValue5
  t9 := Tryz.underlying9
  a9 := Tryz.isAgg9
  z9 := Tryz.sizeOf9
  v9 := Tryz.zeroValue9
  t46 := Tryz.underlying130
  a46 := Tryz.isAgg130
  z46 := Tryz.sizeOf130
  v46 := Tryz.zeroValue130
  t51 := Tryz.underlying149
  a51 := Tryz.isAgg149
  z51 := Tryz.sizeOf149
  v51 := Tryz.zeroValue149
  t59 := Tryz.underlying105
  a59 := Tryz.isAgg105
  z59 := Tryz.sizeOf105
  v59 := Tryz.zeroValue105
  t146 := Tryz.underlying158
  a146 := Tryz.isAgg158
  z146 := Tryz.sizeOf158
  v146 := Tryz.zeroValue158
  g1 := by kernel_rfl }
open Go.RowKit Go.Lib in
theorem Tryz.strings_Cut (s sep : ByteArray) (m : Int) (w : World) (hs : s.size < 4294967281) (hm : w.cell? ⟨6, 0, none⟩ = some (.int .i64 m)) :
    Calls Tryz.prog 72 #[.string s, .string sep] w fun e w' => e = .returned (.tuple #[.string ⟨(Lib.cut s.data.toList sep.data.toList).1.toArray⟩, .string ⟨(Lib.cut s.data.toList sep.data.toList).2.1.toArray⟩, .bool (Lib.cut s.data.toList sep.data.toList).2.2]) ∧ ∃ n, w' = w.drewN n := Any.strings_Cut Tryz.lays145 s sep m w hs hm
def Tryz.lays206_ren : Go.Shelf.Ren := ⟨fun | 206 => 43 | n => n, fun | 9 => 9 | 4 => 4 | 3 => 3 | n => n, fun | n => n⟩
theorem Tryz.lays206 : Go.Proofs.Lays.n206 Tryz.prog Tryz.lays206_ren := {
  mixed := by kernel_rfl
  f206 := Tryz.func43.trans (congrArg some (by kernel_rfl))
  t3 := Tryz.underlying3
  a3 := Tryz.isAgg3
  z3 := Tryz.sizeOf3
  v3 := Tryz.zeroValue3
  t4 := Tryz.underlying4
  a4 := Tryz.isAgg4
  z4 := Tryz.sizeOf4
  v4 := Tryz.zeroValue4
  t9 := Tryz.underlying9
  a9 := Tryz.isAgg9
  z9 := Tryz.sizeOf9
  v9 := Tryz.zeroValue9 }
open Go.RowKit Go.Lib in
theorem Tryz.stringslite_HasPrefix (s p : ByteArray) (w : World) :
    Calls Tryz.prog 43 #[.string s, .string p] w fun e w' => e = .returned (.bool (Lib.hasPrefix s.data.toList p.data.toList)) ∧ w' = w := Any.stringslite_HasPrefix Tryz.lays206 s p w
def Tryz.lays99_ren : Go.Shelf.Ren := ⟨fun | 99 => 31 | 206 => 43 | n => n, fun | 9 => 9 | 4 => 4 | 3 => 3 | n => n, fun | n => n⟩
theorem Tryz.lays99 : Go.Proofs.Lays.n99 Tryz.prog Tryz.lays99_ren := {
  mixed := by kernel_rfl
  f99 := Tryz.func31.trans (congrArg some (by kernel_rfl))
  f206 := Tryz.func43.trans (congrArg some (by kernel_rfl))
  t3 := Tryz.underlying3
  a3 := Tryz.isAgg3
  z3 := Tryz.sizeOf3
  v3 := Tryz.zeroValue3
  t4 := Tryz.underlying4
  a4 := Tryz.isAgg4
  z4 := Tryz.sizeOf4
  v4 := Tryz.zeroValue4
  t9 := Tryz.underlying9
  a9 := Tryz.isAgg9
  z9 := Tryz.sizeOf9
  v9 := Tryz.zeroValue9 }
open Go.RowKit Go.Lib in
theorem Tryz.strings_HasPrefix (s p : ByteArray) (w : World) :
    Calls Tryz.prog 31 #[.string s, .string p] w fun e w' => e = .returned (.bool (Lib.hasPrefix s.data.toList p.data.toList)) ∧ w' = w := Any.strings_HasPrefix Tryz.lays99 s p w
end Go.Proofs
end
section
namespace Go.Proofs.YtaknknfcikdjiaaGreatDoor.Hand
open Go.RowKit
structure Laid (w : World) : Prop where
  max : ∃ m, w.cell? ⟨6, 0, none⟩ = some (.int .i64 m)
  tab : Lib.TabIs Tryz.prog w "internal/strconv.uint64pow10" .u64 Lib.pow10Tab
  syn : ∃ te pe, w.cell? ⟨8, 0, none⟩ = some (.iface te pe)
  rng : ∃ te pe, w.cell? ⟨9, 0, none⟩ = some (.iface te pe)
theorem gTab : Tryz.prog.globalNamed "internal/strconv.uint64pow10" = some 7 := by kernel_rfl
theorem cell_keep {w w' : World} (hb : Below w.heap.size w w') {a : Addr} {v : Value} (hc : w.cell? a = some v) : w'.cell? a = some v := (hb.cell (World.block_lt_of_cell? w a hc)).trans hc
theorem Laid.below {w w' : World} (h : Laid w) (hb : Below w.heap.size w w') : Laid w' := by
  obtain ⟨⟨m, hm⟩, ht, ⟨t1, p1, h1⟩, ⟨t2, p2, h2⟩⟩ := h
  refine ⟨⟨m, cell_keep hb hm⟩, ?_, ⟨t1, p1, cell_keep hb h1⟩, ⟨t2, p2, cell_keep hb h2⟩⟩
  have hc := ht.cell gTab 0 (by rw [Lib.pow10Tab_length]; decide)
  exact var?_below hb gTab (World.block_lt_of_cell? w _ hc) ht
def NG : Nat := 9 + 1
theorem Laid.same {w w' : World} (h : Laid w) (hb : ∀ k, k < NG → w'.heap[k]? = w.heap[k]?) : Laid w' := by
  obtain ⟨⟨m, hm⟩, ht, ⟨t1, p1, h1⟩, ⟨t2, p2, h2⟩⟩ := h
  have hc : ∀ (g : Nat) (v : Value), g < NG → w.cell? ⟨g, 0, none⟩ = some v → w'.cell? ⟨g, 0, none⟩ = some v := fun g v hg hv => by
    have := hb g hg
    simpa [World.cell?, this] using hv
  refine ⟨⟨m, hc _ _ (by decide) hm⟩, ?_, ⟨t1, p1, hc _ _ (by decide) h1⟩, ⟨t2, p2, hc _ _ (by decide) h2⟩⟩
  have ht' : w.var? Tryz.prog "internal/strconv.uint64pow10" = _ := ht
  unfold Lib.TabIs World.var? at *
  rw [gTab] at ht' ⊢
  simp only [Option.bind_some] at ht' ⊢
  rw [hb _ (by decide)]
  exact ht'
theorem below_drewN (w : World) (n : Nat) : Below w.heap.size w (w.drewN n) := ⟨rfl, rfl, rfl, Nat.le_refl _, fun _ _ => rfl⟩
theorem below_grow (w : World) (os : Array Obj) : Below w.heap.size w (Sort.grow w os) :=
  ⟨rfl, rfl, rfl, by simp, fun k hk => by simp [Sort.grow, Array.getElem?_append, hk]⟩
def txt (l : List UInt8) : ByteArray := ⟨l.toArray⟩
theorem itoa_calls (n : Int) (w : World) (hL : Laid w) (h0 : -9223372036854775808 ≤ n) (h1 : n ≤ 9223372036854775807) :
    Calls Tryz.prog 61 #[.int .i64 n] w fun e w' => e = .returned (.string (txt (Lib.itoa n))) ∧ Below w.heap.size w w' :=
  (Tryz.strconv_Itoa n h0 h1 w hL.tab).mono fun _ _ ⟨he, k, os, hw⟩ => ⟨he, by rw [hw]; exact (below_drewN w k).trans (below_grow (w.drewN k) os)⟩
def strings_Cut.f (a0 a1 : ByteArray) : Option (ByteArray × ByteArray × Bool) :=
  if a0.size < 4294967281 then some (txt (Lib.cut a0.data.toList a1.data.toList).1, txt (Lib.cut a0.data.toList a1.data.toList).2.1, (Lib.cut a0.data.toList a1.data.toList).2.2) else none
theorem strings_Cut.calls (a0 a1 r1 r2 : ByteArray) (r3 : Bool) (w : World) (hLd : Laid w) (h : strings_Cut.f a0 a1 = some (r1, r2, r3)) :
    Calls Tryz.prog 72 #[.string a0, .string a1] w fun e w' => e = .returned (.tuple #[.string r1, .string r2, .bool r3]) ∧ Below w.heap.size w w' := by
  unfold strings_Cut.f at h
  split at h
  · rename_i hs
    simp only [Option.some.injEq, Prod.mk.injEq] at h
    obtain ⟨rfl, rfl, rfl⟩ := h
    obtain ⟨m, hm⟩ := hLd.max
    exact (Tryz.strings_Cut a0 a1 m w hs hm).mono fun _ _ ⟨he, n, hw⟩ => ⟨he, by rw [hw]; exact below_drewN w n⟩
  · cases h
def strconv_Itoa.f (a0 : Int) : Option ByteArray := if -9223372036854775808 ≤ a0 ∧ a0 ≤ 9223372036854775807 then some (txt (Lib.itoa a0)) else none
theorem strconv_Itoa.calls (a0 : Int) (r : ByteArray) (w : World) (hLd : Laid w) (h : strconv_Itoa.f a0 = some r) :
    Calls Tryz.prog 61 #[.int .i64 a0] w fun e w' => e = .returned (.string r) ∧ Below w.heap.size w w' := by
  unfold strconv_Itoa.f at h
  split at h
  · rename_i hs
    obtain rfl := Option.some.inj h
    exact itoa_calls a0 w hLd hs.1 hs.2
  · cases h
end Go.Proofs.YtaknknfcikdjiaaGreatDoor.Hand
end
section
namespace Go.Proofs.YtaknknfcikdjiaaGreatDoor.Hand
open Go.RowKit Go.Extern.Stop Go.Stop Go.Extern
theorem er_typeOf (v : Value) (w : World) : (Extern.ReflectliteType.typeOf #[.iface 163 v]).run Tryz.prog w = .ok (.iface 113 (.agg #[.pointer (some ⟨12, 163, none⟩)])) w := by kernel_rfl
def erCmp : TypeId → Sem Value := fun t => do Extern.Rtype.noPackHeld "Comparable" t; pure (.bool (← typeInfo t).comparable)
theorem er_comparable (w : World) : ((Extern.ReflectliteType.method erCmp) #[.agg #[.pointer (some ⟨12, 163, none⟩)]]).run Tryz.prog w = .ok (.bool true) w := by kernel_rfl
theorem er_method (v : Value) (w : World) : (Go.method 300 113 v "Comparable").run Tryz.prog w = .ok (133, v) w := by kernel_rfl
theorem er_comp : (Tryz.prog.info? 163).map (·.comparable) = some true := by kernel_rfl
theorem er_size : (Tryz.prog.info? 165).map (·.size) = some 1 := by kernel_rfl
theorem er_noIs (v : Value) (xT : TypeId) (w : World) : (Instr.typeAssert (.iface 163 v) xT 115 true).run Tryz.prog w = .ok (.tuple #[.nilIface, .bool false]) w := run_typeAssert_lacksB Tryz.underlying115 (by kernel_rfl) (by kernel_rfl) v xT w
theorem er_noUnwrap (v : Value) (xT : TypeId) (w : World) : (Instr.typeAssert (.iface 163 v) xT 118 true).run Tryz.prog w = .ok (.tuple #[.nilIface, .bool false]) w := run_typeAssert_lacksB Tryz.underlying118 (by kernel_rfl) (by kernel_rfl) v xT w
theorem er_noUnwraps (v : Value) (xT : TypeId) (w : World) : (Instr.typeAssert (.iface 163 v) xT 120 true).run Tryz.prog w = .ok (.tuple #[.nilIface, .bool false]) w := run_typeAssert_lacksB Tryz.underlying120 (by kernel_rfl) (by kernel_rfl) v xT w
set_option maxRecDepth 100000 in
theorem is_same (a : Addr) (w : World) :
    Calls Tryz.prog 44 #[.iface 163 (.pointer (some a)), .iface 163 (.pointer (some a))] w fun e w' => e = .returned (.bool true) ∧ w' = w := by
  obtain ⟨i, hi, hcmp⟩ := Option.map_eq_some_iff.1 er_comp
  obtain ⟨j, hj, hjs⟩ := Option.map_eq_some_iff.1 er_size
  have h8 := @run_callFunc_extern Tryz.prog 63 _ Extern.ReflectliteType.typeOf Tryz.func63 (by kernel_rfl) (by kernel_rfl) (by kernel_rfl) (by kernel_rfl)
  have h32 := @run_callFunc_extern Tryz.prog 133 _ (Extern.ReflectliteType.method erCmp) Tryz.func133 (by kernel_rfl) (by kernel_rfl) (by kernel_rfl) (by kernel_rfl)
  have tT := er_typeOf
  have cT := er_comparable
  have mR := er_method
  have heq := run_eql_iface_ptr_same (P := Tryz.prog) w a Tryz.underlying58 Tryz.underlying163 hi hcmp hj
  go_enter Tryz.func44, Tryz.ntmps44
  go_wp2
  refine wp_loop_rounds 1 ?_
  rw [rounds_succ]
  go_wp2
  go_ret
  exact ⟨rfl, rfl⟩
theorem is_nil (b : Addr) (w : World) :
    Calls Tryz.prog 44 #[.nilIface, .iface 163 (.pointer (some b))] w fun e w' => e = .returned (.bool false) ∧ w' = w := by
  have hn := run_eql_iface_nil_left (P := Tryz.prog) w 163 (.pointer (some b)) Tryz.underlying58
  go_enter Tryz.func44, Tryz.ntmps44
  go_wp2
  go_ret
  exact ⟨rfl, rfl⟩
set_option maxRecDepth 100000 in
theorem is_other (a b : Addr) (ca cb : Array Value) (ta tb : TypeId) (w : World) (hne : a ≠ b) (ha : w.heap[a.block]? = some (.cells ca ta (0, 0))) (hb : w.heap[b.block]? = some (.cells cb tb (0, 0))) :
    Calls Tryz.prog 44 #[.iface 163 (.pointer (some a)), .iface 163 (.pointer (some b))] w fun e w' => e = .returned (.bool false) ∧ w' = w := by
  obtain ⟨i, hi, hcmp⟩ := Option.map_eq_some_iff.1 er_comp
  obtain ⟨j, hj, hjs⟩ := Option.map_eq_some_iff.1 er_size
  have h8 := @run_callFunc_extern Tryz.prog 63 _ Extern.ReflectliteType.typeOf Tryz.func63 (by kernel_rfl) (by kernel_rfl) (by kernel_rfl) (by kernel_rfl)
  have h32 := @run_callFunc_extern Tryz.prog 133 _ (Extern.ReflectliteType.method erCmp) Tryz.func133 (by kernel_rfl) (by kernel_rfl) (by kernel_rfl) (by kernel_rfl)
  have tT := er_typeOf
  have cT := er_comparable
  have mR := er_method
  have nE := er_noIs
  have uE := er_noUnwrap
  have vE := er_noUnwraps
  have heq := run_eql_iface_ptr_other (P := Tryz.prog) w Tryz.underlying58 Tryz.underlying163 hi hcmp hj (by rw [hjs]; decide) hne ha hb
  go_enter Tryz.func44, Tryz.ntmps44
  go_wp2
  refine wp_loop_rounds 1 ?_
  rw [rounds_succ]
  go_wp2
  go_ret
  exact ⟨rfl, rfl⟩
def ErrAt (w : World) (g : Nat) (a : Addr) : Prop := w.cell? ⟨g, 0, none⟩ = some (.iface 163 (.pointer (some a))) ∧ ∃ c t, w.heap[a.block]? = some (.cells c t (0, 0))
theorem ErrAt.below {w w' : World} {g : Nat} {a : Addr} (h : ErrAt w g a) (hb : Below w.heap.size w w') : ErrAt w' g a := by
  obtain ⟨h1, c, t, h2⟩ := h
  exact ⟨cell_keep hb h1, c, t, (hb.block _ (Array.getElem?_eq_some_iff.1 h2).1).trans h2⟩
def errV (a : Addr) : Value := .iface 163 (.pointer (some a))
end Go.Proofs.YtaknknfcikdjiaaGreatDoor.Hand
end
section
namespace Go.Proofs.YtaknknfcikdjiaaGreatDoor.Hand
open Go.RowKit
def runeIn (s : ByteArray) (r : Int) : Bool := s.data.toList.any fun c => (c.toNat : Int) == r
theorem runeIn_hit (s : ByteArray) (r : Int) (k : Nat) (h : k < s.size) (e : ((s[k]'h).toNat : Int) = r) : runeIn s r = true := by
  unfold runeIn
  rw [List.any_eq_true]
  exact ⟨s[k], by rw [show s[k] = s.data[k] from rfl]; exact Array.getElem_mem_toList _, by simp [e]⟩
theorem runeIn_miss (s : ByteArray) (r : Int) (h : ∀ k (hk : k < s.size), ((s[k]'hk).toNat : Int) ≠ r) : runeIn s r = false := by
  unfold runeIn
  rw [List.any_eq_false]
  intro c hc
  obtain ⟨k, hk, rfl⟩ := List.mem_iff_getElem.1 hc
  have hk' : k < s.size := by simpa using hk
  have := h k hk'
  simp only [beq_iff_eq]
  exact this
theorem iter_below (w : World) (s : ByteArray) (p : Nat) : Below w.heap.size w (w.iter s p) := (Below.refl _ w).alloc (Nat.le_refl _) _
set_option maxRecDepth 100000 in
theorem hasRune_calls (s : ByteArray) (r : Int) (w : World) (hs : ∀ k (hk : k < s.size), (s[k]'hk).toNat < 128) :
    Calls Tryz.prog 79 #[.string s, .int .i32 r] w fun e w' => e = .returned (.bool (runeIn s r)) ∧ Below w.heap.size w w' := by
  go_enter Tryz.func79, Tryz.ntmps79
  go_wp2
  go_loopw [6, 9, 10, 11, 12, 13, 14] (fun _ _ _ _ _ _ _ w' => ∃ (pos : Nat), w' = w.iter s pos ∧ pos ≤ s.size ∧ (∀ k (hk : k < s.size), k < pos → ((s[k]'hk).toNat : Int) ≠ r)) (fun _ _ _ _ _ _ _ w' => s.size - w'.iterPos w.heap.size)
  case atStart => exact ⟨0, rfl, by omega, fun k _ h => by omega⟩
  case round =>
    obtain ⟨pos, rfl, hp, hno⟩ := hrel
    have HS := Hid.out (p := ∀ k (hk : k < s.size), (s[k]'hk).toNat < 128) hs
    by_cases hlt : pos < s.size
    · have ha := hs pos hlt
      have hnx : ∀ ty, (Instr.next (.pointer (some ⟨w.heap.size, 0, none⟩)) true ty).run Tryz.prog (w.iter s pos) = _ := fun ty => run_next_ascii w s pos ty hlt ha
      clear hs HS
      by_cases he : ((s[pos]'hlt).toNat : Int) = r
      · have hb : (((s[pos]'hlt).toNat : Int) == r) = true := beq_iff_eq.2 he
        have hr := Lib.hid (runeIn_hit s r pos hlt he)
        clear he hno
        go_wp2
        go_ret
        exact ⟨by rw [hr.out]; rfl, iter_below _ _ _⟩
      · have hb : (((s[pos]'hlt).toNat : Int) == r) = false := beq_eq_false_iff_ne.2 he
        have hno' : ∀ k (hk : k < s.size), k < pos + 1 → ((s[k]'hk).toNat : Int) ≠ r := fun k hk hl => by
          by_cases e : k = pos
          · subst e; exact he
          · exact hno k hk (by omega)
        have HN := Lib.hid hno'
        clear he hno hno'
        go_wp2
        go_roundw
        case rel => exact ⟨pos + 1, rfl, by omega, HN.out⟩
        case measure => simp; omega
    · have hnx : ∀ ty, (Instr.next (.pointer (some ⟨w.heap.size, 0, none⟩)) true ty).run Tryz.prog (w.iter s pos) = _ := fun ty => run_next_end w s pos ty hlt
      have hr := Lib.hid (runeIn_miss s r fun k hk => hno k hk (by omega))
      clear hs HS hno
      go_wp2
      go_ret
      exact ⟨by rw [hr.out]; rfl, iter_below _ _ _⟩
def okByte (signs : ByteArray) (c : UInt8) : Bool := (decide (97 ≤ c.toNat) && decide (c.toNat ≤ 122)) || (decide (48 ≤ c.toNat) && decide (c.toNat ≤ 57)) || runeIn signs c.toNat
def partS (s signs : ByteArray) : Bool := s.data.toList.all (okByte signs) && decide (s.size ≤ 20)
theorem partS_no (s signs : ByteArray) (k : Nat) (h : k < s.size) (e : okByte signs (s[k]'h) = false) : partS s signs = false := by
  unfold partS
  have : s.data.toList.all (okByte signs) = false := by
    rw [List.all_eq_false]
    exact ⟨s[k], by rw [show s[k] = s.data[k] from rfl]; exact Array.getElem_mem_toList _, by simp [e]⟩
  rw [this, Bool.false_and]
theorem partS_all (s signs : ByteArray) (h : ∀ k (hk : k < s.size), okByte signs (s[k]'hk) = true) : partS s signs = decide (s.size ≤ 20) := by
  unfold partS
  have : s.data.toList.all (okByte signs) = true := by
    rw [List.all_eq_true]
    intro c hc
    obtain ⟨k, hk, rfl⟩ := List.mem_iff_getElem.1 hc
    have hk' : k < s.size := by simpa using hk
    exact h k hk'
  rw [this, Bool.true_and]
theorem runeIn_high (signs : ByteArray) (hs : ∀ k (hk : k < signs.size), (signs[k]'hk).toNat < 128) (r : Int) (h : 128 ≤ r) : runeIn signs r = false :=
  runeIn_miss signs r fun k hk => by have := hs k hk; omega
theorem okByte_high (signs : ByteArray) (hs : ∀ k (hk : k < signs.size), (signs[k]'hk).toNat < 128) (c : UInt8) (h : 128 ≤ c.toNat) : okByte signs c = false := by
  unfold okByte
  rw [runeIn_high signs hs _ (by omega)]
  simp; omega
theorem rune_at (s signs : ByteArray) (hs : ∀ k (hk : k < signs.size), (signs[k]'hk).toNat < 128) (pos : Nat) (h : pos < s.size) :
    ∃ (r : Int) (p' : Nat), 0 ≤ r ∧ r ≤ 2147483647 ∧ (r < 128 → p' = pos + 1) ∧ okByte signs (s[pos]'h) = ((decide (97 ≤ r) && decide (r ≤ 122)) || (decide (48 ≤ r) && decide (r ≤ 57)) || runeIn signs r) ∧ (128 ≤ r → okByte signs (s[pos]'h) = false) ∧
      ∀ (w : World) (ty : TypeId) (k : Nat), w.heap[k]? = some (.stringIter s pos) → (Instr.next (.pointer (some ⟨k, 0, none⟩)) true ty).run Tryz.prog w = .ok (.tuple #[.bool true, .int .i64 pos, .int .i32 r]) (w.iterAt k s p') := by
  by_cases ha : (s[pos]'h).toNat < 128
  · refine ⟨(s[pos]'h).toNat, pos + 1, by omega, by omega, fun _ => rfl, ?_, fun hh => by omega, fun w ty k hk => Lib.run_next_ascii_at w k s pos ty hk h ha⟩
    unfold okByte
    congr 1
    rw [Bool.eq_iff_iff]
    simp only [Bool.or_eq_true, Bool.and_eq_true, decide_eq_true_eq]
    omega
  · have hd := (decode_high s pos h (by omega)).1
    have hl := decode_le s pos
    have hf := okByte_high signs hs (s[pos]'h) (by omega)
    refine ⟨(Utf8.decode s pos).1, pos + (Utf8.decode s pos).2, by omega, by omega, fun _ => by omega, ?_, fun _ => hf, fun w ty k hk => Lib.run_next_any_at w k s pos ty hk h⟩
    rw [hf, runeIn_high signs hs _ (by omega)]
    symm
    simp
    omega
theorem iterPos_of {w : World} {k p : Nat} {s : ByteArray} (h : w.heap[k]? = some (.stringIter s p)) : w.iterPos k = p := by simp [World.iterPos, h]
set_option maxHeartbeats 1000000 in
set_option maxRecDepth 100000 in
theorem isPart_calls (s signs : ByteArray) (w : World) (hsz : s.size ≤ maxLen) (hs : ∀ k (hk : k < signs.size), (signs[k]'hk).toNat < 128) :
    Calls Tryz.prog 71 #[.string s, .string signs] w fun e w' => e = .returned (.bool (partS s signs)) ∧ Below w.heap.size w w' := by
  unfold maxLen at hsz
  go_enter Tryz.func71, Tryz.ntmps71
  go_wp2
  go_loopw [6, 9, 10, 11, 12, 13, 14, 15, 16, 17, 18, 19, 20, 21, 22, 23, 24, 25, 26, 27, 28, 29, 30, 31] (fun _ _ _ _ _ _ _ _ _ _ _ _ _ _ _ _ _ _ _ _ _ _ _ _ w' => ∃ (pos : Nat), w'.heap[w.heap.size]? = some (.stringIter s pos) ∧ pos ≤ s.size ∧ Below w.heap.size w w' ∧ (∀ k (hk : k < s.size), k < pos → okByte signs (s[k]'hk) = true)) (fun _ _ _ _ _ _ _ _ _ _ _ _ _ _ _ _ _ _ _ _ _ _ _ _ w' => s.size - w'.iterPos w.heap.size)
  case atStart => exact ⟨0, World.iter_heap _ _ _, by omega, iter_below _ _ _, fun k _ h => by omega⟩
  case round =>
    obtain ⟨pos, hit, hp, hbw, hno⟩ := hrel
    by_cases hlt : pos < s.size
    · obtain ⟨r, p', h0, h1, hp', hok, hhi, hnx0⟩ := rune_at s signs hs pos hlt
      have hnx : ∀ ty, (Instr.next (.pointer (some ⟨w.heap.size, 0, none⟩)) true ty).run Tryz.prog wr = _ := fun ty => hnx0 wr ty w.heap.size hit
      have hb1 : Below w.heap.size w (wr.iterAt w.heap.size s p') := Lib.below_iterAt hbw (Nat.le_refl _) s p'
      have hit1 : (wr.iterAt w.heap.size s p').heap[w.heap.size]? = some (.stringIter s p') := Lib.iterAt_heap wr w.heap.size s pos p' hit
      obtain ⟨w1, hw1⟩ : ∃ w1, w1 = wr.iterAt w.heap.size s p' := ⟨_, rfl⟩
      rw [← hw1] at hb1 hit1
      simp only [← hw1] at hnx
      have hlt1 : w.heap.size < w1.heap.size := (Array.getElem?_eq_some_iff.1 hit1).1
      clear hw1 hnx0 hbw
      have hst : okByte signs (s[pos]'hlt) = true → ∀ k (hk : k < s.size), k < pos + 1 → okByte signs (s[k]'hk) = true := fun hh k hk hl => by
        by_cases e : k = pos
        · subst e; exact hh
        · exact hno k hk (by omega)
      have hsf : okByte signs (s[pos]'hlt) = false → partS s signs = false := partS_no s signs pos hlt
      have HST := Lib.hid hst
      have HSF := Lib.hid hsf
      have HIP := Lib.hid (iterPos_of hit)
      have HS := Lib.hid hs
      clear hst hsf hit hno hs
      by_cases hA : 97 ≤ r ∧ r ≤ 122
      · have HO := Lib.hid (show okByte signs (s[pos]'hlt) = true by rw [hok]; simp [hA])
        clear hok hhi
        obtain ⟨hA1, hA2⟩ := hA
        have hp2 := hp' (by omega)
        subst hp2
        go_wp2
        go_roundw
        case rel => exact ⟨pos + 1, hit1, by omega, hb1, HST.out HO.out⟩
        case measure => rw [iterPos_of hit1, HIP.out]; omega
      · have hout : r < 97 ∨ 122 < r := by omega
        by_cases hB : 48 ≤ r ∧ r ≤ 57
        · have HO := Lib.hid (show okByte signs (s[pos]'hlt) = true by rw [hok]; simp [hB])
          clear hok hhi hA
          obtain ⟨hB1, hB2⟩ := hB
          have hout' : r < 97 := by omega
          clear hout
          have hp2 := hp' (by omega)
          subst hp2
          go_wp2
          go_roundw
          case rel => exact ⟨pos + 1, hit1, by omega, hb1, HST.out HO.out⟩
          case measure => rw [iterPos_of hit1, HIP.out]; omega
        · have hok2 : okByte signs (s[pos]'hlt) = runeIn signs r := by
            rw [hok]
            have e1 : (decide (97 ≤ r) && decide (r ≤ 122)) = false := by simp; omega
            have e2 : (decide (48 ≤ r) && decide (r ≤ 57)) = false := by simp; omega
            rw [e1, e2]; rfl
          cases hr : runeIn signs r with
          | true =>
            have HO := Lib.hid (show okByte signs (s[pos]'hlt) = true by rw [hok2, hr])
            have hlt2 : r < 128 := by
              rcases Int.lt_or_le r 128 with h | h
              · exact h
              · rw [hhi h] at hok2; rw [hr] at hok2; cases hok2
            have hp2 := hp' (by omega)
            subst hp2
            have HR := Lib.hid hr
            clear hok hhi hA hok2 hr
            have hB' : r < 48 ∨ 57 < r := by omega
            clear hB
            rcases hout with ho | ho
            · rcases hB' with hB | hB
              · have q0 : decide (97 ≤ r) = false := by simp; omega
                have q1 : decide (48 ≤ r) = false := by simp; omega
                go_wp2_with (go_at_call 79; refine (hasRune_calls signs r _ HS.out).mono ?_; rintro e w2 ⟨rfl, hb2⟩; have HB2 := Lib.hid hb2; clear hb2; rw [HR.out])
                go_roundw
                case rel => exact ⟨pos + 1, (HB2.out.block _ hlt1).trans hit1, by omega, below_run hb1 HB2.out, HST.out HO.out⟩
                case measure => rw [iterPos_of ((HB2.out.block _ hlt1).trans hit1), HIP.out]; omega
              · have q0 : decide (97 ≤ r) = false := by simp; omega
                have q1 : decide (48 ≤ r) = true := by simp; omega
                have q2 : decide (r ≤ 57) = false := by simp; omega
                go_wp2_with (go_at_call 79; refine (hasRune_calls signs r _ HS.out).mono ?_; rintro e w2 ⟨rfl, hb2⟩; have HB2 := Lib.hid hb2; clear hb2; rw [HR.out])
                go_roundw
                case rel => exact ⟨pos + 1, (HB2.out.block _ hlt1).trans hit1, by omega, below_run hb1 HB2.out, HST.out HO.out⟩
                case measure => rw [iterPos_of ((HB2.out.block _ hlt1).trans hit1), HIP.out]; omega
            · have hB : 57 < r := by omega
              clear hB'
              have q0 : decide (97 ≤ r) = true := by simp; omega
              have q1 : decide (r ≤ 122) = false := by simp; omega
              have q2 : decide (48 ≤ r) = true := by simp; omega
              have q3 : decide (r ≤ 57) = false := by simp; omega
              go_wp2_with (go_at_call 79; refine (hasRune_calls signs r _ HS.out).mono ?_; rintro e w2 ⟨rfl, hb2⟩; have HB2 := Lib.hid hb2; clear hb2; rw [HR.out])
              go_roundw
              case rel => exact ⟨pos + 1, (HB2.out.block _ hlt1).trans hit1, by omega, below_run hb1 HB2.out, HST.out HO.out⟩
              case measure => rw [iterPos_of ((HB2.out.block _ hlt1).trans hit1), HIP.out]; omega
          | false =>
            have HO := Lib.hid (show okByte signs (s[pos]'hlt) = false by rw [hok2, hr])
            have HR := Lib.hid hr
            clear hok hhi hA hok2 hr
            have hB' : r < 48 ∨ 57 < r := by omega
            clear hB
            rcases hout with ho | ho
            · rcases hB' with hB | hB
              · have q0 : decide (97 ≤ r) = false := by simp; omega
                have q1 : decide (48 ≤ r) = false := by simp; omega
                go_wp2_with (go_at_call 79; refine (hasRune_calls signs r _ HS.out).mono ?_; rintro e w2 ⟨rfl, hb2⟩; have HB2 := Lib.hid hb2; clear hb2; rw [HR.out])
                go_ret
                exact ⟨by rw [HSF.out HO.out]; rfl, below_run hb1 HB2.out⟩
              · have q0 : decide (97 ≤ r) = false := by simp; omega
                have q1 : decide (48 ≤ r) = true := by simp; omega
                have q2 : decide (r ≤ 57) = false := by simp; omega
                go_wp2_with (go_at_call 79; refine (hasRune_calls signs r _ HS.out).mono ?_; rintro e w2 ⟨rfl, hb2⟩; have HB2 := Lib.hid hb2; clear hb2; rw [HR.out])
                go_ret
                exact ⟨by rw [HSF.out HO.out]; rfl, below_run hb1 HB2.out⟩
            · have hB : 57 < r := by omega
              clear hB'
              have q0 : decide (97 ≤ r) = true := by simp; omega
              have q1 : decide (r ≤ 122) = false := by simp; omega
              have q2 : decide (48 ≤ r) = true := by simp; omega
              have q3 : decide (r ≤ 57) = false := by simp; omega
              go_wp2_with (go_at_call 79; refine (hasRune_calls signs r _ HS.out).mono ?_; rintro e w2 ⟨rfl, hb2⟩; have HB2 := Lib.hid hb2; clear hb2; rw [HR.out])
              go_ret
              exact ⟨by rw [HSF.out HO.out]; rfl, below_run hb1 HB2.out⟩
    · have hnx : ∀ ty, (Instr.next (.pointer (some ⟨w.heap.size, 0, none⟩)) true ty).run Tryz.prog wr = _ := fun ty => Lib.run_next_end_at wr w.heap.size s pos ty hit hlt
      have HP := Lib.hid (partS_all s signs fun k hk => hno k hk (by omega))
      clear hs hit hno
      go_wp2
      all_goals go_ret
      all_goals exact ⟨by rw [HP.out]; first | rfl | (simp; omega), hbw⟩
def ascii (s : ByteArray) : Bool := s.data.toList.all fun c => decide (c.toNat < 128)
theorem ascii_at {s : ByteArray} (h : ascii s = true) (k : Nat) (hk : k < s.size) : (s[k]'hk).toNat < 128 := by
  unfold ascii at h
  rw [List.all_eq_true] at h
  have := h s[k] (by rw [show s[k] = s.data[k] from rfl]; exact Array.getElem_mem_toList _)
  simpa using this
def eid_isPart.f (a0 a1 : ByteArray) : Option Bool := if a0.size ≤ maxLen ∧ ascii a1 = true then some (partS a0 a1) else none
theorem eid_isPart.calls (a0 a1 : ByteArray) (r : Bool) (w : World) (h : eid_isPart.f a0 a1 = some r) :
    Calls Tryz.prog 71 #[.string a0, .string a1] w fun e w' => e = .returned (.bool r) ∧ Below w.heap.size w w' := by
  unfold eid_isPart.f at h
  split at h
  · rename_i hc
    obtain rfl := Option.some.inj h
    exact isPart_calls a0 a1 w hc.1 (fun k hk => ascii_at hc.2 k hk)
  · cases h
end Go.Proofs.YtaknknfcikdjiaaGreatDoor.Hand
end
section
namespace Go.Proofs.YtaknknfcikdjiaaGreatDoor.Hand
open Go.RowKit Go.Instr
variable {P : Program}
theorem run_checkKey_int' (m : Nat) (W : World) (K : TypeId) (k : IntKind) (hK : P.underlying K = some (.int k)) (e : Bool) (j : IntKind) (n : Int) : (checkKey e (m + 1) K (.int j n)).run P W = .ok () W := by
  simp only [checkKey, Sem.run_bind, run_underlying hK, Result.andThen_ok, Sem.run_pure]
theorem run_checkKey_int (W : World) (K : TypeId) (k : IntKind) (hK : P.underlying K = some (.int k)) (e : Bool) (j : IntKind) (n : Int) : (checkKey e 10000 K (.int j n)).run P W = .ok () W := run_checkKey_int' 9999 W K k hK e j n
theorem run_lookup_hit (W : World) (b : Nat) (es : Array MapEntry) (clock : Nat) (T K E : TypeId) (kd : TypeDesc) (kv v : Value) (i : Nat) (ok : Bool) (hT : P.underlying T = some (.map K E)) (hK : P.underlying K = some kd)
    (hc : ∀ e W, (checkKey e 10000 K kv).run P W = .ok () W) (hb : W.heap[b]? = some (.map es clock)) (h : findNow kd kv es.toList 0 = some (some (i, v))) :
    (Instr.lookup T (.map (some b)) kv ok).run P W = .ok (if ok then .tuple #[v, .bool true] else v) W := by
  have hg : (getObj b).run P W = .ok (.map es clock) W := by simp [getObj, Sem.run, hb]
  simp only [Instr.lookup, Sem.run_bind, run_underlying hT, Result.andThen_ok, Sem.run_pure, hg, hc, findKey, run_underlying hK, h]
theorem run_lookup_miss (W : World) (b : Nat) (es : Array MapEntry) (clock : Nat) (T K E : TypeId) (kd : TypeDesc) (kv z : Value) (ok : Bool) (hT : P.underlying T = some (.map K E)) (hK : P.underlying K = some kd)
    (hc : ∀ e W, (checkKey e 10000 K kv).run P W = .ok () W) (hb : W.heap[b]? = some (.map es clock)) (hz : ∀ W, (zeroValue E).run P W = .ok z W) (h : findNow kd kv es.toList 0 = some none) :
    (Instr.lookup T (.map (some b)) kv ok).run P W = .ok (if ok then .tuple #[z, .bool false] else z) W := by
  have hg : (getObj b).run P W = .ok (.map es clock) W := by simp [getObj, Sem.run, hb]
  simp only [Instr.lookup, Sem.run_bind, run_underlying hT, Result.andThen_ok, Sem.run_pure, hg, hc, findKey, run_underlying hK, h, hz]
theorem run_mapUpdate_miss (W : World) (b : Nat) (es : Array MapEntry) (clock : Nat) (T K E : TypeId) (kd : TypeDesc) (kv v : Value) (hT : P.underlying T = some (.map K E)) (hK : P.underlying K = some kd)
    (hc : ∀ e W, (checkKey e 10000 K kv).run P W = .ok () W) (hb : W.heap[b]? = some (.map es clock)) (h : findNow kd kv es.toList 0 = some none) :
    (Instr.mapUpdate T (.map (some b)) kv v).run P W = .ok () (W.putObj b (.map (es.push { key := kv, val := v, born := clock }) (clock + 1))) := by
  have hg : (getObj b).run P W = .ok (.map es clock) W := by simp [getObj, Sem.run, hb]
  simp only [Instr.mapUpdate, Sem.run_bind, run_underlying hT, Result.andThen_ok, Sem.run_pure, hg, hc, findKey, run_underlying hK, h]
  simp only [setObj, Sem.run, hb]
  rfl
theorem putObj_alloc (W : World) (o o' : Obj) : (W.alloc o).putObj W.heap.size o' = W.alloc o' := by
  have h : (W.heap.push o).setIfInBounds W.heap.size o' = W.heap.push o' := by
    apply Array.ext
    · simp
    · intro i h1 h2
      rw [Array.getElem_setIfInBounds (by simpa using h1), Array.getElem_push, Array.getElem_push]
      by_cases hi : W.heap.size = i
      · subst hi; simp
      · rw [if_neg hi]
        have : i < W.heap.size := by simp at h1; omega
        simp [this]
  show { (W.alloc o) with heap := (W.heap.push o).setIfInBounds W.heap.size o' } = W.alloc o'
  rw [h]
  rfl
end Go.Proofs.YtaknknfcikdjiaaGreatDoor.Hand
end
section
namespace Go.Proofs.YtaknknfcikdjiaaGreatDoor.SA
open Go.Proofs.YtaknknfcikdjiaaGreatDoor.Hand
open Go.RowKit Go.Proofs.YtaknknfcikdjiaaGreatDoorW.PrintWords Go.Proofs.YtaknknfcikdjiaaGreatDoorW.PrintLast Go.Proofs.YtaknknfcikdjiaaGreatDoorW.PrintMore
attribute [local go_sem] max2_int min2_int max_two min_two max_three min_three max_four min_four
set_option linter.unusedVariables false
set_option linter.unusedSimpArgs false
def errW : Option Int → Value
  | none => .nilIface
  | some c => .iface 0 (.int .i64 c)
theorem errW_none : errW none = .nilIface := rfl
theorem errW_some (c : Int) : errW (some c) = .iface 0 (.int .i64 c) := rfl
end Go.Proofs.YtaknknfcikdjiaaGreatDoor.SA
end
section
namespace Go.Proofs.YtaknknfcikdjiaaGreatDoor.SA
open Go.Proofs.YtaknknfcikdjiaaGreatDoor.Hand
open Go.RowKit Go.Proofs.YtaknknfcikdjiaaGreatDoorW.PrintWords Go.Proofs.YtaknknfcikdjiaaGreatDoorW.PrintLast Go.Proofs.YtaknknfcikdjiaaGreatDoorW.PrintMore
attribute [local go_sem] max2_int min2_int max_two min_two max_three min_three max_four min_four
set_option linter.unusedVariables false
set_option linter.unusedSimpArgs false
theorem eqA37 (d : Nat) (w : World) (x0 y0 : Int) (x1 y1 : ByteArray) (x2 y2 : ByteArray) (x3 y3 : Int) (x4 y4 : Int) :
    (Op.equalIn (d + 2) 37 (.agg #[.int .i64 x0, .string x1, .string x2, .int .i64 x3, .int .i64 x4]) (.agg #[.int .i64 y0, .string y1, .string y2, .int .i64 y3, .int .i64 y4])).run Tryz.prog w = .ok (x0 == y0 && (x1.toList == y1.toList && (x2.toList == y2.toList && (x3 == y3 && (x4 == y4))))) w := by
  refine eqA_of Tryz.underlying37 (by kernel_rfl) ?_
  refine eqf_cons (by rfl) (by go_simp; rfl) (by go_simp; rfl) (by go_simp) ?_
  refine eqf_cons (by rfl) (by go_simp; rfl) (by go_simp; rfl) (by go_simp) ?_
  refine eqf_cons (by rfl) (by go_simp; rfl) (by go_simp; rfl) (by go_simp) ?_
  refine eqf_cons (by rfl) (by go_simp; rfl) (by go_simp; rfl) (by go_simp) ?_
  exact eqf_last (by rfl) (by go_simp; rfl) (by go_simp; rfl) (by go_simp)
end Go.Proofs.YtaknknfcikdjiaaGreatDoor.SA
end
section
namespace Go.Proofs.YtaknknfcikdjiaaGreatDoor.SA
open Go.Proofs.YtaknknfcikdjiaaGreatDoor.Hand
open Go.RowKit Go.Proofs.YtaknknfcikdjiaaGreatDoorW.PrintWords Go.Proofs.YtaknknfcikdjiaaGreatDoorW.PrintLast Go.Proofs.YtaknknfcikdjiaaGreatDoorW.PrintMore
attribute [local go_sem] max2_int min2_int max_two min_two max_three min_three max_four min_four
set_option linter.unusedVariables false
set_option linter.unusedSimpArgs false
attribute [local go_sem high] eqA37
def eid_areAll.l0 : Nat → List Bool → Int → Int → Option (Bool)
  | 0, _, _, _ => none
  | k + 1, x5, x6, x7 => if x7 < x6 then (if 0 ≤ x7 then (if x7 < (x5.length : Int) then (if rdOf false x5 x7 = true then (eid_areAll.l0 k x5 x6 (wrap64 (x7 + 1))) else (some false)) else (none)) else (none)) else (some true)
def eid_areAll.f (k : Nat) (l0 : List Bool) : Option (Bool) := eid_areAll.l0 k l0 (l0.length : Int) 0
theorem eid_areAll.mono_l : ∀ k, (∀ y0 y1 y2, LeO (eid_areAll.l0 k y0 y1 y2) (eid_areAll.l0 (k + 1) y0 y1 y2))
  | 0 => fun _ _ _ r h => by simp [eid_areAll.l0] at h
  | k + 1 => by
    have ih0 := eid_areAll.mono_l k
    · intro y0 y1 y2
      unfold eid_areAll.l0
      repeat' first
      | (with_reducible exact ih0 _ _ _)
      | (with_reducible exact LeO.refl _)
      | (with_reducible exact LeO.none _)
      | (with_reducible refine LeO.ite ?_ ?_)
      | (with_reducible refine LeO.bind ?_ (fun _ => ?_))
      | exact ih0 _ _ _
      | exact LeO.none _
      | refine LeO.ite ?_ ?_
      | refine LeO.bind ?_ (fun _ => ?_)
theorem eid_areAll.mono : ∀ a0 k, LeO (eid_areAll.f k a0) (eid_areAll.f (k + 1) a0) := by
  intro a0 k
  have ih0 := eid_areAll.mono_l k
  unfold eid_areAll.f
  repeat' first
      | (with_reducible exact ih0 _ _ _)
      | (with_reducible exact LeO.refl _)
      | (with_reducible exact LeO.none _)
      | (with_reducible refine LeO.ite ?_ ?_)
      | (with_reducible refine LeO.bind ?_ (fun _ => ?_))
      | exact ih0 _ _ _
      | exact LeO.none _
      | refine LeO.ite ?_ ?_
      | refine LeO.bind ?_ (fun _ => ?_)
set_option maxHeartbeats 8000000 in
set_option maxRecDepth 100000 in
theorem eid_areAll.calls (k : Nat) (A0 : Option Addr) (c0 : Nat) (l0 : List Bool) (r : Bool) (w : World) (hr0 : Kd.C Kd.bool w A0 l0.length l0) (hc0 : l0.length ≤ c0) (h : eid_areAll.f k l0 = some r) :
    Calls Tryz.prog 70 #[.slice A0 l0.length c0] w fun e w' => e = .returned (.bool r) ∧ Drawn0 w w' := by
  have HR0 := Aside0.mk hr0
  have HC0 := Aside0.mk hc0
  clear hr0 hc0
  have H : (eid_areAll.l0 k l0 (l0.length : Int) 0) = some r := h
  clear h
  have H' := Aside0.mk H
  clear H
  go_enter Tryz.func70, Tryz.ntmps70
  go_wp2
  go_loopg [7] k (fun kq v7 w' => ∃ (x7_1 : Int), v7 = .int .i64 x7_1 ∧ Aside0 (eid_areAll.l0 kq l0 (l0.length : Int) x7_1 = some r) ∧ Aside0 (kq ≤ k) ∧ Drawn0 w w')
  case atStart => exact ⟨(0), (by first | rfl | (simp; done) | (simp [*]; done)), H', ⟨Nat.le_refl _⟩, by repeat (first | exact Drawn0.refl _ | apply Drawn0.step)⟩
  case round =>
    clear H'
    obtain ⟨x7_1, rfl, HA, HK1, ⟨m1, rfl⟩⟩ := hrel
    cases gk with
    | zero => exact absurd HA.out (by simp [eid_areAll.l0])
    | succ k1 =>
      have H := HA.out
      clear HA
      simp only [eid_areAll.l0] at H
      by_cases c2 : x7_1 < (l0.length : Int)
      · rw [if_pos c2] at H
        have c2b0 : decide (x7_1 < (l0.length : Int)) = true := decide_eq_true c2
        clear c2
        by_cases c3 : 0 ≤ x7_1
        · rw [if_pos c3] at H
          have c3b0 : decide (0 ≤ x7_1) = true := decide_eq_true c3
          clear c3
          by_cases c4 : x7_1 < (l0.length : Int)
          · rw [if_pos c4] at H
            have c4b0 : decide (x7_1 < (l0.length : Int)) = true := decide_eq_true c4
            clear c4
            obtain ⟨bq5, hbq5⟩ : ∃ b_ : Bool, b_ = (rdOf false l0 x7_1) := ⟨_, rfl⟩
            replace H : (if bq5 = true then (eid_areAll.l0 k1 l0 (l0.length : Int) (wrap64 (x7_1 + 1))) else (some false)) = some r := by rw [← hbq5] at H; exact H
            have Nbq5 := Aside0.mk hbq5
            clear hbq5
            by_cases c6 : bq5 = true
            · subst c6
              have H1 : (eid_areAll.l0 k1 l0 (l0.length : Int) (wrap64 (x7_1 + 1))) = some r := by rw [if_pos rfl] at H; exact H
              clear H
              have H := H1
              clear H1
              have H' := Aside0.mk H
              clear H
              have p101 : 0 ≤ (x7_1 : Int) := of_decide_eq_true (by first | (with_reducible assumption) | assumption)
              have q101 : x7_1 < (l0.length : Int) := of_decide_eq_true (by first | (with_reducible assumption) | assumption)
              obtain ⟨ad101, e101, hx101_0⟩ := Kd.at_bool HR0.out x7_1 p101 q101
              (try rw [← Nbq5.out] at hx101_0)
              cases e101
              replace p101 := eq_true p101
              replace q101 := eq_true q101
              go_wp2
              go_roundg k1
              case measure => have := HK1.out; omega
              case rel => exact ⟨(wrap64 (x7_1 + 1)), (by first | rfl | (simp; done) | (simp [*]; done)), H', ⟨by have := HK1.out; omega⟩, by repeat (first | exact Drawn0.refl _ | apply Drawn0.step)⟩
            · replace c6 := Bool.eq_false_iff.mpr c6
              subst c6
              have H1 : (some false) = some r := by rw [if_neg (show ¬ (false = true) by decide)] at H; exact H
              clear H
              have H := H1
              clear H1
              obtain rfl := Option.some.inj H
              have p101 : 0 ≤ (x7_1 : Int) := of_decide_eq_true (by first | (with_reducible assumption) | assumption)
              have q101 : x7_1 < (l0.length : Int) := of_decide_eq_true (by first | (with_reducible assumption) | assumption)
              obtain ⟨ad101, e101, hx101_0⟩ := Kd.at_bool HR0.out x7_1 p101 q101
              (try rw [← Nbq5.out] at hx101_0)
              cases e101
              replace p101 := eq_true p101
              replace q101 := eq_true q101
              go_wp2
              all_goals (first | (go_ret; exact ⟨by first | rfl | (simp; done) | (simp [*]; done) | (simp_all; done) | fail, by repeat (first | exact Drawn0.refl _ | apply Drawn0.step)⟩) | (exfalso; simp_all; done) | (exfalso; simp only [isEmpty_eq, isEmpty_ne] at *; simp_all; done) | (exfalso; exact isEmpty_clash (by assumption) (by assumption)) | (exfalso; exact isEmpty_clash' (by assumption) (by assumption)) | (exfalso; exact isEmpty_clash2 (by assumption) (by assumption)))
          · rw [if_neg c4] at H
            exact absurd H (by simp)
        · rw [if_neg c3] at H
          exact absurd H (by simp)
      · rw [if_neg c2] at H
        have c2b0 : decide (x7_1 < (l0.length : Int)) = false := decide_eq_false c2
        clear c2
        obtain rfl := Option.some.inj H
        go_wp2
        all_goals (first | (go_ret; exact ⟨by first | rfl | (simp; done) | (simp [*]; done) | (simp_all; done) | fail, by repeat (first | exact Drawn0.refl _ | apply Drawn0.step)⟩) | (exfalso; simp_all; done) | (exfalso; simp only [isEmpty_eq, isEmpty_ne] at *; simp_all; done) | (exfalso; exact isEmpty_clash (by assumption) (by assumption)) | (exfalso; exact isEmpty_clash' (by assumption) (by assumption)) | (exfalso; exact isEmpty_clash2 (by assumption) (by assumption)))
def eid_isDtn.f (k : Nat) (a0_0 : Int) (a0_1 : ByteArray) (a0_2 : ByteArray) (a0_3 : Int) (a0_4 : Int) : Option (Bool) := (eid_isPart.f a0_1 (⟨#[45, 46]⟩ : ByteArray)).bind fun t103 => ((eid_isPart.f a0_2 (⟨#[45, 46, 47]⟩ : ByteArray)).bind fun t104 => ((eid_areAll.f k (([(a0_1.toList != ([] : List UInt8)), t103, t104, (a0_3 == 0), (a0_4 == 0)] : List Bool))).bind fun t108 => (some t108)))
theorem eid_isDtn.mono : ∀ a0 a1 a2 a3 a4 k, LeO (eid_isDtn.f k a0 a1 a2 a3 a4) (eid_isDtn.f (k + 1) a0 a1 a2 a3 a4) := by
  intro a0 a1 a2 a3 a4 k
  unfold eid_isDtn.f
  repeat' first
      | (with_reducible exact eid_areAll.mono _ _)
      | (with_reducible exact LeO.refl _)
      | (with_reducible exact LeO.none _)
      | (with_reducible refine LeO.ite ?_ ?_)
      | (with_reducible refine LeO.bind ?_ (fun _ => ?_))
      | exact eid_areAll.mono _ _
      | exact LeO.none _
      | refine LeO.ite ?_ ?_
      | refine LeO.bind ?_ (fun _ => ?_)
def eid_isDtn.T1 : Bool × List (List Nat × List Nat) := (true, [([], []), ([0], [0]), ([1], [1]), ([], []), ([3], [3]), ([4], [4]), ([], []), ([6], [6]), ([7, 5], [7]), ([], []), ([9], [9]), ([10], [10]), ([], []), ([12], [12]), ([13], [13]), ([2, 5, 8, 11, 14], [2, 5, 8, 11, 14]), ([15, 8], [15]), ([16, 16, 0, 1, 2, 3, 4, 5, 6, 7, 8, 9, 10, 11, 12, 13, 14, 15, 16], [16])])
def eid_isDtn.B1 : List Nat := [0, 1, 3, 0, 8, 24, 0, 64, 248, 0, 512, 1536, 0, 4096, 12288, 32767, 65535, 131071]
theorem eid_isDtn.tab1 : rtab .any (opsOf Tryz.f56 1) = eid_isDtn.T1 := by kernel_rfl
theorem eid_isDtn.bits1 : waitsOk eid_isDtn.T1.2 eid_isDtn.B1 = true := by kernel_rfl
set_option maxHeartbeats 8000000 in
set_option maxRecDepth 100000 in
theorem eid_isDtn.calls (k : Nat) (a0_0 : Int) (a0_1 : ByteArray) (a0_2 : ByteArray) (a0_3 : Int) (a0_4 : Int) (r : Bool) (w : World) (h : eid_isDtn.f k a0_0 a0_1 a0_2 a0_3 a0_4 = some r) :
    Calls Tryz.prog 56 #[.agg #[.int .i64 a0_0, .string a0_1, .string a0_2, .int .i64 a0_3, .int .i64 a0_4]] w fun e w' => e = .returned (.bool r) ∧ Below w.heap.size w w' := by
  have hu37 := Tryz.underlying37
  have HB := Aside0.mk (Below.refl w.heap.size w)
  have H : ((eid_isPart.f a0_1 (⟨#[45, 46]⟩ : ByteArray)).bind fun t103 => ((eid_isPart.f a0_2 (⟨#[45, 46, 47]⟩ : ByteArray)).bind fun t104 => ((eid_areAll.f k (([(a0_1.toList != ([] : List UInt8)), t103, t104, (a0_3 == 0), (a0_4 == 0)] : List Bool))).bind fun t108 => (some t108)))) = some r := h
  clear h
  replace H := Option.bind_eq_some_iff.mp H
  obtain ⟨t103, A20, H⟩ := H
  replace H : ((eid_isPart.f a0_2 (⟨#[45, 46, 47]⟩ : ByteArray)).bind fun t104 => ((eid_areAll.f k (([(a0_1.toList != ([] : List UInt8)), t103, t104, (a0_3 == 0), (a0_4 == 0)] : List Bool))).bind fun t108 => (some t108))) = some r := H
  have A2 := Aside0.mk A20
  clear A20
  replace H := Option.bind_eq_some_iff.mp H
  obtain ⟨t104, A30, H⟩ := H
  replace H : ((eid_areAll.f k (([(a0_1.toList != ([] : List UInt8)), t103, t104, (a0_3 == 0), (a0_4 == 0)] : List Bool))).bind fun t108 => (some t108)) = some r := H
  have A3 := Aside0.mk A30
  clear A30
  obtain ⟨y105, hy105⟩ : ∃ y_ : List Bool, y_ = (([(a0_1.toList != ([] : List UInt8)), t103, t104, (a0_3 == 0), (a0_4 == 0)] : List Bool)) := ⟨_, rfl⟩
  replace H : ((eid_areAll.f k y105).bind fun t108 => (some t108)) = some r := by first | (rw [hy105]; with_reducible exact H) | (have H2_ := (Option.bind_some _ _).symm.trans H; rw [hy105]; with_reducible exact H2_) | (have H2_ := (Option.bind_some _ _).symm.trans H; with_reducible exact H2_) | with_reducible exact H | (rw [hy105]; exact H) | exact H
  have Ny105 := Aside0.mk hy105
  clear hy105
  replace H := Option.bind_eq_some_iff.mp H
  obtain ⟨t108, A40, H⟩ := H
  replace H : (some t108) = some r := H
  have A4 := Aside0.mk A40
  clear A40
  obtain rfl := Option.some.inj H
  go_enter Tryz.func56, Tryz.ntmps56
  try go_wp2_with (first | ((with_reducible refine gate_dst (N := 1) rfl ?_); refine box_event ?hg (N := 1) ?hd (cs := #[.int .i64 a0_0, .string a0_1, .string a0_2, .int .i64 a0_3, .int .i64 a0_4]) (t := 37) ?hr ?_; (case hd => rfl); (case hg => rfl); (case hr => first | (go_simp; done) | (go_simp; rfl) | (go_simp; simp only [isEmpty_ne, isEmpty_eq]; done) | (go_simp; simp only [isEmpty_ne, isEmpty_eq]; rfl)); intro gb102 hg w5 hbox hb; have n0_ := Aside0.mk (below_step (by repeat (first | (with_reducible first | exact HB.out | apply below_alloc | apply pw_below_drewN | apply below_drew1) | exact HB.out)) hb); have n1_ := Aside0.mk (hbox); have n2_ := Aside0.mk ((by rw [hg]; exact (below_size (by repeat (first | (with_reducible first | exact HB.out | apply below_alloc | apply pw_below_drewN | apply below_drew1) | exact HB.out))) : w.heap.size ≤ gb102)); have n3_ := Aside0.mk ((by rw [hg]; exact (below_size (by repeat (first | (with_reducible first | exact HB.out | apply below_alloc | apply pw_below_drewN | apply below_drew1) | exact HB.out))) : w.heap.size ≤ gb102)); clear HB; have HB := n0_; have BK102 := n1_; have GW102 := n2_; have GE102 := n3_; clear n0_ n1_ n2_ n3_; clear hb hbox hg))
  have n0_ := Aside0.mk (blk_drew BK102.out)
  have n1_ := Aside0.mk (below_drew1 HB.out)
  clear BK102
  clear HB
  have BK102 := n0_
  have HB := n1_
  clear n0_ n1_
  refine start_ (n := 18) (S := fun w' => w'.cell? ⟨gb102, 0, none⟩ = some (.int .i64 a0_0) ∧ w'.cell? ⟨gb102, 1, none⟩ = some (.string a0_1) ∧ w'.cell? ⟨gb102, 2, none⟩ = some (.string a0_2) ∧ w'.cell? ⟨gb102, 3, none⟩ = some (.int .i64 a0_3) ∧ w'.cell? ⟨gb102, 4, none⟩ = some (.int .i64 a0_4)) (ds := []) #[false, false, false, false, false, false, false, false, false, false, false, false, false, false, false, false, false, false] (by kernel_rfl) rfl rfl ⟨(blk_cell BK102.out 0).trans rfl, (blk_cell BK102.out 1).trans rfl, (blk_cell BK102.out 2).trans rfl, (blk_cell BK102.out 3).trans rfl, (blk_cell BK102.out 4).trans rfl⟩ (fun hHeld => ?_); refine with_tabW eid_isDtn.tab1 eid_isDtn.bits1 (fun HT_ HW_ => ?_)
  generalize w5.drew = w6 at BK102 HB hHeld ⊢
  refine pure_ (i := 0) (N := some 3) (v := ?_) (a' := ?_) #[true, false, false, false, false, false, false, false, false, false, false, false, false, false, false, false, false, false] rfl rfl (any_of HT_.out (by kernel_rfl)) (fun _ _ _ h => h) (Or.inl ⟨by rfl, ?_⟩) ?_ ?_
  rotate_left
  · intro w'
    go_simp
    with_reducible rfl
  rotate_left
  · simp only [Act.put, List.setIfInBounds_toArray, List.set_cons_zero, List.set_cons_succ, i64_w, i32_w]
    rfl
  refine pure_ (i := 3) (N := some 6) (v := ?_) (a' := ?_) #[true, false, false, true, false, false, false, false, false, false, false, false, false, false, false, false, false, false] rfl rfl (any_of HT_.out (by kernel_rfl)) (fun _ _ _ h => h) (Or.inl ⟨by rfl, ?_⟩) ?_ ?_
  rotate_left
  · intro w'
    go_simp
    with_reducible rfl
  rotate_left
  · simp only [Act.put, List.setIfInBounds_toArray, List.set_cons_zero, List.set_cons_succ, i64_w, i32_w]
    rfl
  refine pure_ (i := 6) (N := some 9) (v := ?_) (a' := ?_) #[true, false, false, true, false, false, true, false, false, false, false, false, false, false, false, false, false, false] rfl rfl (any_of HT_.out (by kernel_rfl)) (fun _ _ _ h => h) (Or.inl ⟨by rfl, ?_⟩) ?_ ?_
  rotate_left
  · intro w'
    go_simp
    with_reducible rfl
  rotate_left
  · simp only [Act.put, List.setIfInBounds_toArray, List.set_cons_zero, List.set_cons_succ, i64_w, i32_w]
    rfl
  refine pure_ (i := 9) (N := some 12) (v := ?_) (a' := ?_) #[true, false, false, true, false, false, true, false, false, true, false, false, false, false, false, false, false, false] rfl rfl (any_of HT_.out (by kernel_rfl)) (fun _ _ _ h => h) (Or.inl ⟨by rfl, ?_⟩) ?_ ?_
  rotate_left
  · intro w'
    go_simp
    with_reducible rfl
  rotate_left
  · simp only [Act.put, List.setIfInBounds_toArray, List.set_cons_zero, List.set_cons_succ, i64_w, i32_w]
    rfl
  refine pure_ (i := 12) (N := some 15) (v := ?_) (a' := ?_) #[true, false, false, true, false, false, true, false, false, true, false, false, true, false, false, false, false, false] rfl rfl (any_of HT_.out (by kernel_rfl)) (fun _ _ _ h => h) (Or.inl ⟨by rfl, ?_⟩) ?_ ?_
  rotate_left
  · intro w'
    go_simp
    with_reducible rfl
  rotate_left
  · simp only [Act.put, List.setIfInBounds_toArray, List.set_cons_zero, List.set_cons_succ, i64_w, i32_w]
    rfl
  refine take_ (i := 1) (N := some 4) (v := ?_) (a' := ?_) #[true, true, false, true, false, false, true, false, false, true, false, false, true, false, false, false, false, false] rfl rfl (take_ofW HT_.out HW_.out (by kernel_rfl)) (fun _ _ _ h => h) (Or.inl ⟨by rfl, ?_⟩) hHeld ?_ ?_
  rotate_left
  · rintro w' ⟨s0, s1, s2, s3, s4⟩
    go_simp
    with_reducible rfl
  rotate_left
  · simp only [Act.put, List.setIfInBounds_toArray, List.set_cons_zero, List.set_cons_succ, i64_w, i32_w]
    rfl
  refine pure_ (i := 2) (N := some 5) (v := ?_) (a' := ?_) #[true, true, true, true, false, false, true, false, false, true, false, false, true, false, false, false, false, false] rfl rfl (any_of HT_.out (by kernel_rfl)) (fun _ _ _ h => h) (Or.inl ⟨by rfl, ?_⟩) ?_ ?_
  rotate_left
  · intro w'
    go_simp
    with_reducible rfl
  rotate_left
  · simp only [Act.put, List.setIfInBounds_toArray, List.set_cons_zero, List.set_cons_succ, i64_w, i32_w]
    rfl
  refine take_ (i := 4) (N := some 7) (v := ?_) (a' := ?_) #[true, true, true, true, true, false, true, false, false, true, false, false, true, false, false, false, false, false] rfl rfl (take_ofW HT_.out HW_.out (by kernel_rfl)) (fun _ _ _ h => h) (Or.inl ⟨by rfl, ?_⟩) hHeld ?_ ?_
  rotate_left
  · rintro w' ⟨s0, s1, s2, s3, s4⟩
    go_simp
    with_reducible rfl
  rotate_left
  · simp only [Act.put, List.setIfInBounds_toArray, List.set_cons_zero, List.set_cons_succ, i64_w, i32_w]
    rfl
  refine take_ (i := 7) (N := some 10) (v := ?_) (a' := ?_) #[true, true, true, true, true, false, true, true, false, true, false, false, true, false, false, false, false, false] rfl rfl (take_ofW HT_.out HW_.out (by kernel_rfl)) (fun _ _ _ h => h) (Or.inl ⟨by rfl, ?_⟩) hHeld ?_ ?_
  rotate_left
  · rintro w' ⟨s0, s1, s2, s3, s4⟩
    go_simp
    with_reducible rfl
  rotate_left
  · simp only [Act.put, List.setIfInBounds_toArray, List.set_cons_zero, List.set_cons_succ, i64_w, i32_w]
    rfl
  refine take_ (i := 10) (N := some 13) (v := ?_) (a' := ?_) #[true, true, true, true, true, false, true, true, false, true, true, false, true, false, false, false, false, false] rfl rfl (take_ofW HT_.out HW_.out (by kernel_rfl)) (fun _ _ _ h => h) (Or.inl ⟨by rfl, ?_⟩) hHeld ?_ ?_
  rotate_left
  · rintro w' ⟨s0, s1, s2, s3, s4⟩
    go_simp
    with_reducible rfl
  rotate_left
  · simp only [Act.put, List.setIfInBounds_toArray, List.set_cons_zero, List.set_cons_succ, i64_w, i32_w]
    rfl
  refine pure_ (i := 11) (N := some 14) (v := ?_) (a' := ?_) #[true, true, true, true, true, false, true, true, false, true, true, true, true, false, false, false, false, false] rfl rfl (any_of HT_.out (by kernel_rfl)) (fun _ _ _ h => h) (Or.inl ⟨by rfl, ?_⟩) ?_ ?_
  rotate_left
  · intro w'
    go_simp
    with_reducible rfl
  rotate_left
  · simp only [Act.put, List.setIfInBounds_toArray, List.set_cons_zero, List.set_cons_succ, i64_w, i32_w]
    rfl
  refine take_ (i := 13) (N := some 16) (v := ?_) (a' := ?_) #[true, true, true, true, true, false, true, true, false, true, true, true, true, true, false, false, false, false] rfl rfl (take_ofW HT_.out HW_.out (by kernel_rfl)) (fun _ _ _ h => h) (Or.inl ⟨by rfl, ?_⟩) hHeld ?_ ?_
  rotate_left
  · rintro w' ⟨s0, s1, s2, s3, s4⟩
    go_simp
    with_reducible rfl
  rotate_left
  · simp only [Act.put, List.setIfInBounds_toArray, List.set_cons_zero, List.set_cons_succ, i64_w, i32_w]
    rfl
  refine pure_ (i := 14) (N := some 17) (v := ?_) (a' := ?_) #[true, true, true, true, true, false, true, true, false, true, true, true, true, true, true, false, false, false] rfl rfl (any_of HT_.out (by kernel_rfl)) (fun _ _ _ h => h) (Or.inl ⟨by rfl, ?_⟩) ?_ ?_
  rotate_left
  · intro w'
    go_simp
    with_reducible rfl
  rotate_left
  · simp only [Act.put, List.setIfInBounds_toArray, List.set_cons_zero, List.set_cons_succ, i64_w, i32_w]
    rfl
  refine one_ (i := 5) (N := some 8) #[true, true, true, true, true, true, true, true, false, true, true, true, true, true, true, false, false, false] rfl rfl (one_of HT_.out (by kernel_rfl)) (by decide) (fun K hK => ?_)
  refine goes_ Tryz.func71 (by kernel_rfl) rfl #[.string a0_1, .string (⟨#[45, 46]⟩ : ByteArray)] (by rfl) rfl rfl (by (try simp only [List.map_toArray, List.map_cons, List.map_nil]); first | done | rfl | (simp only [List.length_drop, List.length_take]; rfl)) ?_
  with_reducible refine (eid_isPart.calls a0_1 (⟨#[45, 46]⟩ : ByteArray) t103 _ A2.out).mono ?_
  rintro e w7 ⟨rfl, hb⟩
  refine ⟨_, rfl, ?_⟩
  have n0_ := Aside0.mk (blk_below (g := gb102) (o := .cells #[.int .i64 a0_0, .string a0_1, .string a0_2, .int .i64 a0_3, .int .i64 a0_4] 37 (0, 0)) (by (with_reducible repeat (first | refine blk_drewN ?_ _ | refine blk_drew ?_ | refine blk_alloc ?_ _)); exact BK102.out) hb)
  have n1_ := Aside0.mk (below_step (by repeat (first | (with_reducible first | exact HB.out | apply below_alloc | apply pw_below_drewN | apply below_drew1 | refine below_set ?_ GE102.out) | exact HB.out)) hb)
  clear BK102
  clear HB
  have BK102 := n0_
  have HB := n1_
  clear n0_ n1_
  (try clear hb)
  (try clear hb2)
  (try clear hk)
  (try clear hi)
  refine hK.out _ _ ⟨(blk_cell BK102.out 0).trans rfl, (blk_cell BK102.out 1).trans rfl, (blk_cell BK102.out 2).trans rfl, (blk_cell BK102.out 3).trans rfl, (blk_cell BK102.out 4).trans rfl⟩ (fun hHeld => ?_)
  clear hK K
  refine norm_ (a' := ?_) ?_ ?_
  rotate_left
  · show Act.put _ (some 8) _ = _
    simp only [Act.put, List.setIfInBounds_toArray, List.set_cons_zero, List.set_cons_succ, i64_w, i32_w]
    rfl
  refine one_ (i := 8) (N := some 11) #[true, true, true, true, true, true, true, true, true, true, true, true, true, true, true, false, false, false] rfl rfl (one_of HT_.out (by kernel_rfl)) (by decide) (fun K hK => ?_)
  refine goes_ Tryz.func71 (by kernel_rfl) rfl #[.string a0_2, .string (⟨#[45, 46, 47]⟩ : ByteArray)] (by rfl) rfl rfl (by (try simp only [List.map_toArray, List.map_cons, List.map_nil]); first | done | rfl | (simp only [List.length_drop, List.length_take]; rfl)) ?_
  with_reducible refine (eid_isPart.calls a0_2 (⟨#[45, 46, 47]⟩ : ByteArray) t104 _ A3.out).mono ?_
  rintro e w8 ⟨rfl, hb⟩
  refine ⟨_, rfl, ?_⟩
  have n0_ := Aside0.mk (blk_below (g := gb102) (o := .cells #[.int .i64 a0_0, .string a0_1, .string a0_2, .int .i64 a0_3, .int .i64 a0_4] 37 (0, 0)) (by (with_reducible repeat (first | refine blk_drewN ?_ _ | refine blk_drew ?_ | refine blk_alloc ?_ _)); exact BK102.out) hb)
  have n1_ := Aside0.mk (below_step (by repeat (first | (with_reducible first | exact HB.out | apply below_alloc | apply pw_below_drewN | apply below_drew1 | refine below_set ?_ GE102.out) | exact HB.out)) hb)
  clear BK102
  clear HB
  have BK102 := n0_
  have HB := n1_
  clear n0_ n1_
  (try clear hb)
  (try clear hb2)
  (try clear hk)
  (try clear hi)
  refine hK.out _ _ ⟨(blk_cell BK102.out 0).trans rfl, (blk_cell BK102.out 1).trans rfl, (blk_cell BK102.out 2).trans rfl, (blk_cell BK102.out 3).trans rfl, (blk_cell BK102.out 4).trans rfl⟩ (fun hHeld => ?_)
  clear hK K
  refine norm_ (a' := ?_) ?_ ?_
  rotate_left
  · show Act.put _ (some 11) _ = _
    simp only [Act.put, List.setIfInBounds_toArray, List.set_cons_zero, List.set_cons_succ, i64_w, i32_w]
    rfl
  refine one_ (i := 15) (N := some 18) #[true, true, true, true, true, true, true, true, true, true, true, true, true, true, true, true, false, false] rfl rfl (one_of HT_.out (by kernel_rfl)) (by decide) (fun K hK => ?_)
  refine Kd.R_lit_step Kd.bool _ 4 ?hg (N := 18) ?hd (xs := ([(a0_1.toList != ([] : List UInt8)), t103, t104, (a0_3 == 0), (a0_4 == 0)] : List Bool)) (inner := [.bool (a0_1.toList != ([] : List UInt8)), .bool t103, .bool t104, .bool (a0_3 == 0), .bool (a0_4 == 0)]) (ok := fun _ => True) (okp := fun _ => True) ?hr ?hp (fun _ hk => hk) trivial (Below.refl _ _) (Nat.le_refl _) (by simp) ?_; (case hd => rfl); (case hg => rfl); (case hr => first | (go_simp; done) | (go_simp; rfl) | (go_simp; simp only [isEmpty_ne, isEmpty_eq]; done) | (go_simp; simp only [isEmpty_ne, isEmpty_eq]; rfl)); (case hp => exact (Reps.one (show Kd.M Kd.bool _ _ _ (a0_1.toList != ([] : List UInt8)) [.bool (a0_1.toList != ([] : List UInt8))] from rfl) (Reps.one (show Kd.M Kd.bool _ _ _ t103 [.bool t103] from rfl) (Reps.one (show Kd.M Kd.bool _ _ _ t104 [.bool t104] from rfl) (Reps.one (show Kd.M Kd.bool _ _ _ (a0_3 == 0) [.bool (a0_3 == 0)] from rfl) (Reps.one (show Kd.M Kd.bool _ _ _ (a0_4 == 0) [.bool (a0_4 == 0)] from rfl) (Reps.none _ _)))))))
  intro v106 w9 ho10 hb hg_ hnew_
  clear hg_ hnew_
  (first | rw [← Ny105.out] at ho10 | (simp only [Int.reduceToNat] at ho10; rw [← Ny105.out] at ho10))
  have n0_ := Aside0.mk (Kd.R_lower ho10 (below_size (by repeat (first | (with_reducible first | exact HB.out | apply below_alloc | apply pw_below_drewN | apply below_drew1 | refine below_set ?_ GE102.out) | exact HB.out))))
  have n1_ := Aside0.mk (blk_below (g := gb102) (o := .cells #[.int .i64 a0_0, .string a0_1, .string a0_2, .int .i64 a0_3, .int .i64 a0_4] 37 (0, 0)) (by (with_reducible repeat (first | refine blk_drewN ?_ _ | refine blk_drew ?_ | refine blk_alloc ?_ _)); exact BK102.out) hb)
  have n2_ := Aside0.mk (below_step (by repeat (first | (with_reducible first | exact HB.out | apply below_alloc | apply pw_below_drewN | apply below_drew1 | refine below_set ?_ GE102.out) | exact HB.out)) hb)
  clear BK102
  clear HB
  have HO107 := n0_
  have BK102 := n1_
  have HB := n2_
  clear n0_ n1_ n2_
  clear hb ho10
  obtain ⟨Ao11, co11, eo11⟩ := Kd.R_slice HO107.out
  (first | subst eo11 | (injection eo11 with f1_ f2_ f3_; have f4_ := f1_.symm; have f5_ := f3_.symm; clear f1_ f2_ f3_; subst f4_; subst f5_))
  refine hK.out _ _ ⟨(blk_cell BK102.out 0).trans rfl, (blk_cell BK102.out 1).trans rfl, (blk_cell BK102.out 2).trans rfl, (blk_cell BK102.out 3).trans rfl, (blk_cell BK102.out 4).trans rfl⟩ (fun hHeld => ?_)
  clear hK K
  refine norm_ (a' := ?_) ?_ ?_
  rotate_left
  · show Act.put _ (some 18) _ = _
    simp only [Act.put, List.setIfInBounds_toArray, List.set_cons_zero, List.set_cons_succ, i64_w, i32_w]
    rfl
  refine one_ (i := 16) (N := some 19) #[true, true, true, true, true, true, true, true, true, true, true, true, true, true, true, true, true, false] rfl rfl (one_of HT_.out (by kernel_rfl)) (by decide) (fun K hK => ?_)
  refine goes_ Tryz.func70 (by kernel_rfl) rfl #[.slice Ao11 y105.length co11] (by rfl) rfl rfl (by (try simp only [List.map_toArray, List.map_cons, List.map_nil]); first | done | rfl | (simp only [List.length_drop, List.length_take]; rfl)) ?_
  with_reducible refine (eid_areAll.calls k _ _ y105 t108 _ ?side1 ?side2 A4.out).mono ?_
  (case side1 => repeat (first | exact (Kd.R_reads' HO107.out).2.2 | (with_reducible refine Kd.C_alloc ?_ _) | (with_reducible refine Kd.C_drewN ?_ _) | (with_reducible refine Kd.C_drew ?_)))
  (case side2 => exact (Kd.R_reads' HO107.out).2.1)
  rintro e w' ⟨rfl, ⟨nd, rfl⟩⟩
  refine ⟨_, rfl, ?_⟩
  refine hK.out _ _ ⟨(blk_cell BK102.out 0).trans rfl, (blk_cell BK102.out 1).trans rfl, (blk_cell BK102.out 2).trans rfl, (blk_cell BK102.out 3).trans rfl, (blk_cell BK102.out 4).trans rfl⟩ (fun hHeld => ?_)
  clear hK K
  refine norm_ (a' := ?_) ?_ ?_
  rotate_left
  · show Act.put _ (some 19) _ = _
    simp only [Act.put, List.setIfInBounds_toArray, List.set_cons_zero, List.set_cons_succ, i64_w, i32_w]
    rfl
  refine pure_ (i := 17) (N := some 2) (v := ?_) (a' := ?_) #[true, true, true, true, true, true, true, true, true, true, true, true, true, true, true, true, true, true] rfl rfl (any_of HT_.out (by kernel_rfl)) (fun _ _ _ h => h) (Or.inl ⟨by rfl, ?_⟩) ?_ ?_
  rotate_left
  · intro w'
    go_simp
    with_reducible rfl
  rotate_left
  · simp only [Act.put, List.setIfInBounds_toArray, List.set_cons_zero, List.set_cons_succ, i64_w, i32_w]
    rfl
  refine done_ (done_of HT_.out (by kernel_rfl)) ?_
  try go_wp2
  all_goals (first | (go_ret; exact ⟨by first | rfl | (simp [errW_none, errW_some] <;> rfl) | (simp [*, errW_none, errW_some] <;> rfl) | (simp_all; done) | fail, by repeat (first | (with_reducible first | exact HB.out | apply below_alloc | apply pw_below_drewN | apply below_drew1 | refine below_set ?_ GE102.out) | exact HB.out)⟩) | (exfalso; simp_all; done) | (exfalso; simp only [isEmpty_eq, isEmpty_ne] at *; simp_all; done) | (exfalso; exact isEmpty_clash (by assumption) (by assumption)) | (exfalso; exact isEmpty_clash' (by assumption) (by assumption)) | (exfalso; exact isEmpty_clash2 (by assumption) (by assumption)))
def eid_isIpn.f (k : Nat) (a0_0 : Int) (a0_1 : ByteArray) (a0_2 : ByteArray) (a0_3 : Int) (a0_4 : Int) : Option (Bool) := (eid_areAll.f k (([(a0_1.toList == ([] : List UInt8)), (a0_2.toList == ([] : List UInt8)), decide (a0_3 ≥ 1), decide (a0_3 ≤ 999999999), decide (a0_4 ≥ 0), decide (a0_4 ≤ 999999999)] : List Bool))).bind fun t113 => (some t113)
theorem eid_isIpn.mono : ∀ a0 a1 a2 a3 a4 k, LeO (eid_isIpn.f k a0 a1 a2 a3 a4) (eid_isIpn.f (k + 1) a0 a1 a2 a3 a4) := by
  intro a0 a1 a2 a3 a4 k
  unfold eid_isIpn.f
  repeat' first
      | (with_reducible exact eid_areAll.mono _ _)
      | (with_reducible exact LeO.refl _)
      | (with_reducible exact LeO.none _)
      | (with_reducible refine LeO.ite ?_ ?_)
      | (with_reducible refine LeO.bind ?_ (fun _ => ?_))
      | exact eid_areAll.mono _ _
      | exact LeO.none _
      | refine LeO.ite ?_ ?_
      | refine LeO.bind ?_ (fun _ => ?_)
set_option maxHeartbeats 8000000 in
set_option maxRecDepth 100000 in
theorem eid_isIpn.calls (k : Nat) (a0_0 : Int) (a0_1 : ByteArray) (a0_2 : ByteArray) (a0_3 : Int) (a0_4 : Int) (r : Bool) (w : World) (h : eid_isIpn.f k a0_0 a0_1 a0_2 a0_3 a0_4 = some r) :
    Calls Tryz.prog 59 #[.agg #[.int .i64 a0_0, .string a0_1, .string a0_2, .int .i64 a0_3, .int .i64 a0_4]] w fun e w' => e = .returned (.bool r) ∧ Below w.heap.size w w' := by
  have hu37 := Tryz.underlying37
  have HB := Aside0.mk (Below.refl w.heap.size w)
  have H : ((eid_areAll.f k (([(a0_1.toList == ([] : List UInt8)), (a0_2.toList == ([] : List UInt8)), decide (a0_3 ≥ 1), decide (a0_3 ≤ 999999999), decide (a0_4 ≥ 0), decide (a0_4 ≤ 999999999)] : List Bool))).bind fun t113 => (some t113)) = some r := h
  clear h
  obtain ⟨y110, hy110⟩ : ∃ y_ : List Bool, y_ = (([(a0_1.toList == ([] : List UInt8)), (a0_2.toList == ([] : List UInt8)), decide (a0_3 ≥ 1), decide (a0_3 ≤ 999999999), decide (a0_4 ≥ 0), decide (a0_4 ≤ 999999999)] : List Bool)) := ⟨_, rfl⟩
  replace H : ((eid_areAll.f k y110).bind fun t113 => (some t113)) = some r := by first | (rw [hy110]; with_reducible exact H) | (have H2_ := (Option.bind_some _ _).symm.trans H; rw [hy110]; with_reducible exact H2_) | (have H2_ := (Option.bind_some _ _).symm.trans H; with_reducible exact H2_) | with_reducible exact H | (rw [hy110]; exact H) | exact H
  have Ny110 := Aside0.mk hy110
  clear hy110
  replace H := Option.bind_eq_some_iff.mp H
  obtain ⟨t113, A20, H⟩ := H
  replace H : (some t113) = some r := H
  have A2 := Aside0.mk A20
  clear A20
  obtain rfl := Option.some.inj H
  go_enter Tryz.func59, Tryz.ntmps59
  go_wp2_with (first | ((with_reducible refine gate_dst (N := 1) rfl ?_); refine box_event ?hg (N := 1) ?hd (cs := #[.int .i64 a0_0, .string a0_1, .string a0_2, .int .i64 a0_3, .int .i64 a0_4]) (t := 37) ?hr ?_; (case hd => rfl); (case hg => rfl); (case hr => first | (go_simp; done) | (go_simp; rfl) | (go_simp; simp only [isEmpty_ne, isEmpty_eq]; done) | (go_simp; simp only [isEmpty_ne, isEmpty_eq]; rfl)); intro gb109 hg w3 hbox hb; have n0_ := Aside0.mk (below_step (by repeat (first | (with_reducible first | exact HB.out | apply below_alloc | apply pw_below_drewN | apply below_drew1) | exact HB.out)) hb); have n1_ := Aside0.mk (hbox); have n2_ := Aside0.mk ((by rw [hg]; exact (below_size (by repeat (first | (with_reducible first | exact HB.out | apply below_alloc | apply pw_below_drewN | apply below_drew1) | exact HB.out))) : w.heap.size ≤ gb109)); have n3_ := Aside0.mk ((by rw [hg]; exact (below_size (by repeat (first | (with_reducible first | exact HB.out | apply below_alloc | apply pw_below_drewN | apply below_drew1) | exact HB.out))) : w.heap.size ≤ gb109)); clear HB; have HB := n0_; have BK109 := n1_; have GW109 := n2_; have GE109 := n3_; clear n0_ n1_ n2_ n3_; clear hb hbox hg; have hcz4_0 : w3.cell? ⟨gb109, 0, none⟩ = some (.int .i64 a0_0) := (blk_cell BK109.out 0).trans rfl; have hcz4_1 : w3.cell? ⟨gb109, 1, none⟩ = some (.string a0_1) := (blk_cell BK109.out 1).trans rfl; have hcz4_2 : w3.cell? ⟨gb109, 2, none⟩ = some (.string a0_2) := (blk_cell BK109.out 2).trans rfl; have hcz4_3 : w3.cell? ⟨gb109, 3, none⟩ = some (.int .i64 a0_3) := (blk_cell BK109.out 3).trans rfl; have hcz4_4 : w3.cell? ⟨gb109, 4, none⟩ = some (.int .i64 a0_4) := (blk_cell BK109.out 4).trans rfl; have hfz4_0 := blk_frozen BK109.out 0; have hfz4_1 := blk_frozen BK109.out 1; have hfz4_2 := blk_frozen BK109.out 2; have hfz4_3 := blk_frozen BK109.out 3; have hfz4_4 := blk_frozen BK109.out 4) | ((with_reducible refine gate_dst (N := 21) rfl ?_); refine Kd.R_lit Kd.bool _ 4 ?hg (N := 21) ?hd (xs := ([(a0_1.toList == ([] : List UInt8)), (a0_2.toList == ([] : List UInt8)), decide (a0_3 ≥ 1), decide (a0_3 ≤ 999999999), decide (a0_4 ≥ 0), decide (a0_4 ≤ 999999999)] : List Bool)) (inner := [.bool (a0_1.toList == ([] : List UInt8)), .bool (a0_2.toList == ([] : List UInt8)), .bool (decide (a0_3 ≥ 1)), .bool (decide (a0_3 ≤ 999999999)), .bool (decide (a0_4 ≥ 0)), .bool (decide (a0_4 ≤ 999999999))]) (ok := fun _ => True) (okp := fun _ => True) ?hr ?hp (fun _ hk => hk) trivial (Below.refl _ _) (Nat.le_refl _) (by simp) ?_; (case hd => rfl); (case hg => rfl); (case hr => first | (go_simp; done) | (go_simp; rfl) | (go_simp; simp only [isEmpty_ne, isEmpty_eq]; done) | (go_simp; simp only [isEmpty_ne, isEmpty_eq]; rfl)); (case hp => exact (Reps.one (show Kd.M Kd.bool _ _ _ (a0_1.toList == ([] : List UInt8)) [.bool (a0_1.toList == ([] : List UInt8))] from rfl) (Reps.one (show Kd.M Kd.bool _ _ _ (a0_2.toList == ([] : List UInt8)) [.bool (a0_2.toList == ([] : List UInt8))] from rfl) (Reps.one (show Kd.M Kd.bool _ _ _ (decide (a0_3 ≥ 1)) [.bool (decide (a0_3 ≥ 1))] from rfl) (Reps.one (show Kd.M Kd.bool _ _ _ (decide (a0_3 ≤ 999999999)) [.bool (decide (a0_3 ≤ 999999999))] from rfl) (Reps.one (show Kd.M Kd.bool _ _ _ (decide (a0_4 ≥ 0)) [.bool (decide (a0_4 ≥ 0))] from rfl) (Reps.one (show Kd.M Kd.bool _ _ _ (decide (a0_4 ≤ 999999999)) [.bool (decide (a0_4 ≤ 999999999))] from rfl) (Reps.none _ _)))))))); intro v111 w5 ho6 hb hg_ hnew_; clear hg_ hnew_; (first | rw [← Ny110.out] at ho6 | (simp only [Int.reduceToNat] at ho6; rw [← Ny110.out] at ho6)); have n0_ := Aside0.mk (Kd.R_lower ho6 (below_size (by repeat (first | (with_reducible first | exact HB.out | apply below_alloc | apply pw_below_drewN | apply below_drew1 | refine below_set ?_ GE109.out) | exact HB.out)))); have n1_ := Aside0.mk (blk_below (g := gb109) (o := .cells #[.int .i64 a0_0, .string a0_1, .string a0_2, .int .i64 a0_3, .int .i64 a0_4] 37 (0, 0)) (by (with_reducible repeat (first | refine blk_drewN ?_ _ | refine blk_drew ?_ | refine blk_alloc ?_ _)); exact BK109.out) hb); have n2_ := Aside0.mk (below_step (by repeat (first | (with_reducible first | exact HB.out | apply below_alloc | apply pw_below_drewN | apply below_drew1 | refine below_set ?_ GE109.out) | exact HB.out)) hb); clear BK109; clear HB; have HO112 := n0_; have BK109 := n1_; have HB := n2_; clear n0_ n1_ n2_; clear hb ho6; obtain ⟨Ao7, co7, eo7⟩ := Kd.R_slice HO112.out; subst eo7) | ((with_reducible refine gate_callee (f := 70) rfl ?_); refine goesL_ (some 22) rfl rfl Tryz.func70 (by kernel_rfl) rfl #[.slice Ao7 y110.length co7] rfl (by (try simp only [List.map_toArray, List.map_cons, List.map_nil]); first | done | rfl | (simp only [List.length_drop, List.length_take]; rfl)) ?_; (with_reducible refine (eid_areAll.calls k _ _ y110 t113 _ ?side1 ?side2 A2.out).mono ?_); (case side1 => repeat (first | exact (Kd.R_reads' HO112.out).2.2 | (with_reducible refine Kd.C_alloc ?_ _) | (with_reducible refine Kd.C_drewN ?_ _) | (with_reducible refine Kd.C_drew ?_))); (case side2 => exact (Kd.R_reads' HO112.out).2.1); rintro e w' ⟨rfl, ⟨nd, rfl⟩⟩; refine ⟨_, rfl, ?_⟩))
  all_goals (first | (go_ret; exact ⟨by first | rfl | (simp [errW_none, errW_some] <;> rfl) | (simp [*, errW_none, errW_some] <;> rfl) | (simp_all; done) | fail, by repeat (first | (with_reducible first | exact HB.out | apply below_alloc | apply pw_below_drewN | apply below_drew1 | refine below_set ?_ GE109.out) | exact HB.out)⟩) | (exfalso; simp_all; done) | (exfalso; simp only [isEmpty_eq, isEmpty_ne] at *; simp_all; done) | (exfalso; exact isEmpty_clash (by assumption) (by assumption)) | (exfalso; exact isEmpty_clash' (by assumption) (by assumption)) | (exfalso; exact isEmpty_clash2 (by assumption) (by assumption)))
def eid_schemes_1.f (a0_0 : Int) (a0_1 : ByteArray) (a0_2 : ByteArray) (a0_3 : Int) (a0_4 : Int) : Option (Bool) := some (a0_0 == 0 && (a0_1.toList == ([] : List UInt8) && (a0_2.toList == ([] : List UInt8) && (a0_3 == 0 && (a0_4 == 0)))))
set_option maxHeartbeats 8000000 in
set_option maxRecDepth 100000 in
theorem eid_schemes_1.calls (a0_0 : Int) (a0_1 : ByteArray) (a0_2 : ByteArray) (a0_3 : Int) (a0_4 : Int) (r : Bool) (w : World) (h : eid_schemes_1.f a0_0 a0_1 a0_2 a0_3 a0_4 = some r) :
    Calls Tryz.prog 53 #[.agg #[.int .i64 a0_0, .string a0_1, .string a0_2, .int .i64 a0_3, .int .i64 a0_4]] w fun e w' => e = .returned (.bool r) ∧ Below w.heap.size w w' := by
  have hu37 := Tryz.underlying37
  have HB := Aside0.mk (Below.refl w.heap.size w)
  have H : (some (a0_0 == 0 && (a0_1.toList == ([] : List UInt8) && (a0_2.toList == ([] : List UInt8) && (a0_3 == 0 && (a0_4 == 0)))))) = some r := h
  clear h
  obtain rfl := Option.some.inj H
  go_enter Tryz.func53, Tryz.ntmps53
  go_wp2_with (first | ((with_reducible refine gate_dst (N := 1) rfl ?_); refine box_event ?hg (N := 1) ?hd (cs := #[.int .i64 a0_0, .string a0_1, .string a0_2, .int .i64 a0_3, .int .i64 a0_4]) (t := 37) ?hr ?_; (case hd => rfl); (case hg => rfl); (case hr => first | (go_simp; done) | (go_simp; rfl) | (go_simp; simp only [isEmpty_ne, isEmpty_eq]; done) | (go_simp; simp only [isEmpty_ne, isEmpty_eq]; rfl)); intro gb114 hg w2 hbox hb; have n0_ := Aside0.mk (below_step (by repeat (first | (with_reducible first | exact HB.out | apply below_alloc | apply pw_below_drewN | apply below_drew1) | exact HB.out)) hb); have n1_ := Aside0.mk (hbox); have n2_ := Aside0.mk ((by rw [hg]; exact (below_size (by repeat (first | (with_reducible first | exact HB.out | apply below_alloc | apply pw_below_drewN | apply below_drew1) | exact HB.out))) : w.heap.size ≤ gb114)); have n3_ := Aside0.mk ((by rw [hg]; exact (below_size (by repeat (first | (with_reducible first | exact HB.out | apply below_alloc | apply pw_below_drewN | apply below_drew1) | exact HB.out))) : w.heap.size ≤ gb114)); clear HB; have HB := n0_; have BK114 := n1_; have GW114 := n2_; have GE114 := n3_; clear n0_ n1_ n2_ n3_; clear hb hbox hg; have hcz3_0 : w2.cell? ⟨gb114, 0, none⟩ = some (.int .i64 a0_0) := (blk_cell BK114.out 0).trans rfl; have hcz3_1 : w2.cell? ⟨gb114, 1, none⟩ = some (.string a0_1) := (blk_cell BK114.out 1).trans rfl; have hcz3_2 : w2.cell? ⟨gb114, 2, none⟩ = some (.string a0_2) := (blk_cell BK114.out 2).trans rfl; have hcz3_3 : w2.cell? ⟨gb114, 3, none⟩ = some (.int .i64 a0_3) := (blk_cell BK114.out 3).trans rfl; have hcz3_4 : w2.cell? ⟨gb114, 4, none⟩ = some (.int .i64 a0_4) := (blk_cell BK114.out 4).trans rfl; have hfz3_0 := blk_frozen BK114.out 0; have hfz3_1 := blk_frozen BK114.out 1; have hfz3_2 := blk_frozen BK114.out 2; have hfz3_3 := blk_frozen BK114.out 3; have hfz3_4 := blk_frozen BK114.out 4))
  all_goals (first | (go_ret; exact ⟨by first | rfl | (simp [errW_none, errW_some] <;> rfl) | (simp [*, errW_none, errW_some] <;> rfl) | (simp_all; done) | fail, by repeat (first | (with_reducible first | exact HB.out | apply below_alloc | apply pw_below_drewN | apply below_drew1 | refine below_set ?_ GE114.out) | exact HB.out)⟩) | (exfalso; simp_all; done) | (exfalso; simp only [isEmpty_eq, isEmpty_ne] at *; simp_all; done) | (exfalso; exact isEmpty_clash (by assumption) (by assumption)) | (exfalso; exact isEmpty_clash' (by assumption) (by assumption)) | (exfalso; exact isEmpty_clash2 (by assumption) (by assumption)))
def eid_schemes_2.f (a0_0 : Int) (a0_1 : ByteArray) (a0_2 : ByteArray) (a0_3 : Int) (a0_4 : Int) : Option (ByteArray) := some (⟨#[110, 111, 110, 101]⟩ : ByteArray)
set_option maxHeartbeats 8000000 in
set_option maxRecDepth 100000 in
theorem eid_schemes_2.calls (a0_0 : Int) (a0_1 : ByteArray) (a0_2 : ByteArray) (a0_3 : Int) (a0_4 : Int) (r : ByteArray) (w : World) (h : eid_schemes_2.f a0_0 a0_1 a0_2 a0_3 a0_4 = some r) :
    Calls Tryz.prog 54 #[.agg #[.int .i64 a0_0, .string a0_1, .string a0_2, .int .i64 a0_3, .int .i64 a0_4]] w fun e w' => e = .returned (.string r) ∧ Below w.heap.size w w' := by
  have hu37 := Tryz.underlying37
  have HB := Aside0.mk (Below.refl w.heap.size w)
  have H : (some (⟨#[110, 111, 110, 101]⟩ : ByteArray)) = some r := h
  clear h
  obtain rfl := Option.some.inj H
  go_enter Tryz.func54, Tryz.ntmps54
  go_wp2_with (first | ((with_reducible refine gate_dst (N := 1) rfl ?_); refine box_event ?hg (N := 1) ?hd (cs := #[.int .i64 a0_0, .string a0_1, .string a0_2, .int .i64 a0_3, .int .i64 a0_4]) (t := 37) ?hr ?_; (case hd => rfl); (case hg => rfl); (case hr => first | (go_simp; done) | (go_simp; rfl) | (go_simp; simp only [isEmpty_ne, isEmpty_eq]; done) | (go_simp; simp only [isEmpty_ne, isEmpty_eq]; rfl)); intro gb115 hg w2 hbox hb; have n0_ := Aside0.mk (below_step (by repeat (first | (with_reducible first | exact HB.out | apply below_alloc | apply pw_below_drewN | apply below_drew1) | exact HB.out)) hb); have n1_ := Aside0.mk (hbox); have n2_ := Aside0.mk ((by rw [hg]; exact (below_size (by repeat (first | (with_reducible first | exact HB.out | apply below_alloc | apply pw_below_drewN | apply below_drew1) | exact HB.out))) : w.heap.size ≤ gb115)); have n3_ := Aside0.mk ((by rw [hg]; exact (below_size (by repeat (first | (with_reducible first | exact HB.out | apply below_alloc | apply pw_below_drewN | apply below_drew1) | exact HB.out))) : w.heap.size ≤ gb115)); clear HB; have HB := n0_; have BK115 := n1_; have GW115 := n2_; have GE115 := n3_; clear n0_ n1_ n2_ n3_; clear hb hbox hg))
  all_goals (first | (go_ret; exact ⟨by first | rfl | (simp [errW_none, errW_some] <;> rfl) | (simp [*, errW_none, errW_some] <;> rfl) | (simp_all; done) | fail, by repeat (first | (with_reducible first | exact HB.out | apply below_alloc | apply pw_below_drewN | apply below_drew1 | refine below_set ?_ GE115.out) | exact HB.out)⟩) | (exfalso; simp_all; done) | (exfalso; simp only [isEmpty_eq, isEmpty_ne] at *; simp_all; done) | (exfalso; exact isEmpty_clash (by assumption) (by assumption)) | (exfalso; exact isEmpty_clash' (by assumption) (by assumption)) | (exfalso; exact isEmpty_clash2 (by assumption) (by assumption)))
def postriderlaw06_Cut.f (a0_0 : Int) (a0_1 : ByteArray) (a0_2 : ByteArray) (a0_3 : Int) (a0_4 : Int) : Option (Int × ByteArray × ByteArray × Int × Int) := if 0 ≤ (mn (a0_1.size : Int) 21) then (if (mn (a0_1.size : Int) 21) ≤ (a0_1.size : Int) then (if 0 ≤ (mn (a0_2.size : Int) 21) then (if (mn (a0_2.size : Int) 21) ≤ (a0_2.size : Int) then (some (a0_0, a0_1.extract 0 ((mn (a0_1.size : Int) 21) : Int).toNat, a0_2.extract 0 ((mn (a0_2.size : Int) 21) : Int).toNat, a0_3, a0_4)) else (none)) else (none)) else (none)) else (none)
def postriderlaw06_Cut.T1 : Bool × List (List Nat × List Nat) := (true, [([], []), ([0], [0]), ([], []), ([2], [2]), ([], []), ([4], [4]), ([5], [5]), ([6], [6]), ([3, 7], [3, 7]), ([], []), ([9], [9]), ([], []), ([11], [11]), ([12], [12]), ([13], [13]), ([10, 14], [10, 14]), ([], []), ([16], [16]), ([], []), ([18], [18]), ([1, 8, 15, 17, 19], [1, 8, 15, 17, 19]), ([20, 0, 1, 2, 3, 4, 5, 6, 7, 8, 9, 10, 11, 12, 13, 14, 15, 16, 17, 18, 19, 20], [20])])
def postriderlaw06_Cut.B1 : List Nat := [0, 1, 0, 4, 0, 16, 48, 112, 252, 0, 512, 0, 2048, 6144, 14336, 32256, 0, 65536, 0, 262144, 1048575, 2097151]
theorem postriderlaw06_Cut.tab1 : rtab .any (opsOf Tryz.f18 1) = postriderlaw06_Cut.T1 := by kernel_rfl
theorem postriderlaw06_Cut.bits1 : waitsOk postriderlaw06_Cut.T1.2 postriderlaw06_Cut.B1 = true := by kernel_rfl
set_option maxHeartbeats 8000000 in
set_option maxRecDepth 100000 in
theorem postriderlaw06_Cut.calls (a0_0 : Int) (a0_1 : ByteArray) (a0_2 : ByteArray) (a0_3 : Int) (a0_4 : Int) (r1 : Int) (r2 : ByteArray) (r3 : ByteArray) (r4 : Int) (r5 : Int) (w : World) (h : postriderlaw06_Cut.f a0_0 a0_1 a0_2 a0_3 a0_4 = some (r1, r2, r3, r4, r5)) :
    Calls Tryz.prog 18 #[.agg #[.int .i64 a0_0, .string a0_1, .string a0_2, .int .i64 a0_3, .int .i64 a0_4]] w fun e w' => e = .returned (.agg #[.int .i64 r1, .string r2, .string r3, .int .i64 r4, .int .i64 r5]) ∧ Below w.heap.size w w' := by
  have hu37 := Tryz.underlying37
  have HB := Aside0.mk (Below.refl w.heap.size w)
  have H : (if 0 ≤ (mn (a0_1.size : Int) 21) then (if (mn (a0_1.size : Int) 21) ≤ (a0_1.size : Int) then (if 0 ≤ (mn (a0_2.size : Int) 21) then (if (mn (a0_2.size : Int) 21) ≤ (a0_2.size : Int) then (some (a0_0, a0_1.extract 0 ((mn (a0_1.size : Int) 21) : Int).toNat, a0_2.extract 0 ((mn (a0_2.size : Int) 21) : Int).toNat, a0_3, a0_4)) else (none)) else (none)) else (none)) else (none)) = some (r1, r2, r3, r4, r5) := h
  clear h
  obtain ⟨ji2, hji2⟩ : ∃ j_ : Int, (mn (a0_1.size : Int) 21) = j_ := ⟨_, rfl⟩
  replace H : (if 0 ≤ (ji2) then (if (ji2) ≤ (a0_1.size : Int) then (if 0 ≤ (mn (a0_2.size : Int) 21) then (if (mn (a0_2.size : Int) 21) ≤ (a0_2.size : Int) then (some (a0_0, a0_1.extract 0 ((ji2) : Int).toNat, a0_2.extract 0 ((mn (a0_2.size : Int) 21) : Int).toNat, a0_3, a0_4)) else (none)) else (none)) else (none)) else (none)) = some (r1, r2, r3, r4, r5) := by first | (rw [hji2] at H; exact H) | (simp only [hji2] at H ⊢; exact H)
  (try (have hji2h : ji2 ≤ 21 := by (rw [← hji2]; unfold mn; (repeat' split) <;> omega)))
  (try (have hji2g : ji2 ≤ 64 := by omega))
  (try (have hji2l : 0 ≤ ji2 := by (rw [← hji2]; unfold mn; (repeat' split) <;> omega)))
  (try (have hji2m : 0 ≤ ji2 := by omega))
  have hji2_ : (if 21 < (a0_1.size : Int) then 21 else (a0_1.size : Int)) = ji2 := hji2
  by_cases c3 : 0 ≤ (ji2)
  · rw [if_pos c3] at H
    have c3b0 := eq_true c3
    have c3b1 : decide (0 ≤ (ji2)) = true := decide_eq_true c3
    clear c3
    by_cases c4 : (ji2) ≤ (a0_1.size : Int)
    · rw [if_pos c4] at H
      have c4b0 := eq_true c4
      have c4b1 : decide ((ji2) ≤ (a0_1.size : Int)) = true := decide_eq_true c4
      clear c4
      obtain ⟨ji5, hji5⟩ : ∃ j_ : Int, (mn (a0_2.size : Int) 21) = j_ := ⟨_, rfl⟩
      replace H : (if 0 ≤ (ji5) then (if (ji5) ≤ (a0_2.size : Int) then (some (a0_0, a0_1.extract 0 ((ji2) : Int).toNat, a0_2.extract 0 ((ji5) : Int).toNat, a0_3, a0_4)) else (none)) else (none)) = some (r1, r2, r3, r4, r5) := by first | (rw [hji5] at H; exact H) | (simp only [hji5] at H ⊢; exact H)
      (try (have hji5h : ji5 ≤ 21 := by (rw [← hji5]; unfold mn; (repeat' split) <;> omega)))
      (try (have hji5g : ji5 ≤ 64 := by omega))
      (try (have hji5l : 0 ≤ ji5 := by (rw [← hji5]; unfold mn; (repeat' split) <;> omega)))
      (try (have hji5m : 0 ≤ ji5 := by omega))
      have hji5_ : (if 21 < (a0_2.size : Int) then 21 else (a0_2.size : Int)) = ji5 := hji5
      by_cases c6 : 0 ≤ (ji5)
      · rw [if_pos c6] at H
        have c6b0 := eq_true c6
        have c6b1 : decide (0 ≤ (ji5)) = true := decide_eq_true c6
        clear c6
        by_cases c7 : (ji5) ≤ (a0_2.size : Int)
        · rw [if_pos c7] at H
          have c7b0 := eq_true c7
          have c7b1 : decide ((ji5) ≤ (a0_2.size : Int)) = true := decide_eq_true c7
          clear c7
          simp only [Option.some.injEq, Prod.mk.injEq] at H
          obtain ⟨rfl, rfl, rfl, rfl, rfl⟩ := H
          go_enter Tryz.func18, Tryz.ntmps18
          try go_wp2_with (first | ((with_reducible refine gate_dst (N := 1) rfl ?_); refine box_event ?hg (N := 1) ?hd (cs := #[.int .i64 a0_0, .string a0_1, .string a0_2, .int .i64 a0_3, .int .i64 a0_4]) (t := 37) ?hr ?_; (case hd => rfl); (case hg => rfl); (case hr => first | (go_simp; done) | (go_simp; rfl) | (go_simp; simp only [isEmpty_ne, isEmpty_eq]; done) | (go_simp; simp only [isEmpty_ne, isEmpty_eq]; rfl)); intro gb116 hg w8 hbox hb; have n0_ := Aside0.mk (below_step (by repeat (first | (with_reducible first | exact HB.out | apply below_alloc | apply pw_below_drewN | apply below_drew1) | exact HB.out)) hb); have n1_ := Aside0.mk (hbox); have n2_ := Aside0.mk ((by rw [hg]; exact (below_size (by repeat (first | (with_reducible first | exact HB.out | apply below_alloc | apply pw_below_drewN | apply below_drew1) | exact HB.out))) : w.heap.size ≤ gb116)); have n3_ := Aside0.mk ((by rw [hg]; exact (below_size (by repeat (first | (with_reducible first | exact HB.out | apply below_alloc | apply pw_below_drewN | apply below_drew1) | exact HB.out))) : w.heap.size ≤ gb116)); clear HB; have HB := n0_; have BK116 := n1_; have GW116 := n2_; have GE116 := n3_; clear n0_ n1_ n2_ n3_; clear hb hbox hg) | ((with_reducible refine gate_dst (N := 2) rfl ?_); refine box_event ?hg (N := 2) ?hd (cs := #[.int .i64 0, .string (⟨#[]⟩ : ByteArray), .string (⟨#[]⟩ : ByteArray), .int .i64 0, .int .i64 0]) (t := 37) ?hr ?_; (case hd => rfl); (case hg => rfl); (case hr => first | (go_simp; done) | (go_simp; rfl) | (go_simp; simp only [isEmpty_ne, isEmpty_eq]; done) | (go_simp; simp only [isEmpty_ne, isEmpty_eq]; rfl)); intro gb117 hg w9 hbox hb; have n0_ := Aside0.mk (blk_below (g := gb116) (o := .cells #[.int .i64 a0_0, .string a0_1, .string a0_2, .int .i64 a0_3, .int .i64 a0_4] 37 (0, 0)) (by (with_reducible repeat (first | refine blk_drewN ?_ _ | refine blk_drew ?_ | refine blk_alloc ?_ _)); exact BK116.out) hb); have n1_ := Aside0.mk (below_step (by repeat (first | (with_reducible first | exact HB.out | apply below_alloc | apply pw_below_drewN | apply below_drew1 | refine below_set ?_ GE116.out) | exact HB.out)) hb); have n2_ := Aside0.mk (hbox); have n3_ := Aside0.mk ((by rw [hg]; exact (below_size (by repeat (first | (with_reducible first | exact HB.out | apply below_alloc | apply pw_below_drewN | apply below_drew1 | refine below_set ?_ GE116.out) | exact HB.out))) : w.heap.size ≤ gb117)); have n4_ := Aside0.mk ((by rw [hg]; exact (below_size (by repeat (first | (with_reducible first | exact HB.out | apply below_alloc | apply pw_below_drewN | apply below_drew1 | refine below_set ?_ GE116.out) | exact HB.out))) : w.heap.size ≤ gb117)); have n5_ := Aside0.mk ((by rw [hg]; exact Nat.ne_of_lt (blk_lt (g := gb116) (o := .cells #[.int .i64 a0_0, .string a0_1, .string a0_2, .int .i64 a0_3, .int .i64 a0_4] 37 (0, 0)) (by (with_reducible repeat (first | refine blk_drewN ?_ _ | refine blk_drew ?_ | refine blk_alloc ?_ _)); exact BK116.out)) : gb116 ≠ gb117)); have n6_ := Aside0.mk ((by rw [hg]; exact Nat.ne_of_gt (blk_lt (g := gb116) (o := .cells #[.int .i64 a0_0, .string a0_1, .string a0_2, .int .i64 a0_3, .int .i64 a0_4] 37 (0, 0)) (by (with_reducible repeat (first | refine blk_drewN ?_ _ | refine blk_drew ?_ | refine blk_alloc ?_ _)); exact BK116.out)) : gb117 ≠ gb116)); clear BK116; clear HB; have BK116 := n0_; have HB := n1_; have BK117 := n2_; have GW117 := n3_; have GE117 := n4_; have NB116_117 := n5_; have NB117_116 := n6_; clear n0_ n1_ n2_ n3_ n4_ n5_ n6_; clear hb hbox hg))
          have n0_ := Aside0.mk (blk_drew BK116.out)
          have n1_ := Aside0.mk (blk_drew BK117.out)
          have n2_ := Aside0.mk (below_drew1 HB.out)
          clear BK116
          clear BK117
          clear HB
          have BK116 := n0_
          have BK117 := n1_
          have HB := n2_
          clear n0_ n1_ n2_
          refine start_ (n := 22) (S := fun w' => w'.cell? ⟨gb116, 0, none⟩ = some (.int .i64 a0_0) ∧ w'.cell? ⟨gb116, 1, none⟩ = some (.string a0_1) ∧ w'.cell? ⟨gb116, 2, none⟩ = some (.string a0_2) ∧ w'.cell? ⟨gb116, 3, none⟩ = some (.int .i64 a0_3) ∧ w'.cell? ⟨gb116, 4, none⟩ = some (.int .i64 a0_4)) (ds := []) #[false, false, false, false, false, false, false, false, false, false, false, false, false, false, false, false, false, false, false, false, false, false] (by kernel_rfl) rfl rfl ⟨(blk_cell BK116.out 0).trans rfl, (blk_cell BK116.out 1).trans rfl, (blk_cell BK116.out 2).trans rfl, (blk_cell BK116.out 3).trans rfl, (blk_cell BK116.out 4).trans rfl⟩ (fun hHeld => ?_); refine with_tabW postriderlaw06_Cut.tab1 postriderlaw06_Cut.bits1 (fun HT_ HW_ => ?_)
          generalize w9.drew = w10 at BK116 BK117 HB hHeld ⊢
          refine pure_ (i := 0) (N := some 3) (v := ?_) (a' := ?_) #[true, false, false, false, false, false, false, false, false, false, false, false, false, false, false, false, false, false, false, false, false, false] rfl rfl (any_of HT_.out (by kernel_rfl)) (fun _ _ _ h => h) (Or.inl ⟨by rfl, ?_⟩) ?_ ?_
          rotate_left
          · intro w'
            go_simp
            with_reducible rfl
          rotate_left
          · simp only [Act.put, List.setIfInBounds_toArray, List.set_cons_zero, List.set_cons_succ, i64_w, i32_w]
            rfl
          refine pure_ (i := 2) (N := some 5) (v := ?_) (a' := ?_) #[true, false, true, false, false, false, false, false, false, false, false, false, false, false, false, false, false, false, false, false, false, false] rfl rfl (any_of HT_.out (by kernel_rfl)) (fun _ _ _ h => h) (Or.inl ⟨by rfl, ?_⟩) ?_ ?_
          rotate_left
          · intro w'
            go_simp
            with_reducible rfl
          rotate_left
          · simp only [Act.put, List.setIfInBounds_toArray, List.set_cons_zero, List.set_cons_succ, i64_w, i32_w]
            rfl
          refine pure_ (i := 4) (N := some 7) (v := ?_) (a' := ?_) #[true, false, true, false, true, false, false, false, false, false, false, false, false, false, false, false, false, false, false, false, false, false] rfl rfl (any_of HT_.out (by kernel_rfl)) (fun _ _ _ h => h) (Or.inl ⟨by rfl, ?_⟩) ?_ ?_
          rotate_left
          · intro w'
            go_simp
            with_reducible rfl
          rotate_left
          · simp only [Act.put, List.setIfInBounds_toArray, List.set_cons_zero, List.set_cons_succ, i64_w, i32_w]
            rfl
          refine pure_ (i := 9) (N := some 12) (v := ?_) (a' := ?_) #[true, false, true, false, true, false, false, false, false, true, false, false, false, false, false, false, false, false, false, false, false, false] rfl rfl (any_of HT_.out (by kernel_rfl)) (fun _ _ _ h => h) (Or.inl ⟨by rfl, ?_⟩) ?_ ?_
          rotate_left
          · intro w'
            go_simp
            with_reducible rfl
          rotate_left
          · simp only [Act.put, List.setIfInBounds_toArray, List.set_cons_zero, List.set_cons_succ, i64_w, i32_w]
            rfl
          refine pure_ (i := 11) (N := some 14) (v := ?_) (a' := ?_) #[true, false, true, false, true, false, false, false, false, true, false, true, false, false, false, false, false, false, false, false, false, false] rfl rfl (any_of HT_.out (by kernel_rfl)) (fun _ _ _ h => h) (Or.inl ⟨by rfl, ?_⟩) ?_ ?_
          rotate_left
          · intro w'
            go_simp
            with_reducible rfl
          rotate_left
          · simp only [Act.put, List.setIfInBounds_toArray, List.set_cons_zero, List.set_cons_succ, i64_w, i32_w]
            rfl
          refine pure_ (i := 16) (N := some 19) (v := ?_) (a' := ?_) #[true, false, true, false, true, false, false, false, false, true, false, true, false, false, false, false, true, false, false, false, false, false] rfl rfl (any_of HT_.out (by kernel_rfl)) (fun _ _ _ h => h) (Or.inl ⟨by rfl, ?_⟩) ?_ ?_
          rotate_left
          · intro w'
            go_simp
            with_reducible rfl
          rotate_left
          · simp only [Act.put, List.setIfInBounds_toArray, List.set_cons_zero, List.set_cons_succ, i64_w, i32_w]
            rfl
          refine pure_ (i := 18) (N := some 21) (v := ?_) (a' := ?_) #[true, false, true, false, true, false, false, false, false, true, false, true, false, false, false, false, true, false, true, false, false, false] rfl rfl (any_of HT_.out (by kernel_rfl)) (fun _ _ _ h => h) (Or.inl ⟨by rfl, ?_⟩) ?_ ?_
          rotate_left
          · intro w'
            go_simp
            with_reducible rfl
          rotate_left
          · simp only [Act.put, List.setIfInBounds_toArray, List.set_cons_zero, List.set_cons_succ, i64_w, i32_w]
            rfl
          refine take_ (i := 1) (N := some 4) (v := ?_) (a' := ?_) #[true, true, true, false, true, false, false, false, false, true, false, true, false, false, false, false, true, false, true, false, false, false] rfl rfl (take_ofW HT_.out HW_.out (by kernel_rfl)) (fun _ _ _ h => h) (Or.inl ⟨by rfl, ?_⟩) hHeld ?_ ?_
          rotate_left
          · rintro w' ⟨s0, s1, s2, s3, s4⟩
            go_simp
            with_reducible rfl
          rotate_left
          · simp only [Act.put, List.setIfInBounds_toArray, List.set_cons_zero, List.set_cons_succ, i64_w, i32_w]
            rfl
          refine take_ (i := 3) (N := some 6) (v := ?_) (a' := ?_) #[true, true, true, true, true, false, false, false, false, true, false, true, false, false, false, false, true, false, true, false, false, false] rfl rfl (take_ofW HT_.out HW_.out (by kernel_rfl)) (fun _ _ _ h => h) (Or.inl ⟨by rfl, ?_⟩) hHeld ?_ ?_
          rotate_left
          · rintro w' ⟨s0, s1, s2, s3, s4⟩
            go_simp
            with_reducible rfl
          rotate_left
          · simp only [Act.put, List.setIfInBounds_toArray, List.set_cons_zero, List.set_cons_succ, i64_w, i32_w]
            rfl
          refine take_ (i := 5) (N := some 8) (v := ?_) (a' := ?_) #[true, true, true, true, true, true, false, false, false, true, false, true, false, false, false, false, true, false, true, false, false, false] rfl rfl (take_ofW HT_.out HW_.out (by kernel_rfl)) (fun _ _ _ h => h) (Or.inl ⟨by rfl, ?_⟩) hHeld ?_ ?_
          rotate_left
          · rintro w' ⟨s0, s1, s2, s3, s4⟩
            go_simp
            with_reducible rfl
          rotate_left
          · simp only [Act.put, List.setIfInBounds_toArray, List.set_cons_zero, List.set_cons_succ, i64_w, i32_w]
            rfl
          refine pure_ (i := 6) (N := some 9) (v := ?_) (a' := ?_) #[true, true, true, true, true, true, true, false, false, true, false, true, false, false, false, false, true, false, true, false, false, false] rfl rfl (any_of HT_.out (by kernel_rfl)) (fun _ _ _ h => h) (Or.inl ⟨by rfl, ?_⟩) ?_ ?_
          rotate_left
          · intro w'
            go_simp
            with_reducible rfl
          rotate_left
          · simp only [Act.put, List.setIfInBounds_toArray, List.set_cons_zero, List.set_cons_succ, i64_w, i32_w]
            rfl
          refine pure_ (i := 7) (N := some 10) (v := ?_) (a' := ?_) #[true, true, true, true, true, true, true, true, false, true, false, true, false, false, false, false, true, false, true, false, false, false] rfl rfl (any_of HT_.out (by kernel_rfl)) (fun _ _ _ h => h) (Or.inl ⟨by rfl, ?_⟩) ?_ ?_
          rotate_left
          · intro w'
            go_simp
            with_reducible rfl
          rotate_left
          · simp only [Act.put, List.setIfInBounds_toArray, List.set_cons_zero, List.set_cons_succ, i64_w, i32_w]
            rfl
          refine pure_ (i := 8) (N := some 11) (v := ?_) (a' := ?_) #[true, true, true, true, true, true, true, true, true, true, false, true, false, false, false, false, true, false, true, false, false, false] rfl rfl (any_of HT_.out (by kernel_rfl)) (fun _ _ _ h => h) (Or.inl ⟨by rfl, ?_⟩) ?_ ?_
          rotate_left
          · intro w'
            go_simp
            with_reducible rfl
          rotate_left
          · simp only [Act.put, List.setIfInBounds_toArray, List.set_cons_zero, List.set_cons_succ, i64_w, i32_w]
            rfl
          refine take_ (i := 10) (N := some 13) (v := ?_) (a' := ?_) #[true, true, true, true, true, true, true, true, true, true, true, true, false, false, false, false, true, false, true, false, false, false] rfl rfl (take_ofW HT_.out HW_.out (by kernel_rfl)) (fun _ _ _ h => h) (Or.inl ⟨by rfl, ?_⟩) hHeld ?_ ?_
          rotate_left
          · rintro w' ⟨s0, s1, s2, s3, s4⟩
            go_simp
            with_reducible rfl
          rotate_left
          · simp only [Act.put, List.setIfInBounds_toArray, List.set_cons_zero, List.set_cons_succ, i64_w, i32_w]
            rfl
          refine take_ (i := 12) (N := some 15) (v := ?_) (a' := ?_) #[true, true, true, true, true, true, true, true, true, true, true, true, true, false, false, false, true, false, true, false, false, false] rfl rfl (take_ofW HT_.out HW_.out (by kernel_rfl)) (fun _ _ _ h => h) (Or.inl ⟨by rfl, ?_⟩) hHeld ?_ ?_
          rotate_left
          · rintro w' ⟨s0, s1, s2, s3, s4⟩
            go_simp
            with_reducible rfl
          rotate_left
          · simp only [Act.put, List.setIfInBounds_toArray, List.set_cons_zero, List.set_cons_succ, i64_w, i32_w]
            rfl
          refine pure_ (i := 13) (N := some 16) (v := ?_) (a' := ?_) #[true, true, true, true, true, true, true, true, true, true, true, true, true, true, false, false, true, false, true, false, false, false] rfl rfl (any_of HT_.out (by kernel_rfl)) (fun _ _ _ h => h) (Or.inl ⟨by rfl, ?_⟩) ?_ ?_
          rotate_left
          · intro w'
            go_simp
            with_reducible rfl
          rotate_left
          · simp only [Act.put, List.setIfInBounds_toArray, List.set_cons_zero, List.set_cons_succ, i64_w, i32_w]
            rfl
          refine pure_ (i := 14) (N := some 17) (v := ?_) (a' := ?_) #[true, true, true, true, true, true, true, true, true, true, true, true, true, true, true, false, true, false, true, false, false, false] rfl rfl (any_of HT_.out (by kernel_rfl)) (fun _ _ _ h => h) (Or.inl ⟨by rfl, ?_⟩) ?_ ?_
          rotate_left
          · intro w'
            go_simp
            with_reducible rfl
          rotate_left
          · simp only [Act.put, List.setIfInBounds_toArray, List.set_cons_zero, List.set_cons_succ, i64_w, i32_w]
            rfl
          refine pure_ (i := 15) (N := some 18) (v := ?_) (a' := ?_) #[true, true, true, true, true, true, true, true, true, true, true, true, true, true, true, true, true, false, true, false, false, false] rfl rfl (any_of HT_.out (by kernel_rfl)) (fun _ _ _ h => h) (Or.inl ⟨by rfl, ?_⟩) ?_ ?_
          rotate_left
          · intro w'
            go_simp
            with_reducible rfl
          rotate_left
          · simp only [Act.put, List.setIfInBounds_toArray, List.set_cons_zero, List.set_cons_succ, i64_w, i32_w]
            rfl
          refine take_ (i := 17) (N := some 20) (v := ?_) (a' := ?_) #[true, true, true, true, true, true, true, true, true, true, true, true, true, true, true, true, true, true, true, false, false, false] rfl rfl (take_ofW HT_.out HW_.out (by kernel_rfl)) (fun _ _ _ h => h) (Or.inl ⟨by rfl, ?_⟩) hHeld ?_ ?_
          rotate_left
          · rintro w' ⟨s0, s1, s2, s3, s4⟩
            go_simp
            with_reducible rfl
          rotate_left
          · simp only [Act.put, List.setIfInBounds_toArray, List.set_cons_zero, List.set_cons_succ, i64_w, i32_w]
            rfl
          refine take_ (i := 19) (N := some 22) (v := ?_) (a' := ?_) #[true, true, true, true, true, true, true, true, true, true, true, true, true, true, true, true, true, true, true, true, false, false] rfl rfl (take_ofW HT_.out HW_.out (by kernel_rfl)) (fun _ _ _ h => h) (Or.inl ⟨by rfl, ?_⟩) hHeld ?_ ?_
          rotate_left
          · rintro w' ⟨s0, s1, s2, s3, s4⟩
            go_simp
            with_reducible rfl
          rotate_left
          · simp only [Act.put, List.setIfInBounds_toArray, List.set_cons_zero, List.set_cons_succ, i64_w, i32_w]
            rfl
          refine pure_ (i := 20) (N := some 23) (v := ?_) (a' := ?_) #[true, true, true, true, true, true, true, true, true, true, true, true, true, true, true, true, true, true, true, true, true, false] rfl rfl (any_of HT_.out (by kernel_rfl)) (fun _ _ _ h => h) (Or.inl ⟨by rfl, ?_⟩) ?_ ?_
          rotate_left
          · intro w'
            go_simp
            with_reducible rfl
          rotate_left
          · simp only [Act.put, List.setIfInBounds_toArray, List.set_cons_zero, List.set_cons_succ, i64_w, i32_w]
            rfl
          refine one_ (i := 21) (N := none) #[true, true, true, true, true, true, true, true, true, true, true, true, true, true, true, true, true, true, true, true, true, true] rfl rfl (one_of HT_.out (by kernel_rfl)) (by decide) (fun K hK => ?_)
          have hs11 : w10.cell? ⟨gb117, 0, none⟩ = some (.int .i64 0) := (blk_cell BK117.out 0).trans rfl
          have hfs11 := blk_frozen BK117.out 0
          have hns11_0 := NB116_117.out
          have hms11_0 := NB117_116.out
          have hs12 : w10.cell? ⟨gb117, 1, none⟩ = some (.string (⟨#[]⟩ : ByteArray)) := (blk_cell BK117.out 1).trans rfl
          have hfs12 := blk_frozen BK117.out 1
          have hns12_0 := NB116_117.out
          have hms12_0 := NB117_116.out
          have hs13 : w10.cell? ⟨gb117, 2, none⟩ = some (.string (⟨#[]⟩ : ByteArray)) := (blk_cell BK117.out 2).trans rfl
          have hfs13 := blk_frozen BK117.out 2
          have hns13_0 := NB116_117.out
          have hms13_0 := NB117_116.out
          have hs14 : w10.cell? ⟨gb117, 3, none⟩ = some (.int .i64 0) := (blk_cell BK117.out 3).trans rfl
          have hfs14 := blk_frozen BK117.out 3
          have hns14_0 := NB116_117.out
          have hms14_0 := NB117_116.out
          have hs15 : w10.cell? ⟨gb117, 4, none⟩ = some (.int .i64 0) := (blk_cell BK117.out 4).trans rfl
          have hfs15 := blk_frozen BK117.out 4
          have hns15_0 := NB116_117.out
          have hms15_0 := NB117_116.out
          refine skip_ (w1 := ?_) (by rfl) rfl ?_ ?_
          rotate_left
          · go_simp
            rfl
          refine hK.out _ _ ⟨((cell_far (p := ⟨gb117, _, none⟩) NB116_117.out _).trans (((cell_far (p := ⟨gb117, _, none⟩) NB116_117.out _).trans (((cell_far (p := ⟨gb117, _, none⟩) NB116_117.out _).trans (((cell_far (p := ⟨gb117, _, none⟩) NB116_117.out _).trans (((cell_far (p := ⟨gb117, _, none⟩) NB116_117.out _).trans (hHeld.1)))))))))), ((cell_far (p := ⟨gb117, _, none⟩) NB116_117.out _).trans (((cell_far (p := ⟨gb117, _, none⟩) NB116_117.out _).trans (((cell_far (p := ⟨gb117, _, none⟩) NB116_117.out _).trans (((cell_far (p := ⟨gb117, _, none⟩) NB116_117.out _).trans (((cell_far (p := ⟨gb117, _, none⟩) NB116_117.out _).trans (hHeld.2.1)))))))))), ((cell_far (p := ⟨gb117, _, none⟩) NB116_117.out _).trans (((cell_far (p := ⟨gb117, _, none⟩) NB116_117.out _).trans (((cell_far (p := ⟨gb117, _, none⟩) NB116_117.out _).trans (((cell_far (p := ⟨gb117, _, none⟩) NB116_117.out _).trans (((cell_far (p := ⟨gb117, _, none⟩) NB116_117.out _).trans (hHeld.2.2.1)))))))))), ((cell_far (p := ⟨gb117, _, none⟩) NB116_117.out _).trans (((cell_far (p := ⟨gb117, _, none⟩) NB116_117.out _).trans (((cell_far (p := ⟨gb117, _, none⟩) NB116_117.out _).trans (((cell_far (p := ⟨gb117, _, none⟩) NB116_117.out _).trans (((cell_far (p := ⟨gb117, _, none⟩) NB116_117.out _).trans (hHeld.2.2.2.1)))))))))), ((cell_far (p := ⟨gb117, _, none⟩) NB116_117.out _).trans (((cell_far (p := ⟨gb117, _, none⟩) NB116_117.out _).trans (((cell_far (p := ⟨gb117, _, none⟩) NB116_117.out _).trans (((cell_far (p := ⟨gb117, _, none⟩) NB116_117.out _).trans (((cell_far (p := ⟨gb117, _, none⟩) NB116_117.out _).trans (hHeld.2.2.2.2))))))))))⟩ (fun hHeld => ?_)
          clear hK K
          refine done_ (done_of HT_.out (by kernel_rfl)) ?_
          try go_wp2
          refine bodyPost_ret (results_cell_row rfl _ _ gb117 37 #[.int .i64 a0_0, .string (a0_1.extract 0 ((ji2) : Int).toNat), .string (a0_2.extract 0 ((ji5) : Int).toNat), .int .i64 a0_3, .int .i64 a0_4] (0, 0) _ rfl (by (with_reducible repeat (first | refine blk_drewN ?_ _ | refine blk_drew ?_ | refine blk_alloc ?_ _)); refine blk_put (cs := #[.int .i64 a0_0, .string (a0_1.extract 0 ((ji2) : Int).toNat), .string (a0_2.extract 0 ((ji5) : Int).toNat), .int .i64 a0_3, .int .i64 0]) ?_ 4 _ rfl; (with_reducible repeat (first | refine blk_drewN ?_ _ | refine blk_drew ?_ | refine blk_alloc ?_ _)); refine blk_put (cs := #[.int .i64 a0_0, .string (a0_1.extract 0 ((ji2) : Int).toNat), .string (a0_2.extract 0 ((ji5) : Int).toNat), .int .i64 0, .int .i64 0]) ?_ 3 _ rfl; (with_reducible repeat (first | refine blk_drewN ?_ _ | refine blk_drew ?_ | refine blk_alloc ?_ _)); refine blk_put (cs := #[.int .i64 a0_0, .string (a0_1.extract 0 ((ji2) : Int).toNat), .string (⟨#[]⟩ : ByteArray), .int .i64 0, .int .i64 0]) ?_ 2 _ rfl; (with_reducible repeat (first | refine blk_drewN ?_ _ | refine blk_drew ?_ | refine blk_alloc ?_ _)); refine blk_put (cs := #[.int .i64 a0_0, .string (⟨#[]⟩ : ByteArray), .string (⟨#[]⟩ : ByteArray), .int .i64 0, .int .i64 0]) ?_ 1 _ rfl; (with_reducible repeat (first | refine blk_drewN ?_ _ | refine blk_drew ?_ | refine blk_alloc ?_ _)); refine blk_put (cs := #[.int .i64 0, .string (⟨#[]⟩ : ByteArray), .string (⟨#[]⟩ : ByteArray), .int .i64 0, .int .i64 0]) ?_ 0 _ rfl; (with_reducible repeat (first | refine blk_drewN ?_ _ | refine blk_drew ?_ | refine blk_alloc ?_ _)); exact BK117.out) Tryz.underlying37 rfl (by kernel_rfl)) rfl ?_
          exact ⟨by first | rfl | (simp [errW_none, errW_some] <;> rfl) | (simp only [← hji2, ← hji5]; first | rfl | (simp [errW_none, errW_some] <;> rfl)) | (simp [*, errW_none, errW_some] <;> rfl), by repeat (first | (with_reducible first | exact HB.out | apply below_alloc | apply pw_below_drewN | apply below_drew1 | refine below_set ?_ GE116.out | refine below_set ?_ GE117.out) | exact HB.out)⟩
        · rw [if_neg c7] at H
          exact absurd H (by simp)
      · rw [if_neg c6] at H
        exact absurd H (by simp)
    · rw [if_neg c4] at H
      exact absurd H (by simp)
  · rw [if_neg c3] at H
    exact absurd H (by simp)
def eid_either_string.f (a0 : ByteArray) (a1 : Bool) : Option (ByteArray × Int) := if a1 = true then (some (a0, 0)) else (some ((⟨#[]⟩ : ByteArray), 60))
set_option maxHeartbeats 8000000 in
set_option maxRecDepth 100000 in
theorem eid_either_string.calls (a0 : ByteArray) (a1 : Bool) (r1 : ByteArray) (r2 : Int) (w : World) (h : eid_either_string.f a0 a1 = some (r1, r2)) :
    Calls Tryz.prog 40 #[.string a0, .bool a1] w fun e w' => e = .returned (.tuple #[.string r1, .int .i64 r2]) ∧ Drawn0 w w' := by
  have H : (if a1 = true then (some (a0, 0)) else (some ((⟨#[]⟩ : ByteArray), 60))) = some (r1, r2) := h
  clear h
  by_cases c3 : a1 = true
  · subst c3
    have H1 : (some (a0, 0)) = some (r1, r2) := by rw [if_pos rfl] at H; exact H
    clear H
    have H := H1
    clear H1
    simp only [Option.some.injEq, Prod.mk.injEq] at H
    obtain ⟨rfl, rfl⟩ := H
    go_enter Tryz.func40, Tryz.ntmps40
    go_wp2
    all_goals (first | (go_ret2; exact ⟨by first | rfl | (simp; done) | (simp [*]; done) | (simp_all; done) | fail, by repeat (first | exact Drawn0.refl _ | apply Drawn0.step)⟩) | (exfalso; simp_all; done) | (exfalso; simp only [isEmpty_eq, isEmpty_ne] at *; simp_all; done) | (exfalso; exact isEmpty_clash (by assumption) (by assumption)) | (exfalso; exact isEmpty_clash' (by assumption) (by assumption)) | (exfalso; exact isEmpty_clash2 (by assumption) (by assumption)))
  · replace c3 := Bool.eq_false_iff.mpr c3
    subst c3
    have H1 : (some ((⟨#[]⟩ : ByteArray), 60)) = some (r1, r2) := by rw [if_neg (show ¬ (false = true) by decide)] at H; exact H
    clear H
    have H := H1
    clear H1
    simp only [Option.some.injEq, Prod.mk.injEq] at H
    obtain ⟨rfl, rfl⟩ := H
    go_enter Tryz.func40, Tryz.ntmps40
    go_wp2
    all_goals (first | (go_ret2; exact ⟨by first | rfl | (simp; done) | (simp [*]; done) | (simp_all; done) | fail, by repeat (first | exact Drawn0.refl _ | apply Drawn0.step)⟩) | (exfalso; simp_all; done) | (exfalso; simp only [isEmpty_eq, isEmpty_ne] at *; simp_all; done) | (exfalso; exact isEmpty_clash (by assumption) (by assumption)) | (exfalso; exact isEmpty_clash' (by assumption) (by assumption)) | (exfalso; exact isEmpty_clash2 (by assumption) (by assumption)))
end Go.Proofs.YtaknknfcikdjiaaGreatDoor.SA
end
section
namespace Go.Proofs.YtaknknfcikdjiaaGreatDoor.Hand
open Go.RowKit Go.Proofs.YtaknknfcikdjiaaGreatDoor.SA
def sch0 : Value := .agg #[.string ⟨#[100, 116, 110]⟩, .func (.func 53) #[] #[], .func (.func 54) #[] #[], .func (.func 55) #[] #[]]
def sch1 : Value := .agg #[.string ⟨#[100, 116, 110]⟩, .func (.func 56) #[] #[], .func (.func 57) #[] #[], .func (.func 58) #[] #[]]
def sch2 : Value := .agg #[.string ⟨#[105, 112, 110]⟩, .func (.func 59) #[] #[], .func (.func 60) #[] #[], .func (.func 62) #[] #[]]
def schs : Array MapEntry := #[⟨.int .i64 0, sch0, 0⟩, ⟨.int .i64 1, sch1, 1⟩, ⟨.int .i64 2, sch2, 2⟩]
theorem store_alloc (w : World) (es : Array MapEntry) (clock : Nat) (n : Int) (v : Value) (h : Instr.findNow (.int .i64) (.int .i64 n) es.toList 0 = some none) :
    (Instr.mapUpdate 81 (.map (some w.heap.size)) (.int .i64 n) v).run Tryz.prog (w.alloc (.map es clock)) = .ok () (w.alloc (.map (es.push ⟨.int .i64 n, v, clock⟩) (clock + 1))) := by
  rw [run_mapUpdate_miss (w.alloc (.map es clock)) w.heap.size es clock _ _ _ _ (.int .i64 n) v Tryz.underlying81 Tryz.underlying3 (fun e W => run_checkKey_int W _ _ Tryz.underlying3 e _ _) (World.alloc_heap_new _ _) h, putObj_alloc]
set_option maxRecDepth 100000 in
theorem schemes_calls (w : World) :
    Calls Tryz.prog 41 #[] w fun e w' => e = .returned (.map (some w.heap.size)) ∧ w.alloc (.map schs 3) = w' := by
  have hmm := @run_makeMap Tryz.prog
  have h0 := store_alloc w #[] 0 0 sch0 rfl
  have h1 := store_alloc w #[⟨.int .i64 0, sch0, 0⟩] 1 1 sch1 rfl
  have h2 := store_alloc w #[⟨.int .i64 0, sch0, 0⟩, ⟨.int .i64 1, sch1, 1⟩] 2 2 sch2 rfl
  simp only [List.push_toArray, List.nil_append, List.cons_append, Nat.reduceAdd] at h0 h1 h2
  simp only [sch0, sch1, sch2] at h0 h1 h2
  go_enter Tryz.func41, Tryz.ntmps41
  go_wp2
  go_ret
  exact ⟨rfl, rfl⟩
end Go.Proofs.YtaknknfcikdjiaaGreatDoor.Hand
end
section
namespace Go.Proofs.YtaknknfcikdjiaaGreatDoor.Hand
open Go.RowKit Go.Proofs.YtaknknfcikdjiaaGreatDoor.SA
def schAt (n : Int) : Option Value := if n = 0 then some sch0 else if n = 1 then some sch1 else if n = 2 then some sch2 else none
def schZ : Value := .agg #[.string ⟨#[]⟩, .nilFunc, .nilFunc, .nilFunc]
theorem zero_sch (W : World) : (zeroValue 79).run Tryz.prog W = .ok schZ W := by kernel_rfl
theorem look_sch (n : Int) (ok : Bool) (W : World) (b : Nat) (hb : W.heap[b]? = some (.map schs 3)) :
    (Instr.lookup 81 (.map (some b)) (.int .i64 n) ok).run Tryz.prog W = .ok (match schAt n with | some v => if ok then .tuple #[v, .bool true] else v | none => if ok then .tuple #[schZ, .bool false] else schZ) W := by
  unfold schAt
  by_cases h0 : n = 0
  · subst h0
    exact run_lookup_hit W b schs 3 _ _ _ _ _ sch0 0 ok Tryz.underlying81 Tryz.underlying3 (fun e W => run_checkKey_int W _ _ Tryz.underlying3 e _ _) hb rfl
  by_cases h1 : n = 1
  · subst h1
    exact run_lookup_hit W b schs 3 _ _ _ _ _ sch1 1 ok Tryz.underlying81 Tryz.underlying3 (fun e W => run_checkKey_int W _ _ Tryz.underlying3 e _ _) hb rfl
  by_cases h2 : n = 2
  · subst h2
    exact run_lookup_hit W b schs 3 _ _ _ _ _ sch2 2 ok Tryz.underlying81 Tryz.underlying3 (fun e W => run_checkKey_int W _ _ Tryz.underlying3 e _ _) hb rfl
  rw [if_neg h0, if_neg h1, if_neg h2]
  refine run_lookup_miss W b schs 3 _ _ _ _ _ schZ ok Tryz.underlying81 Tryz.underlying3 (fun e W => run_checkKey_int W _ _ Tryz.underlying3 e _ _) hb zero_sch ?_
  have e0 : (n == 0) = false := beq_eq_false_iff_ne.2 h0
  have e1 : (n == 1) = false := beq_eq_false_iff_ne.2 h1
  have e2 : (n == 2) = false := beq_eq_false_iff_ne.2 h2
  simp [schs, Instr.findNow, Instr.sameNow, e0, e1, e2]
def schOf (wd : ByteArray) (i j k : Nat) : Value := .agg #[.string wd, .func (.func i) #[] #[], .func (.func j) #[] #[], .func (.func k) #[] #[]]
theorem look_some {n : Int} {wd : ByteArray} {i j k : Nat} (hs : schAt n = some (schOf wd i j k)) (ok : Bool) (W : World) (b : Nat) (hb : W.heap[b]? = some (.map schs 3)) :
    (Instr.lookup 81 (.map (some b)) (.int .i64 n) ok).run Tryz.prog W = .ok (if ok then .tuple #[schOf wd i j k, .bool true] else schOf wd i j k) W := by
  have h := look_sch n ok W b hb
  rw [hs] at h
  exact h
set_option maxRecDepth 100000 in
set_option maxHeartbeats 2000000 in
theorem right_some (n : Int) (a0_1 a0_2 : ByteArray) (a0_3 a0_4 : Int) (wd : ByteArray) (i j k : Nat) (hs : schAt n = some (schOf wd i j k)) (r : Bool) (hent : ∀ args w, (callFunc i args).run Tryz.prog w = .ok (.enter i args) w)
    (hcall : ∀ W : World, Calls Tryz.prog i #[.agg #[.int .i64 n, .string a0_1, .string a0_2, .int .i64 a0_3, .int .i64 a0_4]] W fun e w' => e = .returned (.bool r) ∧ Below W.heap.size W w') (w : World) :
    Calls Tryz.prog 22 #[.agg #[.int .i64 n, .string a0_1, .string a0_2, .int .i64 a0_3, .int .i64 a0_4]] w fun e w' => e = .returned (.bool r) ∧ Below w.heap.size w w' := by
  have hu := Tryz.underlying37
  have hus := Tryz.underlying79
  have HC := Lib.hid hcall
  clear hcall
  have HLK := Lib.hid (look_some hs true)
  clear hs
  go_enter Tryz.func22, Tryz.ntmps22
  go_wp2
  obtain ⟨w1, hw1⟩ : ∃ w1, w1 = w.alloc (.cells #[.int .i64 n, .string a0_1, .string a0_2, .int .i64 a0_3, .int .i64 a0_4] 37) := ⟨_, rfl⟩
  have hB : Below w.heap.size w w1 := by rw [hw1]; exact (Below.refl _ _).alloc (Nat.le_refl _) _
  have hc0 : w1.cell? ⟨w.heap.size, 0, none⟩ = some (.int .i64 n) := by rw [hw1]; simp
  have hb0 : w1.heap[w.heap.size]? = some (.cells #[.int .i64 n, .string a0_1, .string a0_2, .int .i64 a0_3, .int .i64 a0_4] 37) := by rw [hw1]; exact World.alloc_heap_new _ _
  have hlt : w.heap.size < w1.heap.size := by rw [hw1]; simp
  have hcA : ∀ o, (w1.alloc o).cell? ⟨w.heap.size, 0, none⟩ = some (.int .i64 n) := fun o => by rw [World.cell?_alloc_past _ _ _ hlt]; exact hc0
  have hcB : ∀ o o', ((w1.alloc o).alloc o').cell? ⟨w.heap.size, 0, none⟩ = some (.int .i64 n) := fun o o' => by rw [World.cell?_alloc_past _ _ _ (by simp; omega)]; exact hcA o
  rw [← hw1]
  clear hw1
  have hl1 : (Instr.lookup 81 (.map (some w1.heap.size)) (.int .i64 n) true).run Tryz.prog (w1.alloc (.map schs 3)).drew = .ok (.tuple #[schOf wd i j k, .bool true]) (w1.alloc (.map schs 3)).drew := HLK.out _ _ (World.alloc_heap_new _ _)
  have hl2 : ∀ o, (Instr.lookup 81 (.map (some w1.heap.size)) (.int .i64 n) true).run Tryz.prog ((w1.alloc (.map schs 3)).alloc o).drew = .ok (.tuple #[schOf wd i j k, .bool true]) ((w1.alloc (.map schs 3)).alloc o).drew := fun o => HLK.out _ _ ((Below.heap_alloc _ _ _ (by simp)).trans (World.alloc_heap_new _ _))
  have hl3 : ∀ o, (Instr.lookup 81 (.map (some (w1.heap.size + 1))) (.int .i64 n) true).run Tryz.prog ((w1.alloc o).alloc (.map schs 3)).drew = .ok (.tuple #[schOf wd i j k, .bool true]) ((w1.alloc o).alloc (.map schs 3)).drew := fun o => HLK.out _ _ (by have := World.alloc_heap_new (w1.alloc o) (.map schs 3); rwa [World.size_alloc] at this)
  simp only [schOf] at hl1 hl2 hl3
  go_upto_region 2 with (fail)
  go_cut [3, 4, 5, 6, 7, 8, 9, 10, 11] (fun s3 s4 _ _ _ _ _ _ _ wc => ∃ g : Nat, w1.heap.size ≤ g ∧ s3 = .pointer (some ⟨g, 0, none⟩) ∧ s4 = .bool true ∧ wc.cell? ⟨g, 1, none⟩ = some (.func (.func i) #[] #[]) ∧ Below w1.heap.size w1 wc)
  case first =>
    go_region_with (go_at_call 41; refine (schemes_calls _).mono ?_; rintro e w' ⟨rfl, rfl⟩)
    all_goals go_wp2
    all_goals go_meet
    all_goals (case rel => exact ⟨_, by first | exact Nat.le_refl _ | exact Nat.le_succ _, rfl, rfl, by first | rfl | (simp; done), by repeat (first | exact Below.refl _ _ | apply b_alloc | apply Below.drew)⟩)
  case rest =>
    obtain ⟨g, hg, rfl, rfl, hcell, hbw⟩ := hcut
    have hz := (hbw.block _ hlt).trans hb0
    have z0 := cell_blk hz 0
    have z1 := cell_blk hz 1
    have z2 := cell_blk hz 2
    have z3 := cell_blk hz 3
    have z4 := cell_blk hz 4
    simp at z0 z1 z2 z3 z4
    clear hcA hcB hc0 hb0 hl1 hl2 hl3 hz hlt
    go_wp2_with (first | ((with_reducible refine (HC.out _).mono ?_); rintro e w2 ⟨rfl, hb2⟩))
    go_ret
    exact ⟨rfl, hB.trans ((hbw.trans (hb2.mono hbw.size)).mono hB.size)⟩
theorem look_none {n : Int} (hs : schAt n = none) (ok : Bool) (W : World) (b : Nat) (hb : W.heap[b]? = some (.map schs 3)) :
    (Instr.lookup 81 (.map (some b)) (.int .i64 n) ok).run Tryz.prog W = .ok (if ok then .tuple #[schZ, .bool false] else schZ) W := by
  have h := look_sch n ok W b hb
  rw [hs] at h
  exact h
set_option maxRecDepth 100000 in
set_option maxHeartbeats 2000000 in
theorem right_none (n : Int) (a0_1 a0_2 : ByteArray) (a0_3 a0_4 : Int) (hs : schAt n = none) (w : World) :
    Calls Tryz.prog 22 #[.agg #[.int .i64 n, .string a0_1, .string a0_2, .int .i64 a0_3, .int .i64 a0_4]] w fun e w' => e = .returned (.bool false) ∧ Below w.heap.size w w' := by
  have hu := Tryz.underlying37
  have hus := Tryz.underlying79
  have HLK := Lib.hid (look_none hs true)
  clear hs
  go_enter Tryz.func22, Tryz.ntmps22
  go_wp2
  obtain ⟨w1, hw1⟩ : ∃ w1, w1 = w.alloc (.cells #[.int .i64 n, .string a0_1, .string a0_2, .int .i64 a0_3, .int .i64 a0_4] 37) := ⟨_, rfl⟩
  have hB : Below w.heap.size w w1 := by rw [hw1]; exact (Below.refl _ _).alloc (Nat.le_refl _) _
  have hc0 : w1.cell? ⟨w.heap.size, 0, none⟩ = some (.int .i64 n) := by rw [hw1]; simp
  have hb0 : w1.heap[w.heap.size]? = some (.cells #[.int .i64 n, .string a0_1, .string a0_2, .int .i64 a0_3, .int .i64 a0_4] 37) := by rw [hw1]; exact World.alloc_heap_new _ _
  have hlt : w.heap.size < w1.heap.size := by rw [hw1]; simp
  have hcA : ∀ o, (w1.alloc o).cell? ⟨w.heap.size, 0, none⟩ = some (.int .i64 n) := fun o => by rw [World.cell?_alloc_past _ _ _ hlt]; exact hc0
  have hcB : ∀ o o', ((w1.alloc o).alloc o').cell? ⟨w.heap.size, 0, none⟩ = some (.int .i64 n) := fun o o' => by rw [World.cell?_alloc_past _ _ _ (by simp; omega)]; exact hcA o
  rw [← hw1]
  clear hw1
  have hl1 : (Instr.lookup 81 (.map (some w1.heap.size)) (.int .i64 n) true).run Tryz.prog (w1.alloc (.map schs 3)).drew = .ok (.tuple #[schZ, .bool false]) (w1.alloc (.map schs 3)).drew := HLK.out _ _ (World.alloc_heap_new _ _)
  have hl2 : ∀ o, (Instr.lookup 81 (.map (some w1.heap.size)) (.int .i64 n) true).run Tryz.prog ((w1.alloc (.map schs 3)).alloc o).drew = .ok (.tuple #[schZ, .bool false]) ((w1.alloc (.map schs 3)).alloc o).drew := fun o => HLK.out _ _ ((Below.heap_alloc _ _ _ (by simp)).trans (World.alloc_heap_new _ _))
  have hl3 : ∀ o, (Instr.lookup 81 (.map (some (w1.heap.size + 1))) (.int .i64 n) true).run Tryz.prog ((w1.alloc o).alloc (.map schs 3)).drew = .ok (.tuple #[schZ, .bool false]) ((w1.alloc o).alloc (.map schs 3)).drew := fun o => HLK.out _ _ (by have := World.alloc_heap_new (w1.alloc o) (.map schs 3); rwa [World.size_alloc] at this)
  simp only [schZ] at hl1 hl2 hl3
  go_upto_region 2 with (fail)
  go_cut [3, 4, 5, 6, 7, 8, 9, 10, 11] (fun s3 s4 _ _ _ _ _ _ _ wc => ∃ g : Nat, w1.heap.size ≤ g ∧ s3 = .pointer (some ⟨g, 0, none⟩) ∧ s4 = .bool false ∧ Below w1.heap.size w1 wc)
  case first =>
    go_region_with (go_at_call 41; refine (schemes_calls _).mono ?_; rintro e w' ⟨rfl, rfl⟩)
    all_goals go_wp2
    all_goals go_meet
    all_goals (case rel => exact ⟨_, by first | exact Nat.le_refl _ | exact Nat.le_succ _, rfl, rfl, by repeat (first | exact Below.refl _ _ | apply b_alloc | apply Below.drew)⟩)
  case rest =>
    obtain ⟨g, hg, rfl, rfl, hbw⟩ := hcut
    clear hcA hcB hc0 hb0 hl1 hl2 hl3 hlt
    go_wp2
    go_ret
    exact ⟨rfl, hB.trans (hbw.mono hB.size)⟩
end Go.Proofs.YtaknknfcikdjiaaGreatDoor.Hand
end
section
namespace Go.Proofs.YtaknknfcikdjiaaGreatDoor.Hand
open Go.RowKit Go.Proofs.YtaknknfcikdjiaaGreatDoor.SA
theorem areAll_from (l : List Bool) : ∀ (d k : Nat) (i : Int), 0 ≤ i → i ≤ l.length → (l.length : Int) - i = d → d < k → l.length ≤ 1000 → eid_areAll.l0 k l (l.length : Int) i = some ((l.drop i.toNat).all id) := by
  intro d
  induction d with
  | zero =>
    intro k i h0 h1 hd hk _
    obtain ⟨k, rfl⟩ : ∃ m, k = m + 1 := ⟨k - 1, by omega⟩
    simp only [eid_areAll.l0]
    rw [if_neg (by omega), List.drop_eq_nil_of_le (by omega)]
    rfl
  | succ d ih =>
    intro k i h0 h1 hd hk hl
    obtain ⟨k, rfl⟩ : ∃ m, k = m + 1 := ⟨k - 1, by omega⟩
    simp only [eid_areAll.l0]
    rw [if_pos (by omega), if_pos h0, if_pos (by omega)]
    have hw : wrap64 (i + 1) = i + 1 := by unfold wrap64; omega
    have hlt : i.toNat < l.length := by omega
    have hr : YtaknknfcikdjiaaGreatDoorW.PrintWords.rdOf false l i = l[i.toNat] := by
      unfold YtaknknfcikdjiaaGreatDoorW.PrintWords.rdOf
      simp [List.getD_eq_getElem?_getD, List.getElem?_eq_getElem hlt]
    rw [hr, hw, List.drop_eq_getElem_cons hlt, List.all_cons]
    have hi := ih k (i + 1) (by omega) (by omega) (by omega) (by omega) hl
    rw [show (i + 1).toNat = i.toNat + 1 by omega] at hi
    cases h : l[i.toNat] with
    | true => simp [hi]
    | false => simp
theorem areAll_is (l : List Bool) (k : Nat) (hk : l.length < k) (hl : l.length ≤ 1000) : eid_areAll.f k l = some (l.all id) := by
  unfold eid_areAll.f
  have := areAll_from l l.length k 0 (by omega) (by omega) (by omega) hk hl
  simpa using this
def rightS (n : Int) (a1 a2 : ByteArray) (a3 a4 : Int) : Bool :=
  if n = 0 then a1.toList == [] && (a2.toList == [] && (a3 == 0 && a4 == 0))
  else if n = 1 then a1.toList != [] && (partS a1 ⟨#[45, 46]⟩ && (partS a2 ⟨#[45, 46, 47]⟩ && (a3 == 0 && a4 == 0)))
  else if n = 2 then a1.toList == [] && (a2.toList == [] && (decide (a3 ≥ 1) && (decide (a3 ≤ 999999999) && (decide (a4 ≥ 0) && decide (a4 ≤ 999999999)))))
  else false
def eid_Right.f (a0_0 : Int) (a0_1 a0_2 : ByteArray) (a0_3 a0_4 : Int) : Option Bool := if a0_1.size ≤ maxLen ∧ a0_2.size ≤ maxLen then some (rightS a0_0 a0_1 a0_2 a0_3 a0_4) else none
theorem isDtn_is (n : Int) (a1 a2 : ByteArray) (a3 a4 : Int) (h1 : a1.size ≤ maxLen) (h2 : a2.size ≤ maxLen) :
    eid_isDtn.f 10 n a1 a2 a3 a4 = some (a1.toList != [] && (partS a1 ⟨#[45, 46]⟩ && (partS a2 ⟨#[45, 46, 47]⟩ && (a3 == 0 && a4 == 0)))) := by
  unfold eid_isDtn.f eid_isPart.f
  rw [if_pos ⟨h1, by decide⟩, if_pos ⟨h2, by decide⟩]
  simp only [Option.bind_some]
  rw [areAll_is _ _ (by simp) (by simp)]
  simp
theorem isIpn_is (n : Int) (a1 a2 : ByteArray) (a3 a4 : Int) :
    eid_isIpn.f 10 n a1 a2 a3 a4 = some (a1.toList == [] && (a2.toList == [] && (decide (a3 ≥ 1) && (decide (a3 ≤ 999999999) && (decide (a4 ≥ 0) && decide (a4 ≤ 999999999)))))) := by
  unfold eid_isIpn.f
  rw [areAll_is _ _ (by simp) (by simp)]
  simp
theorem eid_Right.calls (a0_0 : Int) (a0_1 a0_2 : ByteArray) (a0_3 a0_4 : Int) (r : Bool) (w : World) (h : eid_Right.f a0_0 a0_1 a0_2 a0_3 a0_4 = some r) :
    Calls Tryz.prog 22 #[.agg #[.int .i64 a0_0, .string a0_1, .string a0_2, .int .i64 a0_3, .int .i64 a0_4]] w fun e w' => e = .returned (.bool r) ∧ Below w.heap.size w w' := by
  unfold eid_Right.f at h
  split at h
  case isFalse => cases h
  rename_i hc
  obtain ⟨h1, h2⟩ := hc
  obtain rfl := Option.some.inj h
  unfold rightS
  by_cases e0 : a0_0 = 0
  · subst e0
    rw [if_pos rfl]
    exact right_some 0 a0_1 a0_2 a0_3 a0_4 _ _ _ _ (by rw [schAt, if_pos rfl]; rfl) _ (Go.Proofs.enters_of Tryz.func53 (by kernel_rfl) rfl)
      (fun W => (eid_schemes_1.calls 0 a0_1 a0_2 a0_3 a0_4 _ W (by unfold eid_schemes_1.f; rfl)).mono fun _ _ h => ⟨by rw [h.1]; simp, h.2⟩) w
  rw [if_neg e0]
  by_cases e1 : a0_0 = 1
  · subst e1
    rw [if_pos rfl]
    exact right_some 1 a0_1 a0_2 a0_3 a0_4 _ _ _ _ (by rw [schAt, if_neg (by decide), if_pos rfl]; rfl) _ (Go.Proofs.enters_of Tryz.func56 (by kernel_rfl) rfl)
      (fun W => eid_isDtn.calls 10 1 a0_1 a0_2 a0_3 a0_4 _ W (isDtn_is _ _ _ _ _ h1 h2)) w
  rw [if_neg e1]
  by_cases e2 : a0_0 = 2
  · subst e2
    rw [if_pos rfl]
    exact right_some 2 a0_1 a0_2 a0_3 a0_4 _ _ _ _ (by rw [schAt, if_neg (by decide), if_neg (by decide), if_pos rfl]; rfl) _ (Go.Proofs.enters_of Tryz.func59 (by kernel_rfl) rfl)
      (fun W => eid_isIpn.calls 10 2 a0_1 a0_2 a0_3 a0_4 _ W (isIpn_is _ _ _ _ _)) w
  rw [if_neg e2]
  exact right_none a0_0 a0_1 a0_2 a0_3 a0_4 (by rw [schAt, if_neg e0, if_neg e1, if_neg e2]) w
end Go.Proofs.YtaknknfcikdjiaaGreatDoor.Hand
end
section
namespace Go.Proofs.YtaknknfcikdjiaaGreatDoor.SB
open Go.Proofs.YtaknknfcikdjiaaGreatDoor.Hand
open Go.RowKit Go.Proofs.YtaknknfcikdjiaaGreatDoorW.PrintWords Go.Proofs.YtaknknfcikdjiaaGreatDoorW.PrintLast Go.Proofs.YtaknknfcikdjiaaGreatDoorW.PrintMore
attribute [local go_sem] max2_int min2_int max_two min_two max_three min_three max_four min_four
set_option linter.unusedVariables false
set_option linter.unusedSimpArgs false
def errW : Option Int → Value
  | none => .nilIface
  | some c => .iface 0 (.int .i64 c)
theorem errW_none : errW none = .nilIface := rfl
theorem errW_some (c : Int) : errW (some c) = .iface 0 (.int .i64 c) := rfl
end Go.Proofs.YtaknknfcikdjiaaGreatDoor.SB
end
section
namespace Go.Proofs.YtaknknfcikdjiaaGreatDoor.SB
open Go.Proofs.YtaknknfcikdjiaaGreatDoor.Hand
open Go.RowKit Go.Proofs.YtaknknfcikdjiaaGreatDoorW.PrintWords Go.Proofs.YtaknknfcikdjiaaGreatDoorW.PrintLast Go.Proofs.YtaknknfcikdjiaaGreatDoorW.PrintMore
attribute [local go_sem] max2_int min2_int max_two min_two max_three min_three max_four min_four
set_option linter.unusedVariables false
set_option linter.unusedSimpArgs false
def eid_schemes_5.f (a0_0 : Int) (a0_1 : ByteArray) (a0_2 : ByteArray) (a0_3 : Int) (a0_4 : Int) : Option (ByteArray) := (strconv_Itoa.f a0_3).bind fun t102 => (if t102.size + 1 ≤ 9223372036854775807 then ((strconv_Itoa.f a0_4).bind fun t103 => (if t102.size + 1 + t103.size ≤ 9223372036854775807 then (some ((t102 ++ (⟨#[46]⟩ : ByteArray)) ++ t103)) else (none))) else (none))
def eid_schemes_5.T1 : Bool × List (List Nat × List Nat) := (true, [([], []), ([0], [0]), ([1], [1]), ([2], [2]), ([], []), ([4], [4]), ([5, 2], [5]), ([3, 6], [3, 6]), ([7, 6, 0, 1, 2, 3, 4, 5, 6, 7], [7])])
def eid_schemes_5.B1 : List Nat := [0, 1, 3, 7, 0, 16, 55, 127, 255]
theorem eid_schemes_5.tab1 : rtab .any (opsOf Tryz.f60 1) = eid_schemes_5.T1 := by kernel_rfl
theorem eid_schemes_5.bits1 : waitsOk eid_schemes_5.T1.2 eid_schemes_5.B1 = true := by kernel_rfl
set_option maxHeartbeats 8000000 in
set_option maxRecDepth 100000 in
theorem eid_schemes_5.calls (a0_0 : Int) (a0_1 : ByteArray) (a0_2 : ByteArray) (a0_3 : Int) (a0_4 : Int) (r : ByteArray) (w : World) (hLd : Laid w) (h : eid_schemes_5.f a0_0 a0_1 a0_2 a0_3 a0_4 = some r) :
    Calls Tryz.prog 60 #[.agg #[.int .i64 a0_0, .string a0_1, .string a0_2, .int .i64 a0_3, .int .i64 a0_4]] w fun e w' => e = .returned (.string r) ∧ Below w.heap.size w w' := by
  have hu37 := Tryz.underlying37
  have HLD := Aside0.mk hLd
  clear hLd
  have HB := Aside0.mk (Below.refl w.heap.size w)
  have H : ((strconv_Itoa.f a0_3).bind fun t102 => (if t102.size + 1 ≤ 9223372036854775807 then ((strconv_Itoa.f a0_4).bind fun t103 => (if t102.size + 1 + t103.size ≤ 9223372036854775807 then (some ((t102 ++ (⟨#[46]⟩ : ByteArray)) ++ t103)) else (none))) else (none))) = some r := h
  clear h
  replace H := Option.bind_eq_some_iff.mp H
  obtain ⟨t102, A20, H⟩ := H
  replace H : (if t102.size + 1 ≤ 9223372036854775807 then ((strconv_Itoa.f a0_4).bind fun t103 => (if t102.size + 1 + t103.size ≤ 9223372036854775807 then (some ((t102 ++ (⟨#[46]⟩ : ByteArray)) ++ t103)) else (none))) else (none)) = some r := H
  have A2 := Aside0.mk A20
  clear A20
  by_cases c3 : t102.size + 1 ≤ 9223372036854775807
  · rw [if_pos c3] at H
    have c3b0 := eq_true c3
    have c3b1 : decide (t102.size + 1 ≤ 9223372036854775807) = true := decide_eq_true c3
    try have c3b2 : (9223372036854775807 < t102.size + 1) = False := eq_false (Nat.not_lt.2 c3)
    replace H := Option.bind_eq_some_iff.mp H
    obtain ⟨t103, A40, H⟩ := H
    replace H : (if t102.size + 1 + t103.size ≤ 9223372036854775807 then (some ((t102 ++ (⟨#[46]⟩ : ByteArray)) ++ t103)) else (none)) = some r := H
    have A4 := Aside0.mk A40
    clear A40
    by_cases c5 : t102.size + 1 + t103.size ≤ 9223372036854775807
    · rw [if_pos c5] at H
      have c5b0 := eq_true c5
      have c5b1 : decide (t102.size + 1 + t103.size ≤ 9223372036854775807) = true := decide_eq_true c5
      try have c5b2 : (9223372036854775807 < t102.size + 1 + t103.size) = False := eq_false (Nat.not_lt.2 c5)
      obtain rfl := Option.some.inj H
      go_enter Tryz.func60, Tryz.ntmps60
      try go_wp2_with (first | ((with_reducible refine gate_dst (N := 1) rfl ?_); refine box_event ?hg (N := 1) ?hd (cs := #[.int .i64 a0_0, .string a0_1, .string a0_2, .int .i64 a0_3, .int .i64 a0_4]) (t := 37) ?hr ?_; (case hd => rfl); (case hg => rfl); (case hr => first | (go_simp; done) | (go_simp; rfl) | (go_simp; simp only [isEmpty_ne, isEmpty_eq]; done) | (go_simp; simp only [isEmpty_ne, isEmpty_eq]; rfl)); intro gb101 hg w6 hbox hb; have n0_ := Aside0.mk (below_step (by repeat (first | (with_reducible first | exact HB.out | apply below_alloc | apply pw_below_drewN | apply below_drew1) | exact HB.out)) hb); have n1_ := Aside0.mk (hbox); have n2_ := Aside0.mk ((by rw [hg]; exact (below_size (by repeat (first | (with_reducible first | exact HB.out | apply below_alloc | apply pw_below_drewN | apply below_drew1) | exact HB.out))) : w.heap.size ≤ gb101)); have n3_ := Aside0.mk ((by rw [hg]; exact (below_size (by repeat (first | (with_reducible first | exact HB.out | apply below_alloc | apply pw_below_drewN | apply below_drew1) | exact HB.out))) : w.heap.size ≤ gb101)); clear HB; have HB := n0_; have BK101 := n1_; have GW101 := n2_; have GE101 := n3_; clear n0_ n1_ n2_ n3_; clear hb hbox hg))
      have n0_ := Aside0.mk (blk_drew BK101.out)
      have n1_ := Aside0.mk (below_drew1 HB.out)
      clear BK101
      clear HB
      have BK101 := n0_
      have HB := n1_
      clear n0_ n1_
      refine start_ (n := 9) (S := fun w' => w'.cell? ⟨gb101, 0, none⟩ = some (.int .i64 a0_0) ∧ w'.cell? ⟨gb101, 1, none⟩ = some (.string a0_1) ∧ w'.cell? ⟨gb101, 2, none⟩ = some (.string a0_2) ∧ w'.cell? ⟨gb101, 3, none⟩ = some (.int .i64 a0_3) ∧ w'.cell? ⟨gb101, 4, none⟩ = some (.int .i64 a0_4)) (ds := []) #[false, false, false, false, false, false, false, false, false] (by kernel_rfl) rfl rfl ⟨(blk_cell BK101.out 0).trans rfl, (blk_cell BK101.out 1).trans rfl, (blk_cell BK101.out 2).trans rfl, (blk_cell BK101.out 3).trans rfl, (blk_cell BK101.out 4).trans rfl⟩ (fun hHeld => ?_); refine with_tabW eid_schemes_5.tab1 eid_schemes_5.bits1 (fun HT_ HW_ => ?_)
      generalize w6.drew = w7 at BK101 HB hHeld ⊢
      refine pure_ (i := 0) (N := some 3) (v := ?_) (a' := ?_) #[true, false, false, false, false, false, false, false, false] rfl rfl (any_of HT_.out (by kernel_rfl)) (fun _ _ _ h => h) (Or.inl ⟨by rfl, ?_⟩) ?_ ?_
      rotate_left
      · intro w'
        go_simp
        with_reducible rfl
      rotate_left
      · simp only [Act.put, List.setIfInBounds_toArray, List.set_cons_zero, List.set_cons_succ, i64_w, i32_w]
        rfl
      refine pure_ (i := 4) (N := some 7) (v := ?_) (a' := ?_) #[true, false, false, false, true, false, false, false, false] rfl rfl (any_of HT_.out (by kernel_rfl)) (fun _ _ _ h => h) (Or.inl ⟨by rfl, ?_⟩) ?_ ?_
      rotate_left
      · intro w'
        go_simp
        with_reducible rfl
      rotate_left
      · simp only [Act.put, List.setIfInBounds_toArray, List.set_cons_zero, List.set_cons_succ, i64_w, i32_w]
        rfl
      refine take_ (i := 1) (N := some 4) (v := ?_) (a' := ?_) #[true, true, false, false, true, false, false, false, false] rfl rfl (take_ofW HT_.out HW_.out (by kernel_rfl)) (fun _ _ _ h => h) (Or.inl ⟨by rfl, ?_⟩) hHeld ?_ ?_
      rotate_left
      · rintro w' ⟨s0, s1, s2, s3, s4⟩
        go_simp
        with_reducible rfl
      rotate_left
      · simp only [Act.put, List.setIfInBounds_toArray, List.set_cons_zero, List.set_cons_succ, i64_w, i32_w]
        rfl
      refine take_ (i := 5) (N := some 8) (v := ?_) (a' := ?_) #[true, true, false, false, true, true, false, false, false] rfl rfl (take_ofW HT_.out HW_.out (by kernel_rfl)) (fun _ _ _ h => h) (Or.inl ⟨by rfl, ?_⟩) hHeld ?_ ?_
      rotate_left
      · rintro w' ⟨s0, s1, s2, s3, s4⟩
        go_simp
        with_reducible rfl
      rotate_left
      · simp only [Act.put, List.setIfInBounds_toArray, List.set_cons_zero, List.set_cons_succ, i64_w, i32_w]
        rfl
      refine one_ (i := 2) (N := some 5) #[true, true, true, false, true, true, false, false, false] rfl rfl (one_of HT_.out (by kernel_rfl)) (by decide) (fun K hK => ?_)
      refine goes_ Tryz.func61 (by kernel_rfl) rfl #[.int .i64 a0_3] (by rfl) rfl rfl (by (try simp only [List.map_toArray, List.map_cons, List.map_nil]); first | done | rfl | (simp only [List.length_drop, List.length_take]; rfl)) ?_
      with_reducible refine (strconv_Itoa.calls a0_3 t102 _ ?side1 A2.out).mono ?_
      (case side1 => exact Laid.below HLD.out (by repeat (first | (with_reducible first | exact HB.out | apply below_alloc | apply pw_below_drewN | apply below_drew1 | refine below_set ?_ GE101.out) | exact HB.out)))
      rintro e w8 ⟨rfl, hb⟩
      refine ⟨_, rfl, ?_⟩
      have n0_ := Aside0.mk (blk_below (g := gb101) (o := .cells #[.int .i64 a0_0, .string a0_1, .string a0_2, .int .i64 a0_3, .int .i64 a0_4] 37 (0, 0)) (by (with_reducible repeat (first | refine blk_drewN ?_ _ | refine blk_drew ?_ | refine blk_alloc ?_ _)); exact BK101.out) hb)
      have n1_ := Aside0.mk (below_step (by repeat (first | (with_reducible first | exact HB.out | apply below_alloc | apply pw_below_drewN | apply below_drew1 | refine below_set ?_ GE101.out) | exact HB.out)) hb)
      clear BK101
      clear HB
      have BK101 := n0_
      have HB := n1_
      clear n0_ n1_
      (try clear hb)
      (try clear hb2)
      (try clear hk)
      (try clear hi)
      refine hK.out _ _ ⟨(blk_cell BK101.out 0).trans rfl, (blk_cell BK101.out 1).trans rfl, (blk_cell BK101.out 2).trans rfl, (blk_cell BK101.out 3).trans rfl, (blk_cell BK101.out 4).trans rfl⟩ (fun hHeld => ?_)
      clear hK K
      refine norm_ (a' := ?_) ?_ ?_
      rotate_left
      · show Act.put _ (some 5) _ = _
        simp only [Act.put, List.setIfInBounds_toArray, List.set_cons_zero, List.set_cons_succ, i64_w, i32_w]
        rfl
      refine pure_ (i := 3) (N := some 6) (v := ?_) (a' := ?_) #[true, true, true, true, true, true, false, false, false] rfl rfl (any_of HT_.out (by kernel_rfl)) (fun _ _ _ h => h) (Or.inl ⟨by rfl, ?_⟩) ?_ ?_
      rotate_left
      · intro w'
        go_simp
        with_reducible rfl
      rotate_left
      · simp only [Act.put, List.setIfInBounds_toArray, List.set_cons_zero, List.set_cons_succ, i64_w, i32_w]
        rfl
      refine one_ (i := 6) (N := some 9) #[true, true, true, true, true, true, true, false, false] rfl rfl (one_of HT_.out (by kernel_rfl)) (by decide) (fun K hK => ?_)
      refine goes_ Tryz.func61 (by kernel_rfl) rfl #[.int .i64 a0_4] (by rfl) rfl rfl (by (try simp only [List.map_toArray, List.map_cons, List.map_nil]); first | done | rfl | (simp only [List.length_drop, List.length_take]; rfl)) ?_
      with_reducible refine (strconv_Itoa.calls a0_4 t103 _ ?side1 A4.out).mono ?_
      (case side1 => exact Laid.below HLD.out (by repeat (first | (with_reducible first | exact HB.out | apply below_alloc | apply pw_below_drewN | apply below_drew1 | refine below_set ?_ GE101.out) | exact HB.out)))
      rintro e w9 ⟨rfl, hb⟩
      refine ⟨_, rfl, ?_⟩
      have n0_ := Aside0.mk (blk_below (g := gb101) (o := .cells #[.int .i64 a0_0, .string a0_1, .string a0_2, .int .i64 a0_3, .int .i64 a0_4] 37 (0, 0)) (by (with_reducible repeat (first | refine blk_drewN ?_ _ | refine blk_drew ?_ | refine blk_alloc ?_ _)); exact BK101.out) hb)
      have n1_ := Aside0.mk (below_step (by repeat (first | (with_reducible first | exact HB.out | apply below_alloc | apply pw_below_drewN | apply below_drew1 | refine below_set ?_ GE101.out) | exact HB.out)) hb)
      clear BK101
      clear HB
      have BK101 := n0_
      have HB := n1_
      clear n0_ n1_
      (try clear hb)
      (try clear hb2)
      (try clear hk)
      (try clear hi)
      refine hK.out _ _ ⟨(blk_cell BK101.out 0).trans rfl, (blk_cell BK101.out 1).trans rfl, (blk_cell BK101.out 2).trans rfl, (blk_cell BK101.out 3).trans rfl, (blk_cell BK101.out 4).trans rfl⟩ (fun hHeld => ?_)
      clear hK K
      refine norm_ (a' := ?_) ?_ ?_
      rotate_left
      · show Act.put _ (some 9) _ = _
        simp only [Act.put, List.setIfInBounds_toArray, List.set_cons_zero, List.set_cons_succ, i64_w, i32_w]
        rfl
      refine pure_ (i := 7) (N := some 10) (v := ?_) (a' := ?_) #[true, true, true, true, true, true, true, true, false] rfl rfl (any_of HT_.out (by kernel_rfl)) (fun _ _ _ h => h) (Or.inl ⟨by rfl, ?_⟩) ?_ ?_
      rotate_left
      · intro w'
        go_simp
        with_reducible rfl
      rotate_left
      · simp only [Act.put, List.setIfInBounds_toArray, List.set_cons_zero, List.set_cons_succ, i64_w, i32_w]
        rfl
      refine pure_ (i := 8) (N := some 2) (v := ?_) (a' := ?_) #[true, true, true, true, true, true, true, true, true] rfl rfl (any_of HT_.out (by kernel_rfl)) (fun _ _ _ h => h) (Or.inl ⟨by rfl, ?_⟩) ?_ ?_
      rotate_left
      · intro w'
        go_simp
        with_reducible rfl
      rotate_left
      · simp only [Act.put, List.setIfInBounds_toArray, List.set_cons_zero, List.set_cons_succ, i64_w, i32_w]
        rfl
      refine done_ (done_of HT_.out (by kernel_rfl)) ?_
      try go_wp2
      all_goals (first | (go_ret; exact ⟨by first | rfl | (simp [errW_none, errW_some] <;> rfl) | (simp [*, errW_none, errW_some] <;> rfl) | (simp_all; done) | fail, by repeat (first | (with_reducible first | exact HB.out | apply below_alloc | apply pw_below_drewN | apply below_drew1 | refine below_set ?_ GE101.out) | exact HB.out)⟩) | (exfalso; simp_all; done) | (exfalso; simp only [isEmpty_eq, isEmpty_ne] at *; simp_all; done) | (exfalso; exact isEmpty_clash (by assumption) (by assumption)) | (exfalso; exact isEmpty_clash' (by assumption) (by assumption)) | (exfalso; exact isEmpty_clash2 (by assumption) (by assumption)))
    · rw [if_neg c5] at H
      exact absurd H (by simp)
  · rw [if_neg c3] at H
    exact absurd H (by simp)
def eid_schemes_4.f (a0_0 : Int) (a0_1 : ByteArray) (a0_2 : ByteArray) (a0_3 : Int) (a0_4 : Int) : Option (ByteArray) := if 2 + a0_1.size ≤ 9223372036854775807 then (if 2 + a0_1.size + 1 ≤ 9223372036854775807 then (if 2 + a0_1.size + 1 + a0_2.size ≤ 9223372036854775807 then (some ((((⟨#[47, 47]⟩ : ByteArray) ++ a0_1) ++ (⟨#[47]⟩ : ByteArray)) ++ a0_2)) else (none)) else (none)) else (none)
set_option maxHeartbeats 8000000 in
set_option maxRecDepth 100000 in
theorem eid_schemes_4.calls (a0_0 : Int) (a0_1 : ByteArray) (a0_2 : ByteArray) (a0_3 : Int) (a0_4 : Int) (r : ByteArray) (w : World) (h : eid_schemes_4.f a0_0 a0_1 a0_2 a0_3 a0_4 = some r) :
    Calls Tryz.prog 57 #[.agg #[.int .i64 a0_0, .string a0_1, .string a0_2, .int .i64 a0_3, .int .i64 a0_4]] w fun e w' => e = .returned (.string r) ∧ Below w.heap.size w w' := by
  have hu37 := Tryz.underlying37
  have HB := Aside0.mk (Below.refl w.heap.size w)
  have H : (if 2 + a0_1.size ≤ 9223372036854775807 then (if 2 + a0_1.size + 1 ≤ 9223372036854775807 then (if 2 + a0_1.size + 1 + a0_2.size ≤ 9223372036854775807 then (some ((((⟨#[47, 47]⟩ : ByteArray) ++ a0_1) ++ (⟨#[47]⟩ : ByteArray)) ++ a0_2)) else (none)) else (none)) else (none)) = some r := h
  clear h
  by_cases c2 : 2 + a0_1.size ≤ 9223372036854775807
  · rw [if_pos c2] at H
    have c2b0 := eq_true c2
    have c2b1 : decide (2 + a0_1.size ≤ 9223372036854775807) = true := decide_eq_true c2
    try have c2b2 : (9223372036854775807 < 2 + a0_1.size) = False := eq_false (Nat.not_lt.2 c2)
    by_cases c3 : 2 + a0_1.size + 1 ≤ 9223372036854775807
    · rw [if_pos c3] at H
      have c3b0 := eq_true c3
      have c3b1 : decide (2 + a0_1.size + 1 ≤ 9223372036854775807) = true := decide_eq_true c3
      try have c3b2 : (9223372036854775807 < 2 + a0_1.size + 1) = False := eq_false (Nat.not_lt.2 c3)
      by_cases c4 : 2 + a0_1.size + 1 + a0_2.size ≤ 9223372036854775807
      · rw [if_pos c4] at H
        have c4b0 := eq_true c4
        have c4b1 : decide (2 + a0_1.size + 1 + a0_2.size ≤ 9223372036854775807) = true := decide_eq_true c4
        try have c4b2 : (9223372036854775807 < 2 + a0_1.size + 1 + a0_2.size) = False := eq_false (Nat.not_lt.2 c4)
        obtain rfl := Option.some.inj H
        go_enter Tryz.func57, Tryz.ntmps57
        go_wp2_with (first | ((with_reducible refine gate_dst (N := 1) rfl ?_); refine box_event ?hg (N := 1) ?hd (cs := #[.int .i64 a0_0, .string a0_1, .string a0_2, .int .i64 a0_3, .int .i64 a0_4]) (t := 37) ?hr ?_; (case hd => rfl); (case hg => rfl); (case hr => first | (go_simp; done) | (go_simp; rfl) | (go_simp; simp only [isEmpty_ne, isEmpty_eq]; done) | (go_simp; simp only [isEmpty_ne, isEmpty_eq]; rfl)); intro gb104 hg w5 hbox hb; have n0_ := Aside0.mk (below_step (by repeat (first | (with_reducible first | exact HB.out | apply below_alloc | apply pw_below_drewN | apply below_drew1) | exact HB.out)) hb); have n1_ := Aside0.mk (hbox); have n2_ := Aside0.mk ((by rw [hg]; exact (below_size (by repeat (first | (with_reducible first | exact HB.out | apply below_alloc | apply pw_below_drewN | apply below_drew1) | exact HB.out))) : w.heap.size ≤ gb104)); have n3_ := Aside0.mk ((by rw [hg]; exact (below_size (by repeat (first | (with_reducible first | exact HB.out | apply below_alloc | apply pw_below_drewN | apply below_drew1) | exact HB.out))) : w.heap.size ≤ gb104)); clear HB; have HB := n0_; have BK104 := n1_; have GW104 := n2_; have GE104 := n3_; clear n0_ n1_ n2_ n3_; clear hb hbox hg; have hcz6_0 : w5.cell? ⟨gb104, 0, none⟩ = some (.int .i64 a0_0) := (blk_cell BK104.out 0).trans rfl; have hcz6_1 : w5.cell? ⟨gb104, 1, none⟩ = some (.string a0_1) := (blk_cell BK104.out 1).trans rfl; have hcz6_2 : w5.cell? ⟨gb104, 2, none⟩ = some (.string a0_2) := (blk_cell BK104.out 2).trans rfl; have hcz6_3 : w5.cell? ⟨gb104, 3, none⟩ = some (.int .i64 a0_3) := (blk_cell BK104.out 3).trans rfl; have hcz6_4 : w5.cell? ⟨gb104, 4, none⟩ = some (.int .i64 a0_4) := (blk_cell BK104.out 4).trans rfl; have hfz6_0 := blk_frozen BK104.out 0; have hfz6_1 := blk_frozen BK104.out 1; have hfz6_2 := blk_frozen BK104.out 2; have hfz6_3 := blk_frozen BK104.out 3; have hfz6_4 := blk_frozen BK104.out 4))
        all_goals (first | (go_ret; exact ⟨by first | rfl | (simp [errW_none, errW_some] <;> rfl) | (simp [*, errW_none, errW_some] <;> rfl) | (simp_all; done) | fail, by repeat (first | (with_reducible first | exact HB.out | apply below_alloc | apply pw_below_drewN | apply below_drew1 | refine below_set ?_ GE104.out) | exact HB.out)⟩) | (exfalso; simp_all; done) | (exfalso; simp only [isEmpty_eq, isEmpty_ne] at *; simp_all; done) | (exfalso; exact isEmpty_clash (by assumption) (by assumption)) | (exfalso; exact isEmpty_clash' (by assumption) (by assumption)) | (exfalso; exact isEmpty_clash2 (by assumption) (by assumption)))
      · rw [if_neg c4] at H
        exact absurd H (by simp)
    · rw [if_neg c3] at H
      exact absurd H (by simp)
  · rw [if_neg c2] at H
    exact absurd H (by simp)
end Go.Proofs.YtaknknfcikdjiaaGreatDoor.SB
end
section
namespace Go.Proofs.YtaknknfcikdjiaaGreatDoor.Hand
open Go.RowKit Go.Proofs.YtaknknfcikdjiaaGreatDoor.SA Go.Proofs.YtaknknfcikdjiaaGreatDoor.SB
set_option maxRecDepth 100000 in
set_option maxHeartbeats 1000000 in
theorem halves_no (n : Int) (a0_1 a0_2 : ByteArray) (a0_3 a0_4 : Int) (w : World) (hr : eid_Right.f n a0_1 a0_2 a0_3 a0_4 = some false) :
    Calls Tryz.prog 39 #[.agg #[.int .i64 n, .string a0_1, .string a0_2, .int .i64 a0_3, .int .i64 a0_4]] w fun e w' => e = .returned (.tuple #[.string ⟨#[]⟩, .string ⟨#[]⟩, .int .i64 60]) ∧ Below w.heap.size w w' := by
  have hu := Tryz.underlying37
  have HR := Lib.hid hr
  clear hr
  go_enter Tryz.func39, Tryz.ntmps39
  go_wp2_with (first | (go_at_call 22; refine (eid_Right.calls _ _ _ _ _ _ _ HR.out).mono ?_; rintro e w2 ⟨rfl, hb2⟩))
  go_ret3
  exact ⟨rfl, (b_alloc (Below.refl _ _) _).trans (hb2.mono (by simp))⟩
set_option maxRecDepth 100000 in
set_option maxHeartbeats 4000000 in
theorem halves_some (n : Int) (a0_1 a0_2 : ByteArray) (a0_3 a0_4 : Int) (wd rs : ByteArray) (i j k : Nat) (hs : schAt n = some (schOf wd i j k)) (hent : ∀ args w, (callFunc j args).run Tryz.prog w = .ok (.enter j args) w)
    (hcall : ∀ W : World, Laid W → Calls Tryz.prog j #[.agg #[.int .i64 n, .string a0_1, .string a0_2, .int .i64 a0_3, .int .i64 a0_4]] W fun e w' => e = .returned (.string rs) ∧ Below W.heap.size W w') (w : World) (hL : Laid w) (hr : eid_Right.f n a0_1 a0_2 a0_3 a0_4 = some true) :
    Calls Tryz.prog 39 #[.agg #[.int .i64 n, .string a0_1, .string a0_2, .int .i64 a0_3, .int .i64 a0_4]] w fun e w' => e = .returned (.tuple #[.string wd, .string rs, .int .i64 0]) ∧ Below w.heap.size w w' := by
  have hu := Tryz.underlying37
  have hus := Tryz.underlying79
  have HC := Lib.hid hcall
  have HL := Lib.hid hL
  have HR := Lib.hid hr
  have HLK := Lib.hid (look_some hs false)
  clear hs hcall hL hr
  go_enter Tryz.func39, Tryz.ntmps39
  go_wp2_with fail
  obtain ⟨w0, hw0⟩ : ∃ w0, w0 = w.alloc (.cells #[.int .i64 n, .string a0_1, .string a0_2, .int .i64 a0_3, .int .i64 a0_4] 37) := ⟨_, rfl⟩
  have hB0 : Below w.heap.size w w0 := by rw [hw0]; exact (Below.refl _ _).alloc (Nat.le_refl _) _
  have hb0 : w0.heap[w.heap.size]? = some (.cells #[.int .i64 n, .string a0_1, .string a0_2, .int .i64 a0_3, .int .i64 a0_4] 37) := by rw [hw0]; exact World.alloc_heap_new _ _
  have hlt0 : w.heap.size < w0.heap.size := by rw [hw0]; simp
  rw [← hw0]
  clear hw0
  refine (eid_Right.calls _ _ _ _ _ _ _ HR.out).mono ?_
  rintro e w1 ⟨rfl, hb1⟩
  have hB : Below w.heap.size w w1 := hB0.trans (hb1.mono hB0.size)
  have hb0' := (hb1.block _ hlt0).trans hb0
  have hlt : w.heap.size < w1.heap.size := Nat.lt_of_lt_of_le hlt0 hb1.size
  clear hB0 hb1 hb0 hlt0
  have hc0 : w1.cell? ⟨w.heap.size, 0, none⟩ = some (.int .i64 n) := (cell_blk hb0' 0).trans rfl
  have hcA : ∀ o, (w1.alloc o).cell? ⟨w.heap.size, 0, none⟩ = some (.int .i64 n) := fun o => by rw [World.cell?_alloc_past _ _ _ hlt]; exact hc0
  have hcB : ∀ o o', ((w1.alloc o).alloc o').cell? ⟨w.heap.size, 0, none⟩ = some (.int .i64 n) := fun o o' => by rw [World.cell?_alloc_past _ _ _ (by simp; omega)]; exact hcA o
  have hl1 : (Instr.lookup 81 (.map (some w1.heap.size)) (.int .i64 n) false).run Tryz.prog (w1.alloc (.map schs 3)).drew = .ok (schOf wd i j k) (w1.alloc (.map schs 3)).drew := HLK.out _ _ (World.alloc_heap_new _ _)
  have hl2 : ∀ o, (Instr.lookup 81 (.map (some w1.heap.size)) (.int .i64 n) false).run Tryz.prog ((w1.alloc (.map schs 3)).alloc o).drew = .ok (schOf wd i j k) ((w1.alloc (.map schs 3)).alloc o).drew := fun o => HLK.out _ _ ((Below.heap_alloc _ _ _ (by simp)).trans (World.alloc_heap_new _ _))
  have hl3 : ∀ o, (Instr.lookup 81 (.map (some (w1.heap.size + 1))) (.int .i64 n) false).run Tryz.prog ((w1.alloc o).alloc (.map schs 3)).drew = .ok (schOf wd i j k) ((w1.alloc o).alloc (.map schs 3)).drew := fun o => HLK.out _ _ (by have := World.alloc_heap_new (w1.alloc o) (.map schs 3); rwa [World.size_alloc] at this)
  simp only [schOf] at hl1 hl2 hl3
  go_wp2_with fail
  go_upto_region 4 with (fail)
  go_cut [5, 9, 10, 11, 12] (fun s5 _ _ _ _ wc => ∃ g : Nat, w1.heap.size ≤ g ∧ g < wc.heap.size ∧ s5 = .pointer (some ⟨g, 0, none⟩) ∧ wc.cell? ⟨g, 0, none⟩ = some (.string wd) ∧ wc.cell? ⟨g, 2, none⟩ = some (.func (.func j) #[] #[]) ∧ Below w1.heap.size w1 wc)
  case first =>
    go_region_with (go_at_call 41; refine (schemes_calls _).mono ?_; rintro e w' ⟨rfl, rfl⟩)
    all_goals go_wp2
    all_goals go_meet
    all_goals (case rel => exact ⟨_, by first | exact Nat.le_refl _ | exact Nat.le_succ _, by first | (simp; done) | (simp; omega), rfl, by first | rfl | (simp; done), by first | rfl | (simp; done), by repeat (first | exact Below.refl _ _ | apply b_alloc | apply Below.drew)⟩)
  case rest =>
    obtain ⟨g, hg, hglt, rfl, hg0, hg2, hbw⟩ := hcut
    have hz := (hbw.block _ hlt).trans hb0'
    have z0 := cell_blk hz 0
    have z1 := cell_blk hz 1
    have z2 := cell_blk hz 2
    have z3 := cell_blk hz 3
    have z4 := cell_blk hz 4
    simp at z0 z1 z2 z3 z4
    have hltw : w.heap.size < wc.heap.size := Nat.lt_of_lt_of_le hlt hbw.size
    clear hcA hcB hc0 hb0' hl1 hl2 hl3 hz hlt
    go_wp2_with fail
    go_region_with (first | ((with_reducible refine (HC.out _ (HL.out.below (hB.trans ((hbw.drew).mono hB.size)))).mono ?_); rintro e w2 ⟨rfl, hb2⟩; have y0 : w2.cell? ⟨g, 0, none⟩ = some (.string wd) := (hb2.cell (p := ⟨g, 0, none⟩) hglt).trans hg0; have HB2 := Lib.hid hb2; clear hb2))
    all_goals go_wp2
    all_goals go_ret3
    all_goals exact ⟨rfl, hB.trans (((hbw.drew).trans (HB2.out.mono hbw.size)).mono hB.size)⟩
end Go.Proofs.YtaknknfcikdjiaaGreatDoor.Hand
end
section
namespace Go.Proofs.YtaknknfcikdjiaaGreatDoor.Hand
open Go.RowKit Go.Proofs.YtaknknfcikdjiaaGreatDoor.SA Go.Proofs.YtaknknfcikdjiaaGreatDoor.SB
def wDtn : ByteArray := ⟨#[100, 116, 110]⟩
def wIpn : ByteArray := ⟨#[105, 112, 110]⟩
def wNone : ByteArray := ⟨#[110, 111, 110, 101]⟩
def restDtn (a1 a2 : ByteArray) : ByteArray := (((⟨#[47, 47]⟩ : ByteArray) ++ a1) ++ (⟨#[47]⟩ : ByteArray)) ++ a2
def restIpn (a3 a4 : Int) : ByteArray := (txt (Lib.itoa a3) ++ (⟨#[46]⟩ : ByteArray)) ++ txt (Lib.itoa a4)
def restS (n : Int) (a1 a2 : ByteArray) (a3 a4 : Int) : ByteArray := if n = 0 then wNone else if n = 1 then restDtn a1 a2 else restIpn a3 a4
def wordS (n : Int) : ByteArray := if n = 2 then wIpn else wDtn
def halvesS (n : Int) (a1 a2 : ByteArray) (a3 a4 : Int) : ByteArray × ByteArray × Int :=
  if rightS n a1 a2 a3 a4 = true then (wordS n, restS n a1 a2 a3 a4, 0) else (⟨#[]⟩, ⟨#[]⟩, 60)
theorem partS_size {s signs : ByteArray} (h : partS s signs = true) : s.size ≤ 20 := by
  unfold partS at h
  simp only [Bool.and_eq_true, decide_eq_true_eq] at h
  exact h.2
theorem right_dtn {a1 a2 : ByteArray} {a3 a4 : Int} (h : rightS 1 a1 a2 a3 a4 = true) : a1.toList ≠ [] ∧ partS a1 ⟨#[45, 46]⟩ = true ∧ partS a2 ⟨#[45, 46, 47]⟩ = true ∧ a3 = 0 ∧ a4 = 0 := by
  unfold rightS at h
  rw [if_neg (by decide), if_pos rfl] at h
  simpa [Bool.and_eq_true] using h
theorem right_ipn {a1 a2 : ByteArray} {a3 a4 : Int} (h : rightS 2 a1 a2 a3 a4 = true) : a1.toList = [] ∧ a2.toList = [] ∧ 1 ≤ a3 ∧ a3 ≤ 999999999 ∧ 0 ≤ a4 ∧ a4 ≤ 999999999 := by
  unfold rightS at h
  rw [if_neg (by decide), if_neg (by decide), if_pos rfl] at h
  simpa [Bool.and_eq_true] using h
theorem right_scheme {n : Int} {a1 a2 : ByteArray} {a3 a4 : Int} (h : rightS n a1 a2 a3 a4 = true) : n = 0 ∨ n = 1 ∨ n = 2 := by
  unfold rightS at h
  by_cases e0 : n = 0
  · exact .inl e0
  by_cases e1 : n = 1
  · exact .inr (.inl e1)
  by_cases e2 : n = 2
  · exact .inr (.inr e2)
  rw [if_neg e0, if_neg e1, if_neg e2] at h
  cases h
theorem txt_size (l : List UInt8) : (txt l).size = l.length := by simp [txt, ByteArray.size]
theorem itoa_short (n : Int) (h0 : 0 ≤ n) (h1 : n ≤ 9223372036854775807) : (txt (Lib.itoa n)).size ≤ 21 := by
  rw [txt_size]; exact Lib.itoa_length_le n (by omega) h1
def eid_Halves.f (a0_0 : Int) (a0_1 a0_2 : ByteArray) (a0_3 a0_4 : Int) : Option (ByteArray × ByteArray × Int) :=
  if a0_1.size ≤ maxLen ∧ a0_2.size ≤ maxLen then some (halvesS a0_0 a0_1 a0_2 a0_3 a0_4) else none
theorem eid_Halves.calls (a0_0 : Int) (a0_1 a0_2 : ByteArray) (a0_3 a0_4 : Int) (r1 r2 : ByteArray) (r3 : Int) (w : World) (hLd : Laid w) (h : eid_Halves.f a0_0 a0_1 a0_2 a0_3 a0_4 = some (r1, r2, r3)) :
    Calls Tryz.prog 39 #[.agg #[.int .i64 a0_0, .string a0_1, .string a0_2, .int .i64 a0_3, .int .i64 a0_4]] w fun e w' => e = .returned (.tuple #[.string r1, .string r2, .int .i64 r3]) ∧ Below w.heap.size w w' := by
  unfold eid_Halves.f at h
  split at h
  case isFalse => cases h
  rename_i hc
  obtain ⟨h1, h2⟩ := hc
  unfold halvesS at h
  have hR : eid_Right.f a0_0 a0_1 a0_2 a0_3 a0_4 = some (rightS a0_0 a0_1 a0_2 a0_3 a0_4) := by unfold eid_Right.f; rw [if_pos ⟨h1, h2⟩]
  cases hr : rightS a0_0 a0_1 a0_2 a0_3 a0_4 with
  | false =>
    rw [hr, if_neg (by decide)] at h
    simp only [Option.some.injEq, Prod.mk.injEq] at h
    obtain ⟨rfl, rfl, rfl⟩ := h
    exact halves_no a0_0 a0_1 a0_2 a0_3 a0_4 w (by rw [hR, hr])
  | true =>
    rw [hr, if_pos rfl] at h
    simp only [Option.some.injEq, Prod.mk.injEq] at h
    obtain ⟨rfl, rfl, rfl⟩ := h
    rcases right_scheme hr with rfl | rfl | rfl
    · exact halves_some 0 a0_1 a0_2 a0_3 a0_4 wDtn wNone _ _ _ (by rw [schAt, if_pos rfl]; rfl) (Go.Proofs.enters_of Tryz.func54 (by kernel_rfl) rfl)
        (fun W _ => eid_schemes_2.calls 0 a0_1 a0_2 a0_3 a0_4 _ W rfl) w hLd (by rw [hR, hr])
    · obtain ⟨_, p1, p2, _, _⟩ := right_dtn hr
      have s1 := partS_size p1
      have s2 := partS_size p2
      refine halves_some 1 a0_1 a0_2 a0_3 a0_4 wDtn (restDtn a0_1 a0_2) _ _ _ (by rw [schAt, if_neg (by decide), if_pos rfl]; rfl) (Go.Proofs.enters_of Tryz.func57 (by kernel_rfl) rfl)
        (fun W _ => eid_schemes_4.calls 1 a0_1 a0_2 a0_3 a0_4 _ W ?_) w hLd (by rw [hR, hr])
      unfold eid_schemes_4.f
      rw [if_pos (by omega), if_pos (by omega), if_pos (by omega)]
      rfl
    · obtain ⟨_, _, p3, p4, p5, p6⟩ := right_ipn hr
      have s1 := itoa_short a0_3 (by omega) (by omega)
      have s2 := itoa_short a0_4 (by omega) (by omega)
      refine halves_some 2 a0_1 a0_2 a0_3 a0_4 wIpn (restIpn a0_3 a0_4) _ _ _ (by rw [schAt, if_neg (by decide), if_neg (by decide), if_pos rfl]; rfl) (Go.Proofs.enters_of Tryz.func60 (by kernel_rfl) rfl)
        (fun W hW => eid_schemes_5.calls 2 a0_1 a0_2 a0_3 a0_4 _ W hW ?_) w hLd (by rw [hR, hr])
      unfold eid_schemes_5.f strconv_Itoa.f
      rw [if_pos (by omega), if_pos (by omega)]
      simp only [Option.bind_some]
      rw [if_pos (by omega), if_pos (by omega)]
      rfl
end Go.Proofs.YtaknknfcikdjiaaGreatDoor.Hand
end
section
namespace Go.Proofs.YtaknknfcikdjiaaGreatDoor.Hand
open Go.RowKit
structure LaidAt (w : World) (a0 a1 a2 a3 a4 a5 : Addr) : Prop where
  e0 : ErrAt w 0 a0
  e1 : ErrAt w 1 a1
  e2 : ErrAt w 2 a2
  e3 : ErrAt w 3 a3
  e4 : ErrAt w 4 a4
  e5 : ErrAt w 5 a5
  n10 : a1 ≠ a0
  n20 : a2 ≠ a0
  n21 : a2 ≠ a1
  n30 : a3 ≠ a0
  n31 : a3 ≠ a1
  n32 : a3 ≠ a2
  n40 : a4 ≠ a0
  n41 : a4 ≠ a1
  n42 : a4 ≠ a2
  n43 : a4 ≠ a3
  n50 : a5 ≠ a0
  n51 : a5 ≠ a1
  n52 : a5 ≠ a2
  n53 : a5 ≠ a3
  n54 : a5 ≠ a4
theorem LaidAt.below {w w' : World} {a0 a1 a2 a3 a4 a5 : Addr} (h : LaidAt w a0 a1 a2 a3 a4 a5) (hb : Below w.heap.size w w') : LaidAt w' a0 a1 a2 a3 a4 a5 := ⟨h.e0.below hb, h.e1.below hb, h.e2.below hb, h.e3.below hb, h.e4.below hb, h.e5.below hb, h.n10, h.n20, h.n21, h.n30, h.n31, h.n32, h.n40, h.n41, h.n42, h.n43, h.n50, h.n51, h.n52, h.n53, h.n54⟩
structure LaidR (w : World) : Prop where
  laid : Laid w
  errs : ∃ a0 a1 a2 a3 a4 a5, LaidAt w a0 a1 a2 a3 a4 a5
theorem LaidR.below {w w' : World} (h : LaidR w) (hb : Below w.heap.size w w') : LaidR w' := by
  obtain ⟨h1, a0, a1, a2, a3, a4, a5, h2⟩ := h
  exact ⟨h1.below hb, a0, a1, a2, a3, a4, a5, h2.below hb⟩
set_option maxRecDepth 100000 in
theorem told_e0 (w : World) (a0 a1 a2 a3 a4 a5 : Addr) (h : LaidAt w a0 a1 a2 a3 a4 a5) :
    Calls Tryz.prog 32 #[errV a0] w fun e w' => e = .returned (.int .i64 160) ∧ w' = w := by
  obtain ⟨h0, c0, t0, b0⟩ := h.e0
  obtain ⟨h1, c1, t1, b1⟩ := h.e1
  obtain ⟨h2, c2, t2, b2⟩ := h.e2
  obtain ⟨h3, c3, t3, b3⟩ := h.e3
  obtain ⟨h4, c4, t4, b4⟩ := h.e4
  obtain ⟨h5, c5, t5, b5⟩ := h.e5
  have s0 := is_same a0 w
  clear b0 b1 b2 b3 b4 b5 h
  unfold errV at *
  go_enter Tryz.func32, Tryz.ntmps32
  go_wp2_with (go_at_call 44; (first | (with_reducible refine s0.mono ?_)); rintro e w' ⟨rfl, rfl⟩)
  go_ret
  exact ⟨rfl, rfl⟩
set_option maxRecDepth 100000 in
theorem told_e1 (w : World) (a0 a1 a2 a3 a4 a5 : Addr) (h : LaidAt w a0 a1 a2 a3 a4 a5) :
    Calls Tryz.prog 32 #[errV a1] w fun e w' => e = .returned (.int .i64 60) ∧ w' = w := by
  obtain ⟨h0, c0, t0, b0⟩ := h.e0
  obtain ⟨h1, c1, t1, b1⟩ := h.e1
  obtain ⟨h2, c2, t2, b2⟩ := h.e2
  obtain ⟨h3, c3, t3, b3⟩ := h.e3
  obtain ⟨h4, c4, t4, b4⟩ := h.e4
  obtain ⟨h5, c5, t5, b5⟩ := h.e5
  have s0 := is_other a1 a0 c1 c0 t1 t0 w h.n10 b1 b0
  have s1 := is_same a1 w
  clear b0 b1 b2 b3 b4 b5 h
  unfold errV at *
  go_enter Tryz.func32, Tryz.ntmps32
  go_wp2_with (go_at_call 44; (first | (with_reducible refine s0.mono ?_) | (with_reducible refine s1.mono ?_)); rintro e w' ⟨rfl, rfl⟩)
  go_ret
  exact ⟨rfl, rfl⟩
set_option maxRecDepth 100000 in
theorem told_e2 (w : World) (a0 a1 a2 a3 a4 a5 : Addr) (h : LaidAt w a0 a1 a2 a3 a4 a5) :
    Calls Tryz.prog 32 #[errV a2] w fun e w' => e = .returned (.int .i64 161) ∧ w' = w := by
  obtain ⟨h0, c0, t0, b0⟩ := h.e0
  obtain ⟨h1, c1, t1, b1⟩ := h.e1
  obtain ⟨h2, c2, t2, b2⟩ := h.e2
  obtain ⟨h3, c3, t3, b3⟩ := h.e3
  obtain ⟨h4, c4, t4, b4⟩ := h.e4
  obtain ⟨h5, c5, t5, b5⟩ := h.e5
  have s0 := is_other a2 a0 c2 c0 t2 t0 w h.n20 b2 b0
  have s1 := is_other a2 a1 c2 c1 t2 t1 w h.n21 b2 b1
  have s2 := is_same a2 w
  clear b0 b1 b2 b3 b4 b5 h
  unfold errV at *
  go_enter Tryz.func32, Tryz.ntmps32
  go_wp2_with (go_at_call 44; (first | (with_reducible refine s0.mono ?_) | (with_reducible refine s1.mono ?_) | (with_reducible refine s2.mono ?_)); rintro e w' ⟨rfl, rfl⟩)
  go_ret
  exact ⟨rfl, rfl⟩
set_option maxRecDepth 100000 in
theorem told_e3 (w : World) (a0 a1 a2 a3 a4 a5 : Addr) (h : LaidAt w a0 a1 a2 a3 a4 a5) :
    Calls Tryz.prog 32 #[errV a3] w fun e w' => e = .returned (.int .i64 162) ∧ w' = w := by
  obtain ⟨h0, c0, t0, b0⟩ := h.e0
  obtain ⟨h1, c1, t1, b1⟩ := h.e1
  obtain ⟨h2, c2, t2, b2⟩ := h.e2
  obtain ⟨h3, c3, t3, b3⟩ := h.e3
  obtain ⟨h4, c4, t4, b4⟩ := h.e4
  obtain ⟨h5, c5, t5, b5⟩ := h.e5
  have s0 := is_other a3 a0 c3 c0 t3 t0 w h.n30 b3 b0
  have s1 := is_other a3 a1 c3 c1 t3 t1 w h.n31 b3 b1
  have s2 := is_other a3 a2 c3 c2 t3 t2 w h.n32 b3 b2
  have s3 := is_same a3 w
  clear b0 b1 b2 b3 b4 b5 h
  unfold errV at *
  go_enter Tryz.func32, Tryz.ntmps32
  go_wp2_with (go_at_call 44; (first | (with_reducible refine s0.mono ?_) | (with_reducible refine s1.mono ?_) | (with_reducible refine s2.mono ?_) | (with_reducible refine s3.mono ?_)); rintro e w' ⟨rfl, rfl⟩)
  go_ret
  exact ⟨rfl, rfl⟩
set_option maxRecDepth 100000 in
theorem told_e4 (w : World) (a0 a1 a2 a3 a4 a5 : Addr) (h : LaidAt w a0 a1 a2 a3 a4 a5) :
    Calls Tryz.prog 32 #[errV a4] w fun e w' => e = .returned (.int .i64 163) ∧ w' = w := by
  obtain ⟨h0, c0, t0, b0⟩ := h.e0
  obtain ⟨h1, c1, t1, b1⟩ := h.e1
  obtain ⟨h2, c2, t2, b2⟩ := h.e2
  obtain ⟨h3, c3, t3, b3⟩ := h.e3
  obtain ⟨h4, c4, t4, b4⟩ := h.e4
  obtain ⟨h5, c5, t5, b5⟩ := h.e5
  have s0 := is_other a4 a0 c4 c0 t4 t0 w h.n40 b4 b0
  have s1 := is_other a4 a1 c4 c1 t4 t1 w h.n41 b4 b1
  have s2 := is_other a4 a2 c4 c2 t4 t2 w h.n42 b4 b2
  have s3 := is_other a4 a3 c4 c3 t4 t3 w h.n43 b4 b3
  have s4 := is_same a4 w
  clear b0 b1 b2 b3 b4 b5 h
  unfold errV at *
  go_enter Tryz.func32, Tryz.ntmps32
  go_wp2_with (go_at_call 44; (first | (with_reducible refine s0.mono ?_) | (with_reducible refine s1.mono ?_) | (with_reducible refine s2.mono ?_) | (with_reducible refine s3.mono ?_) | (with_reducible refine s4.mono ?_)); rintro e w' ⟨rfl, rfl⟩)
  go_ret
  exact ⟨rfl, rfl⟩
set_option maxRecDepth 100000 in
theorem told_e5 (w : World) (a0 a1 a2 a3 a4 a5 : Addr) (h : LaidAt w a0 a1 a2 a3 a4 a5) :
    Calls Tryz.prog 32 #[errV a5] w fun e w' => e = .returned (.int .i64 164) ∧ w' = w := by
  obtain ⟨h0, c0, t0, b0⟩ := h.e0
  obtain ⟨h1, c1, t1, b1⟩ := h.e1
  obtain ⟨h2, c2, t2, b2⟩ := h.e2
  obtain ⟨h3, c3, t3, b3⟩ := h.e3
  obtain ⟨h4, c4, t4, b4⟩ := h.e4
  obtain ⟨h5, c5, t5, b5⟩ := h.e5
  have s0 := is_other a5 a0 c5 c0 t5 t0 w h.n50 b5 b0
  have s1 := is_other a5 a1 c5 c1 t5 t1 w h.n51 b5 b1
  have s2 := is_other a5 a2 c5 c2 t5 t2 w h.n52 b5 b2
  have s3 := is_other a5 a3 c5 c3 t5 t3 w h.n53 b5 b3
  have s4 := is_other a5 a4 c5 c4 t5 t4 w h.n54 b5 b4
  have s5 := is_same a5 w
  clear b0 b1 b2 b3 b4 b5 h
  unfold errV at *
  go_enter Tryz.func32, Tryz.ntmps32
  go_wp2_with (go_at_call 44; (first | (with_reducible refine s0.mono ?_) | (with_reducible refine s1.mono ?_) | (with_reducible refine s2.mono ?_) | (with_reducible refine s3.mono ?_) | (with_reducible refine s4.mono ?_) | (with_reducible refine s5.mono ?_)); rintro e w' ⟨rfl, rfl⟩)
  go_ret
  exact ⟨rfl, rfl⟩
set_option maxRecDepth 100000 in
theorem told_nil (w : World) (a0 a1 a2 a3 a4 a5 : Addr) (h : LaidAt w a0 a1 a2 a3 a4 a5) :
    Calls Tryz.prog 32 #[.nilIface] w fun e w' => e = .returned (.int .i64 0) ∧ w' = w := by
  obtain ⟨h0, c0, t0, b0⟩ := h.e0
  obtain ⟨h1, c1, t1, b1⟩ := h.e1
  obtain ⟨h2, c2, t2, b2⟩ := h.e2
  obtain ⟨h3, c3, t3, b3⟩ := h.e3
  obtain ⟨h4, c4, t4, b4⟩ := h.e4
  obtain ⟨h5, c5, t5, b5⟩ := h.e5
  have s0 := is_nil a0 w
  have s1 := is_nil a1 w
  have s2 := is_nil a2 w
  have s3 := is_nil a3 w
  have s4 := is_nil a4 w
  have s5 := is_nil a5 w
  clear b0 b1 b2 b3 b4 b5 h
  unfold errV at *
  go_enter Tryz.func32, Tryz.ntmps32
  go_wp2_with (go_at_call 44; (first | (with_reducible refine s0.mono ?_) | (with_reducible refine s1.mono ?_) | (with_reducible refine s2.mono ?_) | (with_reducible refine s3.mono ?_) | (with_reducible refine s4.mono ?_) | (with_reducible refine s5.mono ?_)); rintro e w' ⟨rfl, rfl⟩)
  go_ret
  exact ⟨rfl, rfl⟩
end Go.Proofs.YtaknknfcikdjiaaGreatDoor.Hand
end
section
namespace Go.Proofs.YtaknknfcikdjiaaGreatDoor.Hand
open Go.RowKit
theorem dig_len : ∀ k u : Nat, u < 10 ^ (k + 1) → (Lib.decDigits u).length ≤ k + 1 := by
  intro k
  induction k with
  | zero =>
    intro u hu
    rw [Lib.decDigits, dif_pos (by omega)]
    simp
  | succ k ih =>
    intro u hu
    rw [Lib.decDigits]
    split
    · simp
    · have := ih (u / 10) (by rw [Nat.pow_succ] at hu; omega)
      simp
      omega
theorem itoa_dig (a : Int) (h : 0 ≤ a) : Lib.itoa a = Lib.decDigits a.toNat := by
  unfold Lib.itoa
  rw [if_neg (by omega)]
theorem restDtn_data (a1 a2 : ByteArray) : (restDtn a1 a2).data.toList = [47, 47] ++ (a1.data.toList ++ 47 :: a2.data.toList) := by
  unfold restDtn
  simp [ByteArray.data_append]
theorem restIpn_data (a3 a4 : Int) : (restIpn a3 a4).data.toList = Lib.itoa a3 ++ 46 :: Lib.itoa a4 := by
  unfold restIpn txt
  simp [ByteArray.data_append]
theorem right_num {n : Int} {a1 a2 : ByteArray} {a3 a4 : Int} (h : rightS n a1 a2 a3 a4 = true) : n = 0 ∨ n = 1 ∨ n = 2 := by
  unfold rightS at h
  by_cases h0 : n = 0
  · exact .inl h0
  · by_cases h1 : n = 1
    · exact .inr (.inl h1)
    · by_cases h2 : n = 2
      · exact .inr (.inr h2)
      · rw [if_neg h0, if_neg h1, if_neg h2] at h
        cases h
end Go.Proofs.YtaknknfcikdjiaaGreatDoor.Hand
end
section
namespace Go.Proofs.YtaknknfcikdjiaaGreatDoor.Hand
open Go.RowKit Go.Proofs.YtaknknfcikdjiaaGreatDoor.SA
theorem mn_len (n : Nat) (k : Int) (hk : 0 ≤ k) : 0 ≤ YtaknknfcikdjiaaGreatDoorW.PrintWords.mn n k ∧ YtaknknfcikdjiaaGreatDoorW.PrintWords.mn n k ≤ n ∧ YtaknknfcikdjiaaGreatDoorW.PrintWords.mn n k ≤ k := by
  unfold YtaknknfcikdjiaaGreatDoorW.PrintWords.mn
  split <;> omega
theorem Cut_is (a0 : Int) (a1 a2 : ByteArray) (a3 a4 : Int) : ∃ b1 b2 : ByteArray, postriderlaw06_Cut.f a0 a1 a2 a3 a4 = some (a0, b1, b2, a3, a4) ∧ b1.size ≤ 21 ∧ b2.size ≤ 21 := by
  obtain ⟨h1, h2, h3⟩ := mn_len a1.size 21 (by decide)
  obtain ⟨k1, k2, k3⟩ := mn_len a2.size 21 (by decide)
  unfold postriderlaw06_Cut.f
  rw [if_pos h1, if_pos h2, if_pos k1, if_pos k2]
  refine ⟨_, _, rfl, ?_, ?_⟩
  · rw [ByteArray.size_extract]; omega
  · rw [ByteArray.size_extract]; omega
theorem rest_size {n : Int} {a1 a2 : ByteArray} {a3 a4 : Int} (h : rightS n a1 a2 a3 a4 = true) : (restS n a1 a2 a3 a4).size ≤ 43 := by
  rcases right_num h with rfl | rfl | rfl
  · show wNone.size ≤ 43
    decide
  · obtain ⟨_, hp, hq, h3, h4⟩ := right_dtn h
    have := partS_size hp
    have := partS_size hq
    show (restDtn a1 a2).size ≤ 43
    have e : (restDtn a1 a2).size = (restDtn a1 a2).data.toList.length := (Array.length_toList ..).symm
    rw [e, restDtn_data]
    simp only [List.length_append, List.length_cons, List.length_nil, Array.length_toList]
    show 2 + (a1.size + (a2.size + 1)) ≤ 43
    omega
  · obtain ⟨h1, h2, h3, h3', h4, h4'⟩ := right_ipn h
    show (restIpn a3 a4).size ≤ 43
    have e : (restIpn a3 a4).size = (restIpn a3 a4).data.toList.length := (Array.length_toList ..).symm
    rw [e, restIpn_data, itoa_dig a3 (by omega), itoa_dig a4 h4]
    have := dig_len 8 a3.toNat (by omega)
    have := dig_len 8 a4.toNat (by omega)
    simp only [List.length_append, List.length_cons]
    omega
theorem word_size (n : Int) : (wordS n).size = 3 := by unfold wordS; split <;> decide
theorem Halves_is (n : Int) (a1 a2 : ByteArray) (a3 a4 : Int) (h1 : a1.size ≤ maxLen) (h2 : a2.size ≤ maxLen) : eid_Halves.f n a1 a2 a3 a4 = some (halvesS n a1 a2 a3 a4) := by
  unfold eid_Halves.f; rw [if_pos ⟨h1, h2⟩]
end Go.Proofs.YtaknknfcikdjiaaGreatDoor.Hand
end
section
namespace Go.Proofs.YtaknknfcikdjiaaGreatDoor.Hand
open Go.ChangeShapes Go.WideShapes Go.ChangeAt Go.RowKit
theorem own : ownKnob Tryz.prog.godebug = none := by kernel_rfl
abbrev laid5 : List (String × DataW Unit) := [("math/bits.deBruijn32tab", Rows.laid_math_bits_deBruijn32tab), ("math/bits.deBruijn64tab", Rows.laid_math_bits_deBruijn64tab), ("internal/strconv.uint64pow10", Rows.laid_internal_strconv_uint64pow10), ("strconv.ErrRange", Rows.laid_strconv_ErrRange), ("strconv.ErrSyntax", Rows.laid_strconv_ErrSyntax), ("postrider/route.errRoutes", Rows.laid_postrider_route_errRoutes), ("postrider/route.errEid", Rows.laid_postrider_route_errEid), ("postrider/route.errDenied", Rows.laid_postrider_route_errDenied), ("postrider/route.errSize", Rows.laid_postrider_route_errSize), ("postrider/route.errLife", Rows.laid_postrider_route_errLife), ("postrider/route.errNone", Rows.laid_postrider_route_errNone)]
theorem gErrRange : Tryz.prog.globalNamed "strconv.ErrRange" = some 9 := by kernel_rfl
theorem gErrSyntax : Tryz.prog.globalNamed "strconv.ErrSyntax" = some 8 := by kernel_rfl
theorem tyTab : (Tryz.prog.globals[7]?).map (·.type) = some 148 := by kernel_rfl
theorem tyRange : (Tryz.prog.globals[9]?).map (·.type) = some 58 := by kernel_rfl
theorem tySyntax : (Tryz.prog.globals[8]?).map (·.type) = some 58 := by kernel_rfl
theorem star : "*errors.errorString" = "*" ++ "errors.errorString" := by decide
theorem name_row (u : TypeId) (h : Tryz.prog.typeName? 3 u = some "*errors.errorString") : u = 163 :=
  typeName_ptr_named (nm := "errors.errorString") (by rw [← star]; kernel_rfl) (by kernel_rfl) (by decide) u (by rw [← star]; exact h)
theorem sentinel1 {P : Program} {n nm : String} {text : List UInt8} {r : List (String × DataW Unit)} {W : World} {g : Nat} {ti tp te ts : TypeId} {ms : Array (String × TypeId)} {f : Field}
    (h : laidMet P ((n, .iface nm (.ptr (.agg [.lit (.string text)]))) :: r) W)
    (hg : P.globalNamed n = some g) (ht : (P.globals[g]?).map (·.type) = some ti) (hi : P.underlying ti = some (.interface ms)) (hrow : ∀ u, P.typeName? 3 u = some nm → u = tp)
    (hp : P.underlying tp = some (.pointer te)) (he : P.underlying te = some (.struct #[f])) (hft : f.type = ts) (hfo : f.offset = 0) (hs : P.underlying ts = some .string) (hc : P.cellsOf te = 1) (hcs : P.cellsOf ts = 1) :
    ∃ (a : Addr) (s : ByteArray), W.cell? ⟨g, 0, none⟩ = some (.iface tp (.pointer (some a))) ∧ W.cell? a = some (.string s) ∧ s.data.toList = text ∧ ∃ c t, W.heap[a.block]? = some (.cells c t (0, 0)) := by
  obtain ⟨ps, ⟨g0', t0', cs0, f0, p0, q0, hg0', ht0', hv0, hd0, _, e0⟩, hnd, hrows⟩ := h
  obtain rfl := Option.some.inj (hg.symm.trans hg0')
  obtain rfl := Option.some.inj (ht.symm.trans ht0')
  subst e0
  obtain ⟨l0⟩ := cs0
  have ok0 : ∀ u v, l0 = [.iface u v] → Value.okWide P W .any 0 u v := fun u v e => by
    subst e
    exact (hrows g 0 (by simp [MemPlace.row])).2 u v (by simpa using World.var?_cell hg0' hv0 0)
  obtain ⟨a0, s0, rfl, hc0, hs0, hz0, rfl⟩ := errorString_of_trod hi hrow hp he hft hfo hs hc hcs hd0 ok0
  obtain ⟨c0, t0, hb0⟩ := (hrows a0.block a0.off (by simp [MemPlace.row])).1
  exact ⟨a0, s0, World.var?_cell hg0' hv0 0, hc0, hs0, c0, t0, hb0⟩
theorem gerrRoutes : Tryz.prog.globalNamed "postrider/route.errRoutes" = some 0 := by kernel_rfl
theorem tyerrRoutes : (Tryz.prog.globals[0]?).map (·.type) = some 58 := by kernel_rfl
theorem gerrEid : Tryz.prog.globalNamed "postrider/route.errEid" = some 1 := by kernel_rfl
theorem tyerrEid : (Tryz.prog.globals[1]?).map (·.type) = some 58 := by kernel_rfl
theorem gerrDenied : Tryz.prog.globalNamed "postrider/route.errDenied" = some 2 := by kernel_rfl
theorem tyerrDenied : (Tryz.prog.globals[2]?).map (·.type) = some 58 := by kernel_rfl
theorem gerrSize : Tryz.prog.globalNamed "postrider/route.errSize" = some 3 := by kernel_rfl
theorem tyerrSize : (Tryz.prog.globals[3]?).map (·.type) = some 58 := by kernel_rfl
theorem gerrLife : Tryz.prog.globalNamed "postrider/route.errLife" = some 4 := by kernel_rfl
theorem tyerrLife : (Tryz.prog.globals[4]?).map (·.type) = some 58 := by kernel_rfl
theorem gerrNone : Tryz.prog.globalNamed "postrider/route.errNone" = some 5 := by kernel_rfl
theorem tyerrNone : (Tryz.prog.globals[5]?).map (·.type) = some 58 := by kernel_rfl
theorem addr_ne {W : World} {a b : Addr} {s t : ByteArray} (ha : W.cell? a = some (.string s)) (hb : W.cell? b = some (.string t)) (h : s.data.toList ≠ t.data.toList) : a ≠ b := fun e => by
  subst e
  rw [ha] at hb
  injection hb with hb
  injection hb with hb
  exact h (by rw [hb])
theorem laid_of {W : World} (h : laidMetH Tryz.prog laid5 W) (hsh : W.ShapedOpen Tryz.prog) : LaidR W := by
  rw [MakeChecks.laidMetH_plain _ _ _ (by kernel_rfl)] at h
  have h2 := h.tail.tail
  have h3 := h2.tail
  have h4 := h3.tail
  have h5 := h4.tail
  have h6 := h5.tail
  have h7 := h6.tail
  have h8 := h7.tail
  have h9 := h8.tail
  have h10 := h9.tail
  obtain ⟨a3, s3, hv3, _⟩ := sentinel1 h3 gErrRange tyRange Tryz.underlying58 name_row Tryz.underlying163 Tryz.underlying165 rfl rfl Tryz.underlying9 (by kernel_rfl) (by kernel_rfl)
  obtain ⟨a4, s4, hv4, _⟩ := sentinel1 h4 gErrSyntax tySyntax Tryz.underlying58 name_row Tryz.underlying163 Tryz.underlying165 rfl rfl Tryz.underlying9 (by kernel_rfl) (by kernel_rfl)
  obtain ⟨b0, t0, hv_0, hc_0, hs_0, hb_0⟩ := sentinel1 h5 gerrRoutes tyerrRoutes Tryz.underlying58 name_row Tryz.underlying163 Tryz.underlying165 rfl rfl Tryz.underlying9 (by kernel_rfl) (by kernel_rfl)
  obtain ⟨b1, t1, hv_1, hc_1, hs_1, hb_1⟩ := sentinel1 h6 gerrEid tyerrEid Tryz.underlying58 name_row Tryz.underlying163 Tryz.underlying165 rfl rfl Tryz.underlying9 (by kernel_rfl) (by kernel_rfl)
  obtain ⟨b2, t2, hv_2, hc_2, hs_2, hb_2⟩ := sentinel1 h7 gerrDenied tyerrDenied Tryz.underlying58 name_row Tryz.underlying163 Tryz.underlying165 rfl rfl Tryz.underlying9 (by kernel_rfl) (by kernel_rfl)
  obtain ⟨b3, t3, hv_3, hc_3, hs_3, hb_3⟩ := sentinel1 h8 gerrSize tyerrSize Tryz.underlying58 name_row Tryz.underlying163 Tryz.underlying165 rfl rfl Tryz.underlying9 (by kernel_rfl) (by kernel_rfl)
  obtain ⟨b4, t4, hv_4, hc_4, hs_4, hb_4⟩ := sentinel1 h9 gerrLife tyerrLife Tryz.underlying58 name_row Tryz.underlying163 Tryz.underlying165 rfl rfl Tryz.underlying9 (by kernel_rfl) (by kernel_rfl)
  obtain ⟨b5, t5, hv_5, hc_5, hs_5, hb_5⟩ := sentinel1 h10 gerrNone tyerrNone Tryz.underlying58 name_row Tryz.underlying163 Tryz.underlying165 rfl rfl Tryz.underlying9 (by kernel_rfl) (by kernel_rfl)
  exact {
    laid := {
      max := cell_of_shapedOpen_int (zero := #[.int .i64 0]) (t := 3) hsh (of_decide_eq_true (by kernel_rfl)) (by kernel_rfl) rfl (by kernel_rfl) (by kernel_rfl) Tryz.underlying3
      tab := Lib.tabIs_of_head gTab tyTab Tryz.underlying148 Tryz.underlying133 (by kernel_rfl) (by kernel_rfl) h2
      syn := ⟨_, _, hv4⟩
      rng := ⟨_, _, hv3⟩ }
    errs := ⟨b0, b1, b2, b3, b4, b5, { e0 := ⟨hv_0, hb_0⟩, e1 := ⟨hv_1, hb_1⟩, e2 := ⟨hv_2, hb_2⟩, e3 := ⟨hv_3, hb_3⟩, e4 := ⟨hv_4, hb_4⟩, e5 := ⟨hv_5, hb_5⟩, n10 := addr_ne hc_1 hc_0 (by rw [hs_1, hs_0]; decide), n20 := addr_ne hc_2 hc_0 (by rw [hs_2, hs_0]; decide), n21 := addr_ne hc_2 hc_1 (by rw [hs_2, hs_1]; decide), n30 := addr_ne hc_3 hc_0 (by rw [hs_3, hs_0]; decide), n31 := addr_ne hc_3 hc_1 (by rw [hs_3, hs_1]; decide), n32 := addr_ne hc_3 hc_2 (by rw [hs_3, hs_2]; decide), n40 := addr_ne hc_4 hc_0 (by rw [hs_4, hs_0]; decide), n41 := addr_ne hc_4 hc_1 (by rw [hs_4, hs_1]; decide), n42 := addr_ne hc_4 hc_2 (by rw [hs_4, hs_2]; decide), n43 := addr_ne hc_4 hc_3 (by rw [hs_4, hs_3]; decide), n50 := addr_ne hc_5 hc_0 (by rw [hs_5, hs_0]; decide), n51 := addr_ne hc_5 hc_1 (by rw [hs_5, hs_1]; decide), n52 := addr_ne hc_5 hc_2 (by rw [hs_5, hs_2]; decide), n53 := addr_ne hc_5 hc_3 (by rw [hs_5, hs_3]; decide), n54 := addr_ne hc_5 hc_4 (by rw [hs_5, hs_4]; decide) }⟩ }
theorem door_met (os : Os) (args : Array Value) : laidMetH Tryz.prog laid5 ((World.doorLaid Tryz.prog 400 os).forCall (fun _ _ => 0) ⟨#[], args, []⟩).memory :=
  laidMetH_of_parts3 (fuel := 8) (laidMet_of_run' 8 (by kernel_rfl) (by kernel_rfl)) (by kernel_rfl) (by kernel_rfl)
section
variable {H : Type} {enc : TypeId × Value → H} {W : World} {base : Nat} {spare : Nat → Bool} {held : Bool}
theorem arr5 {cs : Array Value} (h : cs.size = 5) : ∃ c0 c1 c2 c3 c4, cs = #[c0, c1, c2, c3, c4] := by
  obtain ⟨l⟩ := cs
  match l, h with
  | [c0, c1, c2, c3, c4], _ => exact ⟨c0, c1, c2, c3, c4, rfl⟩
theorem cellsEid : Tryz.prog.cellsOf 37 = 5 := by kernel_rfl
theorem cellsStr : Tryz.prog.cellsOf 9 = 1 := by kernel_rfl
theorem cellsInt : Tryz.prog.cellsOf 3 = 1 := by kernel_rfl
set_option maxRecDepth 100000 in
theorem shut_eid (n : Int) (a1 a2 : ByteArray) (a3 a4 : Int) (w0 : (Lit.int .i64 n).wf = true) (s1 : a1.size ≤ maxLen) (s2 : a2.size ≤ maxLen) (w3 : (Lit.int .i64 a3).wf = true) (w4 : (Lit.int .i64 a4).wf = true) :
    DataW.Trod enc Tryz.prog W base spare held 37 (.agg #[.int .i64 n, .string a1, .string a2, .int .i64 a3, .int .i64 a4])
      (.agg [.lit (.int .i64 n), .lit (.string a1.data.toList), .lit (.string a2.data.toList), .lit (.int .i64 a3), .lit (.int .i64 a4)]) [] := by
  refine ⟨2, ?_⟩
  simp [DataW.trod, Value.cells, Tryz.underlying37, Tryz.underlying3, Tryz.underlying9, cellsEid, cellsStr, cellsInt, w0, s1, s2, w3, w4]
set_option maxRecDepth 100000 in
theorem open_eid {r : Reach} {b0 : Nat} {v : Value} {d : DataW H} {p : List MemPlace} (hv : Value.okWide Tryz.prog W r b0 37 v) (h : DataW.Trod enc Tryz.prog W base spare held 37 v d p) :
    ∃ (n : Int) (a1 a2 : ByteArray) (a3 a4 : Int), v = .agg #[.int .i64 n, .string a1, .string a2, .int .i64 a3, .int .i64 a4] ∧
      d = .agg [.lit (.int .i64 n), .lit (.string a1.data.toList), .lit (.string a2.data.toList), .lit (.int .i64 a3), .lit (.int .i64 a4)] ∧ p = [] ∧
      (Lit.int .i64 n).wf = true ∧ a1.size ≤ maxLen ∧ a2.size ≤ maxLen ∧ (Lit.int .i64 a3).wf = true ∧ (Lit.int .i64 a4).wf = true := by
  obtain ⟨cs, rfl, hsz⟩ := okWide_struct Tryz.underlying37 hv
  obtain ⟨c0, c1, c2, c3, c4, rfl⟩ := arr5 (hsz.trans cellsEid)
  obtain ⟨fuel, hf⟩ := h
  obtain ⟨xs, n, _, hx, hl, hlen, hg⟩ := DataW.trod_struct Tryz.underlying37 hf
  match xs, hlen with
  | [y0, y1, y2, y3, y4], _ =>
    simp only [Prod.mk.injEq] at hx
    obtain ⟨hd, hp⟩ := hx
    have g0 : DataW.trod enc Tryz.prog W base spare held n 3 [c0] = some y0 := by have := hg 0 _ rfl; simpa [Value.cells, cellsInt, cellsStr] using this
    have g1 : DataW.trod enc Tryz.prog W base spare held n 9 [c1] = some y1 := by have := hg 1 _ rfl; simpa [Value.cells, cellsInt, cellsStr] using this
    have g2 : DataW.trod enc Tryz.prog W base spare held n 9 [c2] = some y2 := by have := hg 2 _ rfl; simpa [Value.cells, cellsInt, cellsStr] using this
    have g3 : DataW.trod enc Tryz.prog W base spare held n 3 [c3] = some y3 := by have := hg 3 _ rfl; simpa [Value.cells, cellsInt, cellsStr] using this
    have g4 : DataW.trod enc Tryz.prog W base spare held n 3 [c4] = some y4 := by have := hg 4 _ rfl; simpa [Value.cells, cellsInt, cellsStr] using this
    obtain ⟨m0, e0, x0, w0⟩ := DataW.trod_int Tryz.underlying3 g0
    obtain ⟨m1, e1, x1, w1⟩ := DataW.trod_string Tryz.underlying9 g1
    obtain ⟨m2, e2, x2, w2⟩ := DataW.trod_string Tryz.underlying9 g2
    obtain ⟨m3, e3, x3, w3⟩ := DataW.trod_int Tryz.underlying3 g3
    obtain ⟨m4, e4, x4, w4⟩ := DataW.trod_int Tryz.underlying3 g4
    simp only [List.cons.injEq, and_true] at e0 e1 e2 e3 e4
    subst e0 e1 e2 e3 e4 x0 x1 x2 x3 x4
    exact ⟨m0, m1, m2, m3, m4, rfl, by rw [hd]; rfl, by rw [hp]; rfl, w0, w1, w2, w3, w4⟩
end
end Go.Proofs.YtaknknfcikdjiaaGreatDoor.Hand
end
section
namespace Go.Proofs.YtaknknfcikdjiaaGreatDoor.RK
open Go.Proofs.YtaknknfcikdjiaaGreatDoor.Hand
open Go.Proofs.YtaknknfcikdjiaaGreatDoor.SA
open Go.RowKit Go.Proofs.YtaknknfcikdjiaaGreatDoorW.PrintWords Go.Proofs.YtaknknfcikdjiaaGreatDoorW.PrintLast Go.Proofs.YtaknknfcikdjiaaGreatDoorW.PrintMore
attribute [local go_sem] max2_int min2_int max_two min_two max_three min_three max_four min_four
set_option linter.unusedVariables false
set_option linter.unusedSimpArgs false
def errW : Option Int → Value
  | none => .nilIface
  | some c => .iface 0 (.int .i64 c)
theorem errW_none : errW none = .nilIface := rfl
theorem errW_some (c : Int) : errW (some c) = .iface 0 (.int .i64 c) := rfl
theorem info9 : (Tryz.prog.info? 9).map (fun i => (i.zero, i.size, i.bytes)) = some (some (.string ⟨#[]⟩), 1, 16) := by kernel_rfl
theorem info35 : (Tryz.prog.info? 35).map (fun i => (i.zero, i.size, i.bytes)) = some (some (.agg #[(.string ⟨#[]⟩), (.int .i64 0)]), 2, 24) := by kernel_rfl
theorem info37 : (Tryz.prog.info? 37).map (fun i => (i.zero, i.size, i.bytes)) = some (some (.agg #[(.int .i64 0), (.string ⟨#[]⟩), (.string ⟨#[]⟩), (.int .i64 0), (.int .i64 0)]), 5, 56) := by kernel_rfl
structure S35 where
  f0 : ByteArray
  f1 : Int
def z35 : S35 := ⟨(⟨#[]⟩ : ByteArray), (0 : Int)⟩
def k35 : Kd S35 := Kd.iso (Kd.pair Kd.string (Kd.int .i64)) (fun x : S35 => (x.f0, x.f1))
theorem k35_open {w : World} {x : S35} {cs : List Value} (h : k35.K w x cs) : cs = [.string x.f0, .int .i64 x.f1] := by
  obtain ⟨_, _, rfl, rfl, rfl⟩ := h
  exact rfl
theorem k35_mk (w : World) (x : S35)  : k35.K w x [.string x.f0, .int .i64 x.f1] := ⟨[.string x.f0], [.int .i64 x.f1], rfl, rfl, rfl⟩
theorem k35_mkM (w : World) (base : Nat) (ok : Nat → Prop) (x : S35)  : k35.M w base ok x [.string x.f0, .int .i64 x.f1] := ⟨[.string x.f0], [.int .i64 x.f1], rfl, rfl, rfl⟩
def rd_T35 (xs : List S35) (i : Int) : S35 := xs.getD i.toNat z35
theorem at_T35 {w : World} {A : Option Addr} {n : Nat} {xs : List S35} (h : Kd.C k35 w A n xs) (i : Int) (h0 : 0 ≤ i) (h1 : i < n) : ∃ ad , A = some ad ∧ w.cell? (ad.add (i.toNat * 2)) = some (.string (rd_T35 xs i).f0) ∧ w.cell? ⟨(ad.add (i.toNat * 2)).block, (ad.add (i.toNat * 2)).off + 1, none⟩ = some (.int .i64 (rd_T35 xs i).f1) := by
  obtain ⟨ad, c, e, _, hK, hc0⟩ := Kd.C_get h z35 i h0 h1
  have hc : ∀ j u, c[j]? = some u → w.cell? (ad.add (i.toNat * 2 + j)) = some u := hc0
  obtain rfl := k35_open hK
  exact ⟨ad, e, hc 0 _ rfl, by rw [← add_field _ _ 1 (by omega)]; exact hc 1 _ rfl⟩
structure S37 where
  f0 : Int
  f1 : ByteArray
  f2 : ByteArray
  f3 : Int
  f4 : Int
def z37 : S37 := ⟨(0 : Int), (⟨#[]⟩ : ByteArray), (⟨#[]⟩ : ByteArray), (0 : Int), (0 : Int)⟩
def k37 : Kd S37 := Kd.iso (Kd.pair (Kd.int .i64) (Kd.pair Kd.string (Kd.pair Kd.string (Kd.pair (Kd.int .i64) (Kd.int .i64))))) (fun x : S37 => (x.f0, x.f1, x.f2, x.f3, x.f4))
theorem k37_open {w : World} {x : S37} {cs : List Value} (h : k37.K w x cs) : cs = [.int .i64 x.f0, .string x.f1, .string x.f2, .int .i64 x.f3, .int .i64 x.f4] := by
  obtain ⟨_, _, rfl, rfl, ⟨_, _, rfl, rfl, ⟨_, _, rfl, rfl, ⟨_, _, rfl, rfl, rfl⟩⟩⟩⟩ := h
  exact rfl
theorem k37_mkM (w : World) (base : Nat) (ok : Nat → Prop) (x : S37)  : k37.M w base ok x [.int .i64 x.f0, .string x.f1, .string x.f2, .int .i64 x.f3, .int .i64 x.f4] := ⟨[.int .i64 x.f0], [.string x.f1, .string x.f2, .int .i64 x.f3, .int .i64 x.f4], rfl, rfl, ⟨[.string x.f1], [.string x.f2, .int .i64 x.f3, .int .i64 x.f4], rfl, rfl, ⟨[.string x.f2], [.int .i64 x.f3, .int .i64 x.f4], rfl, rfl, ⟨[.int .i64 x.f3], [.int .i64 x.f4], rfl, rfl, rfl⟩⟩⟩⟩
def rd_T37 (xs : List S37) (i : Int) : S37 := xs.getD i.toNat z37
theorem at_T37 {w : World} {A : Option Addr} {n : Nat} {xs : List S37} (h : Kd.C k37 w A n xs) (i : Int) (h0 : 0 ≤ i) (h1 : i < n) : ∃ ad , A = some ad ∧ w.cell? (ad.add (i.toNat * 5)) = some (.int .i64 (rd_T37 xs i).f0) ∧ w.cell? ⟨(ad.add (i.toNat * 5)).block, (ad.add (i.toNat * 5)).off + 1, none⟩ = some (.string (rd_T37 xs i).f1) ∧ w.cell? ⟨(ad.add (i.toNat * 5)).block, (ad.add (i.toNat * 5)).off + 2, none⟩ = some (.string (rd_T37 xs i).f2) ∧ w.cell? ⟨(ad.add (i.toNat * 5)).block, (ad.add (i.toNat * 5)).off + 3, none⟩ = some (.int .i64 (rd_T37 xs i).f3) ∧ w.cell? ⟨(ad.add (i.toNat * 5)).block, (ad.add (i.toNat * 5)).off + 4, none⟩ = some (.int .i64 (rd_T37 xs i).f4) := by
  obtain ⟨ad, c, e, _, hK, hc0⟩ := Kd.C_get h z37 i h0 h1
  have hc : ∀ j u, c[j]? = some u → w.cell? (ad.add (i.toNat * 5 + j)) = some u := hc0
  obtain rfl := k37_open hK
  exact ⟨ad, e, hc 0 _ rfl, by rw [← add_field _ _ 1 (by omega)]; exact hc 1 _ rfl, by rw [← add_field _ _ 2 (by omega)]; exact hc 2 _ rfl, by rw [← add_field _ _ 3 (by omega)]; exact hc 3 _ rfl, by rw [← add_field _ _ 4 (by omega)]; exact hc 4 _ rfl⟩
end Go.Proofs.YtaknknfcikdjiaaGreatDoor.RK
end
section
namespace Go.Proofs.YtaknknfcikdjiaaGreatDoor.Hand
open Go.RowKit Go.Proofs.YtaknknfcikdjiaaGreatDoorW Go.Proofs.YtaknknfcikdjiaaGreatDoorW.PrintWords Go.Proofs.YtaknknfcikdjiaaGreatDoor.RK
abbrev Rt := S35
abbrev kRt : Kd Rt := k35
abbrev Rt.v (x : Rt) : Value := .agg #[.string x.f0, .int .i64 x.f1]
def sds : Array MapEntry := #[⟨.int .i64 6, .bool true, 0⟩, ⟨.int .i64 7, .bool true, 1⟩]
theorem storeS (w : World) (es : Array MapEntry) (clock : Nat) (n : Int) (v : Value) (h : Instr.findNow (.int .i64) (.int .i64 n) es.toList 0 = some none) :
    (Instr.mapUpdate 86 (.map (some w.heap.size)) (.int .i64 n) v).run Tryz.prog (w.alloc (.map es clock)) = .ok () (w.alloc (.map (es.push ⟨.int .i64 n, v, clock⟩) (clock + 1))) := by
  rw [run_mapUpdate_miss (w.alloc (.map es clock)) w.heap.size es clock _ _ _ _ (.int .i64 n) v Tryz.underlying86 Tryz.underlying3 (fun e W => run_checkKey_int W _ _ Tryz.underlying3 e _ _) (World.alloc_heap_new _ _) h, putObj_alloc]
set_option maxRecDepth 100000 in
theorem sides_calls (w : World) :
    Calls Tryz.prog 46 #[] w fun e w' => e = .returned (.map (some w.heap.size)) ∧ w.alloc (.map sds 2) = w' := by
  have hmm := @run_makeMap Tryz.prog
  have h0 := storeS w #[] 0 6 (.bool true) rfl
  have h1 := storeS w #[⟨.int .i64 6, .bool true, 0⟩] 1 7 (.bool true) rfl
  simp only [List.push_toArray, List.nil_append, List.cons_append, Nat.reduceAdd] at h0 h1
  go_enter Tryz.func46, Tryz.ntmps46
  go_wp2
  go_ret
  exact ⟨rfl, rfl⟩
def isSideB (n : Int) : Bool := n == 6 || n == 7
theorem look_side (n : Int) (W : World) (b : Nat) (hb : W.heap[b]? = some (.map sds 2)) :
    (Instr.lookup 86 (.map (some b)) (.int .i64 n) false).run Tryz.prog W = .ok (.bool (isSideB n)) W := by
  by_cases h0 : n = 6
  · subst h0
    exact run_lookup_hit W b sds 2 _ _ _ _ _ (.bool true) 0 false Tryz.underlying86 Tryz.underlying3 (fun e W => run_checkKey_int W _ _ Tryz.underlying3 e _ _) hb rfl
  by_cases h1 : n = 7
  · subst h1
    exact run_lookup_hit W b sds 2 _ _ _ _ _ (.bool true) 1 false Tryz.underlying86 Tryz.underlying3 (fun e W => run_checkKey_int W _ _ Tryz.underlying3 e _ _) hb rfl
  have e0 : (n == 6) = false := beq_eq_false_iff_ne.2 h0
  have e1 : (n == 7) = false := beq_eq_false_iff_ne.2 h1
  have e : isSideB n = false := by unfold isSideB; rw [e0, e1]; rfl
  rw [e]
  refine run_lookup_miss W b sds 2 _ _ _ _ _ (.bool false) false Tryz.underlying86 Tryz.underlying3 (fun e W => run_checkKey_int W _ _ Tryz.underlying3 e _ _) hb (fun W => by kernel_rfl) ?_
  simp [sds, Instr.findNow, Instr.sameNow, e0, e1]
def otherRt (x : Rt) : Bool := decide (60 < x.f0.size) || !isSideB x.f1
def PredRt (g : Nat) (lb : Array Value) (p : Rt → Bool) (w : World) : Prop := ∀ (W : World) (x : Rt), Below w.heap.size w W → Calls Tryz.prog g (#[x.v] ++ lb) W fun e w' => e = .returned (.bool (p x)) ∧ Below w.heap.size w w'
theorem otherRt_calls (w : World) (b m : Nat) (hb : w.heap[b]? = some (.cells #[.map (some m)] 86)) (hm : w.heap[m]? = some (.map sds 2)) :
    PredRt 47 #[.pointer (some ⟨b, 0, none⟩)] otherRt w := fun W x hW => by
  have k1 := (hW.block _ (Array.getElem?_eq_some_iff.1 hb).1).trans hb
  have k2 := (hW.block _ (Array.getElem?_eq_some_iff.1 hm).1).trans hm
  have k1a := blk_alloc k1 (.cells #[.string x.f0, .int .i64 x.f1] 35)
  have k2a := (Below.heap_alloc W (.cells #[.string x.f0, .int .i64 x.f1] 35) m (Array.getElem?_eq_some_iff.1 k2).1).trans k2
  have c1 := cell_blk k1a 0
  simp at c1
  have hl := look_side x.f1 _ m k2a
  have hW' := hW.alloc hW.size (.cells #[.string x.f0, .int .i64 x.f1] 35)
  have hu := Tryz.underlying35
  have HB := Lib.hid hW'
  clear k1 k2 k1a k2a hb hm hW hW'
  unfold otherRt
  by_cases hlt : 60 < x.f0.size
  · have hz : (60 : Int) < (x.f0.size : Int) := by omega
    rw [decide_eq_true hlt, Bool.true_or]
    go_enter Tryz.func47, Tryz.ntmps47
    go_wp2
    go_ret
    exact ⟨rfl, HB.out⟩
  · have hz : ¬ (60 : Int) < (x.f0.size : Int) := by omega
    rw [decide_eq_false hlt, Bool.false_or]
    generalize isSideB x.f1 = r at *
    go_enter Tryz.func47, Tryz.ntmps47
    go_wp2
    go_ret
    exact ⟨rfl, HB.out⟩
set_option maxHeartbeats 2000000 in
theorem index_rt (g : Nat) (lb : Array Value) (p : Rt → Bool) (eg : ∀ args w, (callFunc g args).run Tryz.prog w = .ok (.enter g args) w) (A : Option Addr) (c : Nat) (l : List Rt) (w : World)
    (hp : PredRt g lb p w) (hr : Kd.C kRt w A l.length l) (hbig : l.length ≤ 9223372036854775807) :
    Calls Tryz.prog 67 #[.slice A l.length c, .func (.func g) #[] lb] w fun e w' => (∃ i : Int, e = .returned (.int .i64 i) ∧ decide (0 ≤ i) = l.any p) ∧ Below w.heap.size w w' := by
  have hu := Tryz.underlying35
  have HR := Lib.hid hr
  have HP := Lib.hid hp
  clear hr hp
  go_enter Tryz.func67, Tryz.ntmps67
  go_wp2
  go_loopg [5, 8] l.length (fun gg _ s8 wr => ∃ kk : Nat, kk ≤ l.length ∧ l.length - kk ≤ gg ∧ s8 = .int .i64 kk ∧ Hid (Below w.heap.size w wr) ∧ Hid ((l.take kk).any p = false))
  case atStart => exact ⟨0, Nat.zero_le _, by omega, rfl, Lib.hid (Below.refl _ w), Lib.hid (by simp)⟩
  case round =>
    obtain ⟨kk, hkk, hg, rfl, BW, AA⟩ := hrel
    by_cases hlt : kk < l.length
    · have hltz : (kk : Int) < (l.length : Int) := by omega
      obtain ⟨ad, hA, x0, x1⟩ := at_T35 HR.out (kk : Int) (by omega) hltz
      subst hA
      have htk : (l.take (kk + 1)).any p = ((l.take kk).any p || p (rd_T35 l (kk : Int))) := by
        unfold rd_T35
        rw [List.getD_eq_getElem?_getD, Int.toNat_natCast, List.getElem?_eq_getElem hlt, List.take_succ_eq_append_getElem hlt, List.any_append]
        simp only [List.any_cons, List.any_nil, Bool.or_false, Option.getD_some]
      have hcall := HP.out wr (rd_T35 l (kk : Int)) BW.out
      generalize rd_T35 l (kk : Int) = y at *
      have HT := Lib.hid htk
      clear htk
      simp only [Int.toNat_natCast] at x0 x1
      replace x0 := (BW.out.cell (World.block_lt_of_cell? w _ x0)).trans x0
      replace x1 := (BW.out.cell (World.block_lt_of_cell? w _ x1)).trans x1
      cases hq : p y with
      | true =>
        rw [hq] at hcall
        go_wp2_with (go_at_fn g; refine hcall.mono ?_; rintro e w' ⟨rfl, hb'⟩)
        go_ret
        refine ⟨⟨_, rfl, ?_⟩, hb'⟩
        rw [show l.any p = true from ?_]
        · simp
        · have h1 : (l.take (kk + 1)).any p = true := by rw [HT.out, hq]; simp
          rw [← List.take_append_drop (kk + 1) l, List.any_append, h1]
          rfl
      | false =>
        rw [hq] at hcall
        go_wp2_with (go_at_fn g; refine hcall.mono ?_; rintro e w' ⟨rfl, hb'⟩)
        go_roundg (l.length - (kk + 1))
        case measure => omega
        case rel => exact ⟨kk + 1, by omega, by omega, by go_num, Lib.hid hb', Lib.hid (by rw [HT.out, hq, AA.out]; rfl)⟩
    · have hltz : ¬ (kk : Int) < (l.length : Int) := by omega
      have hk : kk = l.length := by omega
      subst hk
      go_wp2
      go_ret
      refine ⟨⟨_, rfl, ?_⟩, BW.out⟩
      have := AA.out
      rw [List.take_length] at this
      rw [this]
      rfl
theorem contains_rt (g : Nat) (lb : Array Value) (p : Rt → Bool) (eg : ∀ args w, (callFunc g args).run Tryz.prog w = .ok (.enter g args) w) (A : Option Addr) (c : Nat) (l : List Rt) (w : World)
    (hp : PredRt g lb p w) (hr : Kd.C kRt w A l.length l) (hbig : l.length ≤ 9223372036854775807) :
    Calls Tryz.prog 48 #[.slice A l.length c, .func (.func g) #[] lb] w fun e w' => e = .returned (.bool (l.any p)) ∧ Below w.heap.size w w' := by
  have hI := index_rt g lb p eg A c l w hp hr hbig
  clear hp hr
  go_enter Tryz.func48, Tryz.ntmps48
  go_wp2_with (go_at_call 67; refine hI.mono ?_; rintro e w' ⟨⟨i, rfl, hi⟩, hb'⟩)
  all_goals (go_ret; refine ⟨?_, hb'⟩; rw [← hi]; simp_all)
def rightRt (l : List Rt) : Bool := decide (l.length ≤ 20) && !l.any otherRt
theorem alloc3w (w : World) (o0 o1 o2 : Obj) : (((w.alloc o0).alloc o1).alloc o2).heap.size = w.heap.size + 3 ∧ (((w.alloc o0).alloc o1).alloc o2).heap[w.heap.size + 1]? = some o1 ∧ (((w.alloc o0).alloc o1).alloc o2).heap[w.heap.size + 1 + 1]? = some o2 := by
  have h1 := World.alloc_heap_new (w.alloc o0) o1
  have h2 := World.alloc_heap_new ((w.alloc o0).alloc o1) o2
  simp only [World.size_alloc] at h1 h2
  exact ⟨by simp, (Below.heap_alloc _ _ _ (by simp)).trans h1, h2⟩
set_option maxRecDepth 100000 in
theorem areRight_calls (A : Option Addr) (c : Nat) (l : List Rt) (w : World) (hr : Kd.C kRt w A l.length l) :
    Calls Tryz.prog 36 #[.agg #[.slice A l.length c]] w fun e w' => e = .returned (.bool (rightRt l)) ∧ Below w.heap.size w w' := by
  have hu := Tryz.underlying63
  obtain ⟨w3, hw3⟩ : ∃ w3, w3 = ((w.alloc (.cells #[.slice A l.length c] 63)).alloc (.map sds 2)).alloc (.cells #[.map (some (w.heap.size + 1))] 86) := ⟨_, rfl⟩
  obtain ⟨hs3, hm, hb⟩ := alloc3w w (.cells #[.slice A l.length c] 63) (.map sds 2) (.cells #[.map (some (w.heap.size + 1))] 86)
  rw [← hw3] at hs3 hm hb
  have hB3 : Below w.heap.size w w3 := by rw [hw3]; exact b_alloc (b_alloc (b_alloc (Below.refl _ _) _) _) _
  have eg := Go.Proofs.enters_of Tryz.func47 (by kernel_rfl) rfl
  have hC := contains_rt 47 _ otherRt eg A c l w3 (otherRt_calls w3 _ _ hb hm) (Kd.C_below hr hB3) (Nat.le_trans hr.2.1 (by decide))
  unfold rightRt
  have HB3 := Lib.hid hB3
  have HW3 := Lib.hid hw3
  clear hr hm hb hB3
  rw [hw3] at hC
  by_cases h20 : l.length ≤ 20
  · have hz : (l.length : Int) ≤ 20 := by omega
    rw [decide_eq_true h20, Bool.true_and]
    generalize l.any otherRt = r at *
    go_enter Tryz.func36, Tryz.ntmps36
    go_wp2_with (first | (go_at_call 46; refine (sides_calls _).mono ?_; rintro e w' ⟨rfl, rfl⟩) | (go_at_call 48; simp only [World.size_alloc] at *; go_loud (refine hC.mono ?_); rintro e w' ⟨rfl, hb'⟩))
    go_ret
    exact ⟨rfl, by rw [← HW3.out] at hb'; exact HB3.out.trans (hb'.mono (by omega))⟩
  · have hz : ¬ (l.length : Int) ≤ 20 := by omega
    rw [decide_eq_false h20, Bool.false_and]
    go_enter Tryz.func36, Tryz.ntmps36
    go_wp2_with (go_at_call 46; refine (sides_calls _).mono ?_; rintro e w' ⟨rfl, rfl⟩)
    go_ret
    exact ⟨rfl, b_alloc (b_alloc (b_alloc (Below.refl _ _) _) _) _⟩
theorem route_Right_calls0 (A : Option Addr) (c : Nat) (l : List Rt) (w : World) (hr : Kd.C kRt w A l.length l) :
    Calls Tryz.prog 25 #[.slice A l.length c] w fun e w' => e = .returned (.bool (rightRt l)) ∧ Below w.heap.size w w' := by
  have hu := Tryz.underlying63
  have hC := areRight_calls A c l w hr
  clear hr
  generalize rightRt l = r at *
  go_enter Tryz.func25, Tryz.ntmps25
  go_wp2_with (go_at_call 36; refine hC.mono ?_; rintro e w' ⟨rfl, hb'⟩)
  go_ret
  exact ⟨rfl, hb'⟩
end Go.Proofs.YtaknknfcikdjiaaGreatDoor.Hand
end
section
namespace Go.Proofs.YtaknknfcikdjiaaGreatDoor.Hand
theorem rev_ind {α : Type} {P : List α → Prop} (h0 : P []) (h1 : ∀ l x, P l → P (l ++ [x])) (l : List α) : P l := by
  have : ∀ r : List α, P r.reverse := by
    intro r
    induction r with
    | nil => exact h0
    | cons x r ih => rw [List.reverse_cons]; exact h1 _ _ ih
  rw [← l.reverse_reverse]
  exact this _
section
variable {α : Type} (key : α → Int)
def putL : List α → α → List α
  | [], x => [x]
  | y :: r, x => if key y < key x then y :: putL r x else x :: y :: r
def putR (A : List α) (x : α) : List α := (putL key A.reverse x).reverse
def sortR (l : List α) : List α := l.foldl (putR key) []
theorem putR_nil (x : α) : putR key [] x = [x] := rfl
theorem putR_lt (A : List α) (y x : α) (h : key y < key x) : putR key (A ++ [y]) x = putR key A x ++ [y] := by
  unfold putR
  rw [List.reverse_append]
  show (putL key (y :: A.reverse) x).reverse = _
  rw [putL, if_pos h, List.reverse_cons]
theorem putR_ge (A : List α) (y x : α) (h : ¬ key y < key x) : putR key (A ++ [y]) x = A ++ [y] ++ [x] := by
  unfold putR
  rw [List.reverse_append]
  show (putL key (y :: A.reverse) x).reverse = _
  rw [putL, if_neg h, List.reverse_cons, List.reverse_cons, List.reverse_reverse]
theorem putR_len (A : List α) (x : α) : (putR key A x).length = A.length + 1 := by
  unfold putR
  rw [List.length_reverse]
  have : ∀ r : List α, (putL key r x).length = r.length + 1 := by
    intro r
    induction r with
    | nil => rfl
    | cons y r ih => rw [putL]; split <;> simp [ih]
  rw [this, List.length_reverse]
end
end Go.Proofs.YtaknknfcikdjiaaGreatDoor.Hand
end
section
namespace Go.Proofs.YtaknknfcikdjiaaGreatDoor.Hand
theorem putR_head {α : Type} (key : α → Int) (A : List α) (x : α) : (putR key A x).head? = some x ∨ (A ≠ [] ∧ (putR key A x).head? = A.head?) := by
  refine rev_ind (P := fun A => (putR key A x).head? = some x ∨ (A ≠ [] ∧ (putR key A x).head? = A.head?)) (.inl rfl) (fun A y ih => ?_) A
  by_cases h : key y < key x
  · rw [putR_lt key A y x h]
    rcases ih with ih | ⟨h1, h2⟩
    · exact .inl (by rw [List.head?_append, ih]; rfl)
    · refine .inr ⟨by simp, ?_⟩
      rw [List.head?_append, h2, List.head?_append]
  · rw [putR_ge key A y x h]
    refine .inr ⟨by simp, ?_⟩
    rw [List.head?_append]
    cases hA : (A ++ [y]).head? with
    | none => simp at hA
    | some z => rfl
theorem sortR_len {α : Type} (key : α → Int) (l : List α) : (sortR key l).length = l.length := by
  unfold sortR
  refine rev_ind (P := fun l => (l.foldl (putR key) []).length = l.length) rfl (fun l x ih => ?_) l
  rw [List.foldl_append]
  show (putR key (l.foldl (putR key) []) x).length = _
  rw [putR_len, ih]
  simp
def hitsF (s : List UInt8) : Nat → List ByteArray → List (Int × Int)
  | _, [] => []
  | i, p :: r => if p.data.toList.isPrefixOf s then ((i : Int), (p.size : Int)) :: hitsF s (i + 1) r else hitsF s (i + 1) r
def keyL (x : Int × Int) : Int := x.2
def allP (s : List UInt8) (ps : List ByteArray) : List Int := (sortR keyL (hitsF s 0 ps)).map (·.1)
theorem hitsF_app (s : List UInt8) : ∀ (ps qs : List ByteArray) (i : Nat), hitsF s i (ps ++ qs) = hitsF s i ps ++ hitsF s (i + ps.length) qs
  | [], qs, i => rfl
  | p :: r, qs, i => by
    have := hitsF_app s r qs (i + 1)
    rw [show i + 1 + r.length = i + (p :: r).length by simp; omega] at this
    simp only [List.cons_append, hitsF]
    split
    · rw [this]; rfl
    · exact this
theorem hitsF_len (s : List UInt8) : ∀ (ps : List ByteArray) (i : Nat), (hitsF s i ps).length ≤ ps.length
  | [], _ => Nat.le_refl _
  | p :: r, i => by
    have := hitsF_len s r (i + 1)
    rw [hitsF]
    split <;> simp <;> omega
theorem allP_more (s : List UInt8) (ps : List ByteArray) (q : ByteArray) : (allP s (ps ++ [q])).head? = (allP s ps).head? ∨ (allP s (ps ++ [q])).head? = some (ps.length : Int) := by
  unfold allP
  rw [hitsF_app, Nat.zero_add]
  simp only [hitsF]
  split
  · have e : sortR keyL (hitsF s 0 ps ++ [((ps.length : Int), (q.size : Int))]) = putR keyL (sortR keyL (hitsF s 0 ps)) ((ps.length : Int), (q.size : Int)) := by
      unfold sortR
      rw [List.foldl_append]
      rfl
    rw [e, List.head?_map, List.head?_map]
    rcases putR_head keyL (sortR keyL (hitsF s 0 ps)) ((ps.length : Int), (q.size : Int)) with h | ⟨_, h⟩
    · rw [h]; exact .inr rfl
    · rw [h]; exact .inl rfl
  · rw [List.append_nil]
    exact .inl rfl
end Go.Proofs.YtaknknfcikdjiaaGreatDoor.Hand
end
section
namespace Go.Proofs.YtaknknfcikdjiaaGreatDoor.Hand
open Go.RowKit
structure KeptX (X : Nat → Prop) (B0 : Nat) (A B : World) : Prop where
  os : B.os = A.os
  tape : B.tape = A.tape
  output : B.output = A.output
  size : A.heap.size ≤ B.heap.size
  block : ∀ k o, A.heap[k]? = some o → ¬ X k → (k < B0 ∨ o.isCells = true) → B.heap[k]? = some o
structure KeptA (X : Nat → Prop) (A B : World) : Prop where
  os : B.os = A.os
  tape : B.tape = A.tape
  output : B.output = A.output
  size : A.heap.size ≤ B.heap.size
  block : ∀ k o, A.heap[k]? = some o → ¬ X k → B.heap[k]? = some o
theorem KeptA.kx {X : Nat → Prop} {A B : World} (h : KeptA X A B) (B0 : Nat) : KeptX X B0 A B := ⟨h.os, h.tape, h.output, h.size, fun k o hk hx _ => h.block k o hk hx⟩
theorem KeptA.refl (X : Nat → Prop) (A : World) : KeptA X A A := ⟨rfl, rfl, rfl, Nat.le_refl _, fun _ _ h _ => h⟩
theorem KeptA.trans {X : Nat → Prop} {A B C : World} (h : KeptA X A B) (k : KeptA X B C) : KeptA X A C := ⟨k.os.trans h.os, k.tape.trans h.tape, k.output.trans h.output, Nat.le_trans h.size k.size, fun i o hi hx => k.block i o (h.block i o hi hx) hx⟩
theorem KeptA.of_below {X : Nat → Prop} {A B : World} (h : Below A.heap.size A B) : KeptA X A B := ⟨h.os, h.tape, h.output, h.size, fun k o hk _ => by rw [h.block k (Array.getElem?_eq_some_iff.1 hk).1]; exact hk⟩
theorem KeptA.setCell {X : Nat → Prop} {A B : World} (h : KeptA X A B) {p : Addr} (hp : X p.block) (v : Value) : KeptA X A (B.setCell p v) :=
  h.trans ⟨rfl, rfl, rfl, by simp [World.setCell], fun k o hk hx => by rw [Below.heap_setCell B p v k (fun e => hx (by rw [e]; exact hp))]; exact hk⟩
theorem KeptX.below {X : Nat → Prop} {B0 n : Nat} {W0 A B : World} (h : KeptX X B0 A B) (hb : Below n W0 A) (h0 : n ≤ B0) (h1 : n ≤ W0.heap.size) (hx : ∀ k, k < n → ¬ X k) : Below n W0 B :=
  ⟨h.os.trans hb.os, h.tape.trans hb.tape, h.output.trans hb.output, Nat.le_trans hb.size h.size, fun k hk => by
    have hlt : k < W0.heap.size := by omega
    have e : W0.heap[k]? = some W0.heap[k] := Array.getElem?_eq_getElem hlt
    have e2 := (hb.block k hk).trans e
    rw [h.block k _ e2 (hx k hk) (.inl (by omega)), e]⟩
theorem KeptX.blk {X : Nat → Prop} {B0 : Nat} {A B : World} (h : KeptX X B0 A B) {k : Nat} {c : Array Value} {t : TypeId} {fr : Nat × Nat} (hk : A.heap[k]? = some (.cells c t fr)) (hx : ¬ X k) : B.heap[k]? = some (.cells c t fr) := h.block k _ hk hx (.inr rfl)
def SameX (X : Nat → Prop) (A B : World) : Prop := ∀ k, X k → B.heap[k]? = A.heap[k]?
theorem SameX.trans {X : Nat → Prop} {A B C : World} (h : SameX X A B) (h2 : SameX X B C) : SameX X A C := fun i hi => (h2 i hi).trans (h i hi)
theorem SameX.putObj {X : Nat → Prop} (W : World) {l : Nat} (o : Obj) (h : ¬ X l) : SameX X W (W.putObj l o) := fun _ hk => World.putObj_heap_other (fun e => h (e ▸ hk))
def IterX {α : Type} (P : Program) (gf : Nat) (lb : Array Value) (encs : α → Array Value) (X R : Nat → Prop) (xs : List α) (w0 : World) : Prop :=
  ∀ (l : Nat) (J Jx : List α → World → Prop) (W : World), Below w0.heap.size w0 W → (∀ s A B, J s A → KeptA X A B → J s B) → (∀ s A B, Jx s A → KeptA X A B → Jx s B) →
    (∀ pre x W1, J pre W1 → (pre ++ [x]) <+: xs → YieldAt Fence.wide 9 P l (encs x) W1 fun e W' =>
      (e = .returned (.bool true) ∧ J (pre ++ [x]) W' ∧ SameX R W1 W' ∧ KeepsFrom W.heap.size W1 W') ∨ (e = .returned (.bool false) ∧ Jx (pre ++ [x]) W')) →
    J [] W →
    CallsIn Fence.wide 10 P gf (#[.func (.yield l) #[] #[]] ++ lb) W fun e W' => (∃ v, e = .returned v) ∧ (J xs W' ∨ ∃ pre, pre <+: xs ∧ Jx pre W')
def postX {α : Type} (B : Nat) (R : Nat → Prop) (I : List α → World → Prop) (Ix : Code → List α → World → Prop) (xs : List α) (W : World) : Exit → Act → World → Prop
  | .normal, _, W' => KeepsFrom B W W' ∧ SameX R W W' ∧ I xs W'
  | .ret, _, W' => KeepsFrom B W W' ∧ Ix .ret xs W'
  | .exit id, _, W' => KeepsFrom B W W' ∧ Ix (.exit id) xs W'
  | .goto t, _, W' => KeepsFrom B W W' ∧ Ix (.goto t) xs W'
  | .panic _, _, _ => False
  | .outgrown, _, _ => False
theorem keptX_putObj {X : Nat → Prop} {B0 l : Nat} {W : World} {o : Obj} (o' : Obj) (hB : B0 ≤ l) (hl : W.heap[l]? = some o) (ho : o.isCells = false) : KeptX X B0 W (W.putObj l o') :=
  ⟨rfl, rfl, rfl, by simp, fun k oo hk _ hh => by
    have hne : k ≠ l := by
      rintro rfl
      rcases hh with hh | hh
      · omega
      · rw [hl] at hk; cases hk; rw [ho] at hh; cases hh
    rw [World.putObj_heap_other hne]; exact hk⟩
theorem kf_up {B B' : Nat} {W W' : World} (h : KeepsFrom B W W') (hB : B ≤ B') : KeepsFrom B' W W' := ⟨h.size, fun k o hk ho hc => h.same k o (by omega) ho hc⟩
theorem keepsFrom_putObj {B l : Nat} {W : World} (o : Obj) (h : l < B) : KeepsFrom B W (W.putObj l o) := ⟨by simp, fun k o' hk ho _ => by rw [World.putObj_heap_other (by omega)]; exact ho⟩
theorem rangeFuncX {P : Program} {α : Type} {g : Operand} {ps : Array Tmp} {assign body : Code} {Q : Exit → Act → World → Prop} {a : Act} {w : World}
    {gf : Nat} {lb : Array Value} (hg : a.eval g = .func (.func gf) #[] lb) (eg : ∀ args w, (callFunc gf args).run P w = .ok (.enter gf args) w)
    {encs : α → Array Value} {X R : Nat → Prop} {xs : List α} {w0 : World} (hseq : IterX P gf lb encs X R xs w0) (hX : ∀ k, X k → k < w.heap.size) (hR : ∀ k, R k → k < w.heap.size)
    (hb0 : Below w0.heap.size w0 w) (hps : ∀ x, (encs x).size = ps.size)
    (I : List α → World → Prop) (Ix : Code → List α → World → Prop) (hI : ∀ s A B, I s A → KeptX X w.heap.size A B → I s B) (hIx : ∀ c s A B, Ix c s A → KeptX X w.heap.size A B → Ix c s B) (h0 : I [] w)
    (hround : ∀ (l : Nat) (pre : List α) (x : α) (W : World) (K : Act → World → Prop), w.heap.size ≤ l → (∃ r, W.heap[l]? = some (.loop r)) → I pre W → (pre ++ [x]) <+: xs →
      (∀ a' W', KeepsFrom w.heap.size W W' → SameX R W W' → (∀ W1, KeptX X w.heap.size W' W1 → (∃ r, W1.heap[l]? = some (.loop r)) → w.heap.size ≤ W1.heap.size → body.wpIn (Fence.wide.inRound l) 9 P (postX w.heap.size R I Ix (pre ++ [x]) W1) a' W1) → K a' W') →
      assign.wpIn (Fence.wide.inRound l) 9 P (Exit.then K (fun _ _ _ => False)) { tmps := (ps.zip (encs x)).foldl (fun t (p, v) => t.setIfInBounds p v) a.tmps, defers := [] } W)
    (hdone : ∀ (D : Nat) (W : World), w.heap.size ≤ D → I xs W → W.heap[D]? = some (.deferred (some [])) → Q .normal { a with defers := { target := .collected D, args := #[] } :: a.defers } W)
    (hstop : ∀ (D : Nat) (c : Code) (pre : List α) (W : World), w.heap.size ≤ D → pre <+: xs → Ix c pre W → W.heap[D]? = some (.deferred (some [])) → c.wpIn Fence.wide 11 P Q { a with defers := { target := .collected D, args := #[] } :: a.defers } W) :
    (Code.rangeFunc g ps assign body).wpIn Fence.wide 11 P Q a w := by
  refine wpIn_rangeFunc ?_
  intro fn hfn
  rw [show Fence.wide.round = none from rfl]
  obtain ⟨rec, hrec⟩ : ∃ rec : LoopState → Option Code → Loop, rec = fun st pe => { state := st, pending := pe, fn, tmps := a.tmps, params := ps, assign, body, defers := w.heap.size } := ⟨_, rfl⟩
  obtain ⟨W1, hW1⟩ : ∃ W1, (w.alloc (.deferred (some []))).alloc (.loop (rec .ready none)) = W1 := ⟨_, rfl⟩
  have hL1 : W1.heap[w.heap.size + 1]? = some (.loop (rec .ready none)) := by
    rw [← hW1]; have := World.alloc_heap_new (w.alloc (.deferred (some []))) (.loop (rec .ready none)); rwa [World.size_alloc] at this
  have hK1 : W1.heap[w.heap.size]? = some (.deferred (some [])) := by
    rw [← hW1]; exact (Below.heap_alloc _ _ _ (by simp)).trans (World.alloc_heap_new w _)
  have hbW : Below w.heap.size w W1 := by rw [← hW1]; exact ((Below.refl _ w).alloc (Nat.le_refl _) _).alloc (by simp) _
  have hI1 : I [] W1 := hI _ _ _ h0 ((KeptA.of_below hbW).kx _)
  have hb1 : Below w0.heap.size w0 W1 := hb0.trans (hbW.mono hb0.size)
  have hnX : ¬ X w.heap.size := fun h => by have := hX _ h; omega
  have hnX1 : ¬ X (w.heap.size + 1) := fun h => by have := hX _ h; omega
  have hnR1 : ¬ R (w.heap.size + 1) := fun h => by have := hR _ h; omega
  refine ⟨w.heap.size + 1, [{ target := .collected w.heap.size, args := #[] }], W1, { target := .fn (.func gf) lb, args := #[.func (.yield (w.heap.size + 1)) #[] #[]] }, W1, gf,
    #[.func (.yield (w.heap.size + 1)) #[] #[]] ++ lb, W1, ?_, ?_, ?_, ?_, fun _ => by decide, ?_⟩
  · rw [← hW1, hrec]; exact run_enterLoop_outer _ _ _ _ _
  · simp only [resolve, hg]
    simp [go_sem]
  · intro f' hf'; exact trivial
  · simp [invoke, go_sem, eg]
  · refine (hseq (w.heap.size + 1)
      (fun pre W => I pre W ∧ W.heap[w.heap.size + 1]? = some (.loop (rec .ready none)) ∧ W.heap[w.heap.size]? = some (.deferred (some [])))
      (fun pre W => ∃ c, Ix c pre W ∧ W.heap[w.heap.size + 1]? = some (.loop (rec .done (some c))) ∧ W.heap[w.heap.size]? = some (.deferred (some [])))
      W1 hb1
      (fun s A B hs hk => ⟨hI s A B hs.1 (hk.kx _), hk.block _ _ hs.2.1 hnX1, hk.block _ _ hs.2.2 hnX⟩)
      (fun s A B hs hk => by
        obtain ⟨c, hc, hl, hd⟩ := hs
        exact ⟨c, hIx c s A B hc (hk.kx _), hk.block _ _ hl hnX1, hk.block _ _ hd hnX⟩)
      ?_ ⟨hI1, hL1, hK1⟩).mono ?_
    · have hsz1 : w.heap.size ≤ W1.heap.size := hbW.size
      have hsz2 : w.heap.size + 1 < W1.heap.size := (Array.getElem?_eq_some_iff.1 hL1).1
      rintro pre x W ⟨hi, hl, hk⟩ hpre
      have hlt : w.heap.size + 1 < W.heap.size := (Array.getElem?_eq_some_iff.1 hl).1
      have hy := run_yield (P := P) (args := encs x) hl (by rw [hrec]; exact hps x)
      rw [hrec] at hy
      refine ⟨fn, _, assign, body, hy, roundIn_of_wpIn hfn (hround _ pre x W _ (by omega) ⟨_, hl⟩ hi hpre ?_)⟩
      clear hy
      intro a' Wa hkfa hkpa hbody
      replace hl := hkfa.same _ _ (by omega) hl rfl
      replace hk := hkfa.same _ _ (Nat.le_refl _) hk rfl
      replace hlt : w.heap.size + 1 < Wa.heap.size := (Array.getElem?_eq_some_iff.1 hl).1
      refine ⟨_, run_beginRound hl (by rw [hrec]), ?_⟩
      have hl2 : (Wa.putObj (w.heap.size + 1) (.loop { rec .ready none with state := .busy })).heap[w.heap.size + 1]? = some (.loop { rec .ready none with state := .busy }) := World.putObj_heap_same hlt
      have hk2 : (Wa.putObj (w.heap.size + 1) (.loop { rec .ready none with state := .busy })).heap[w.heap.size]? = some (.deferred (some [])) := (World.putObj_heap_other (by omega)).trans hk
      have hw2 : SameX R Wa (Wa.putObj (w.heap.size + 1) (.loop { rec .ready none with state := .busy })) := SameX.putObj _ _ hnR1
      refine wpIn_mono (hbody _ (keptX_putObj _ (by omega) hl rfl) ⟨_, hl2⟩ (by simp; omega)) ?_
      have fin : ∀ (jump : Option Code) (W3 : World), KeepsFrom w.heap.size (Wa.putObj (w.heap.size + 1) (.loop { rec .ready none with state := .busy })) W3 →
          (Instr.endRound (w.heap.size + 1) jump).run P W3 = .ok (.bool jump.isNone) (W3.putObj (w.heap.size + 1) (.loop (rec (if jump.isNone then .ready else .done) jump))) ∧
          W3.heap[w.heap.size + 1]? = some (.loop { rec .ready none with state := .busy }) ∧
          (W3.putObj (w.heap.size + 1) (.loop (rec (if jump.isNone then .ready else .done) jump))).heap[w.heap.size + 1]? = some (.loop (rec (if jump.isNone then .ready else .done) jump)) ∧
          (W3.putObj (w.heap.size + 1) (.loop (rec (if jump.isNone then .ready else .done) jump))).heap[w.heap.size]? = some (.deferred (some [])) := fun jump W3 hk3 => by
        have hl3 := hk3.same _ _ (by omega) hl2 rfl
        have := run_endRound (P := P) jump hl3
        rw [hrec] at this ⊢
        exact ⟨this, by rw [hrec] at hl3; exact hl3, World.putObj_heap_same (Array.getElem?_eq_some_iff.1 hl3).1, (World.putObj_heap_other (by omega)).trans (hk3.same _ _ (Nat.le_refl _) hk2 rfl)⟩
      rintro e a3 W3 hp
      cases e with
      | normal =>
        obtain ⟨hk3, hkp3, hi3⟩ := hp
        obtain ⟨hr, hl3, hl4, hk4⟩ := fin none W3 hk3
        exact ⟨_, _, hr, .inl ⟨rfl, ⟨hI _ _ _ hi3 (keptX_putObj _ (by omega) hl3 rfl), hl4, hk4⟩, hkpa.trans ((hw2.trans hkp3).trans (SameX.putObj _ _ hnR1)), (kf_up hkfa hsz1).trans (((keepsFrom_putObj _ (by omega)).trans (kf_up hk3 hsz1)).trans (keepsFrom_putObj _ (by omega)))⟩⟩
      | ret =>
        obtain ⟨hk3, hi3⟩ := hp
        obtain ⟨hr, hl3, hl4, hk4⟩ := fin (some .ret) W3 hk3
        exact ⟨_, _, hr, .inr ⟨rfl, .ret, hIx _ _ _ _ hi3 (keptX_putObj _ (by omega) hl3 rfl), hl4, hk4⟩⟩
      | exit id =>
        obtain ⟨hk3, hi3⟩ := hp
        obtain ⟨hr, hl3, hl4, hk4⟩ := fin (some (.exit id)) W3 hk3
        exact ⟨_, _, hr, .inr ⟨rfl, .exit id, hIx _ _ _ _ hi3 (keptX_putObj _ (by omega) hl3 rfl), hl4, hk4⟩⟩
      | goto t =>
        obtain ⟨hk3, hi3⟩ := hp
        obtain ⟨hr, hl3, hl4, hk4⟩ := fin (some (.goto t)) W3 hk3
        exact ⟨_, _, hr, .inr ⟨rfl, .goto t, hIx _ _ _ _ hi3 (keptX_putObj _ (by omega) hl3 rfl), hl4, hk4⟩⟩
      | panic ch => exact hp.elim
      | outgrown => exact hp.elim
    · rintro e W2 ⟨⟨v, rfl⟩, (⟨hi, hl, hk⟩ | ⟨pre, hSp, c, hi, hl, hk⟩)⟩
      · exact ⟨none, _, by have := run_endLoop (P := P) hl (by rw [hrec]; simp); rw [hrec] at this; exact this, hdone _ _ (Nat.le_refl _) (hI _ _ _ hi (keptX_putObj _ (by omega) hl rfl)) ((World.putObj_heap_other (by omega)).trans hk)⟩
      · exact ⟨some c, _, by have := run_endLoop (P := P) hl (by rw [hrec]; simp); rw [hrec] at this; exact this, hstop _ c pre _ (Nat.le_refl _) hSp (hIx _ _ _ _ hi (keptX_putObj _ (by omega) hl rfl)) ((World.putObj_heap_other (by omega)).trans hk)⟩
theorem rangeFuncW {P : Program} {α : Type} {g : Operand} {ps : Array Tmp} {assign body : Code} {Q : Exit → Act → World → Prop} {a : Act} {w : World}
    {gf : Nat} {lb : Array Value} (hg : a.eval g = .func (.func gf) #[] lb) (eg : ∀ args w, (callFunc gf args).run P w = .ok (.enter gf args) w)
    {encs : α → Array Value} {X R : Nat → Prop} {xs : List α} {w0 : World} (hseq : IterX P gf lb encs X R xs w0) (hX : ∀ k, X k → k < w.heap.size) (hR : ∀ k, R k → k < w.heap.size)
    (hb0 : Below w0.heap.size w0 w) (hps : ∀ x, (encs x).size = ps.size)
    (I : List α → World → Prop) (Ix : Code → List α → World → Prop) (hI : ∀ s A B, I s A → KeptX X w.heap.size A B → I s B) (hIx : ∀ c s A B, Ix c s A → KeptX X w.heap.size A B → Ix c s B) (h0 : I [] w)
    (hround : ∀ (l : Nat) (pre : List α) (x : α) (W : World) (K : Act → World → Prop), w.heap.size ≤ l → (∃ r, W.heap[l]? = some (.loop r)) → I pre W → (pre ++ [x]) <+: xs →
      (∀ a' W', KeepsFrom w.heap.size W W' → SameX R W W' → (∀ W1, KeptX X w.heap.size W' W1 → (∃ r, W1.heap[l]? = some (.loop r)) → w.heap.size ≤ W1.heap.size → body.wpIn (Fence.wide.inRound l) 9 P (postX w.heap.size R I Ix (pre ++ [x]) W1) a' W1) → K a' W') →
      assign.wpIn (Fence.wide.inRound l) 9 P (Exit.then K (fun _ _ _ => False)) { tmps := (ps.zip (encs x)).foldl (fun t (p, v) => t.setIfInBounds p v) a.tmps, defers := [] } W)
    (hdone : ∀ (D : Nat) (W : World), w.heap.size ≤ D → I xs W → W.heap[D]? = some (.deferred (some [])) → Q .normal { a with defers := { target := .collected D, args := #[] } :: a.defers } W)
    (hstop : ∀ (D : Nat) (c : Code) (pre : List α) (W : World), w.heap.size ≤ D → pre <+: xs → Ix c pre W → W.heap[D]? = some (.deferred (some [])) → c.wp P Q { a with defers := { target := .collected D, args := #[] } :: a.defers } W) :
    (Code.rangeFunc g ps assign body).wp P Q a w :=
  wpIn_wide.1 (rangeFuncX hg eg hseq hX hR hb0 hps I Ix hI hIx h0 hround hdone (fun D c pre W h1 h2 h3 h4 => wpIn_wide.2 (hstop D c pre W h1 h2 h3 h4)))
end Go.Proofs.YtaknknfcikdjiaaGreatDoor.Hand
end
section
namespace Go.Proofs.YtaknknfcikdjiaaGreatDoor.Hand
open Go.RowKit Go.Proofs.YtaknknfcikdjiaaGreatDoorW Go.Proofs.YtaknknfcikdjiaaGreatDoorW.PrintWords Go.Proofs.YtaknknfcikdjiaaGreatDoor.RK
abbrev encM (x : Int × Int) : Array Value := #[.agg #[.int .i64 x.1, .int .i64 x.2]]
def SameB (B : Nat) (W W' : World) : Prop := ∀ k, k < B → W'.heap[k]? = W.heap[k]?
theorem SameB.cell {B : Nat} {W W' : World} (h : SameB B W W') (hB : W.heap.size = B) {a : Addr} {v : Value} (hc : W.cell? a = some v) : W'.cell? a = some v := by
  have hlt := World.block_lt_of_cell? W a hc
  have := h a.block (by omega)
  simpa [World.cell?, this] using hc
theorem SameB.below {B : Nat} {W W' : World} (h : Below B W W') : SameB B W W' := fun k hk => h.block k hk
set_option maxRecDepth 100000 in
theorem matches_make (A : Option Addr) (n c : Nat) (s : ByteArray) (w : World) :
    Calls Tryz.prog 37 #[.agg #[.slice A n c, .string s]] w fun e w' => e = .returned (.func (.func 49) #[] #[.pointer (some ⟨w.heap.size, 0, none⟩)]) ∧ w.alloc (.cells #[.slice A n c, .string s] 65) = w' := by
  have hu := Tryz.underlying65
  go_enter Tryz.func37, Tryz.ntmps37
  go_wp2
  go_ret
  exact ⟨rfl, rfl⟩
abbrev pfx (l : List Rt) : List ByteArray := l.map (·.f0)
attribute [local go_sem] Oper.semAt_some
set_option maxRecDepth 100000 in
set_option maxHeartbeats 4000000 in
theorem matches_iter (s : ByteArray) (A : Option Addr) (c : Nat) (l : List Rt) (b B0 : Nat) (W0 w0 : World) (hB0 : W0.heap.size = B0) (hC : Kd.C kRt W0 A l.length l) (hS : SameB B0 W0 w0) (h1 : w0.heap[b]? = some (.cells #[.slice A l.length c, .string s] 65)) (hle : B0 ≤ w0.heap.size) :
    IterX Tryz.prog 49 #[.pointer (some ⟨b, 0, none⟩)] encM (fun _ => False) (fun k => k = b ∨ k < B0) (hitsF s.data.toList 0 (pfx l)) w0 := by
  intro lp J Jx W hW hJ hJx hY h0
  have hlt1 : b < w0.heap.size := (Array.getElem?_eq_some_iff.1 h1).1
  have hbW1 := (hW.block _ hlt1).trans h1
  have hSW : SameB B0 W0 W := fun k hk => (hW.block _ (by omega)).trans (hS k hk)
  have hu := Tryz.underlying65
  have hu2 := Tryz.underlying63
  have hu3 := Tryz.underlying35
  have hu4 := Tryz.underlying71
  have hll := hC.2.1
  have HC := Lib.hid hC
  have HJ := Lib.hid hJ
  have HJx := Lib.hid hJx
  have HY := Lib.hid hY
  have HB1 := Lib.hid hbW1
  have HS1 := Lib.hid hSW
  have H0 := Lib.hid h0
  have HZ1 : Hid (B0 ≤ W.heap.size) := Lib.hid (Nat.le_trans hle hW.size)
  clear hC h1 hW hJ hJx hY hbW1 h0 hlt1 hS hSW
  refine (callsIn_wide (n := 10)).2 ?_
  simp only [List.append_toArray, List.cons_append, List.nil_append]
  go_enter Tryz.func49, Tryz.ntmps49
  have hb0 := cell_blk HB1.out 0
  have hb1 := cell_blk HB1.out 1
  simp at hb0 hb1
  go_wp2
  go_step3
  go_wp2_with (fail)
  go_step3
  go_wp2_with (fail)
  go_loopw [3, 4, 9] (fun _ _ s9 wr => ∃ (pre : List (Int × Int)) (i : Nat), s9 = .int .i64 i ∧ i ≤ l.length ∧ Hid (pre ++ hitsF s.data.toList i (pfx (l.drop i)) = hitsF s.data.toList 0 (pfx l)) ∧ Hid (J pre wr) ∧ Hid (wr.heap[b]? = some (.cells #[.slice A l.length c, .string s] 65)) ∧ Hid (SameB B0 W0 wr) ∧ Hid (B0 ≤ wr.heap.size)) (fun _ _ s9 _ => l.length + 1 - (intOf s9).toNat)
  case atStart => exact ⟨[], 0, rfl, Nat.zero_le _, Lib.hid rfl, H0, HB1, HS1, HZ1⟩
  case round =>
    obtain ⟨pre, i, rfl, hi, HI, HJr, HBr, HSr, HZr⟩ := hrel
    clear HB1 HS1 HZ1 H0 hb0 hb1
    have q1 := cell_blk HBr.out 1
    simp at q1
    by_cases hlt : i < l.length
    · have hltz : (i : Int) < (l.length : Int) := by omega
      obtain ⟨ad, hA, x0, x1⟩ := at_T35 HC.out (i : Int) (by omega) hltz
      subst hA
      have hdr : l.drop i = rd_T35 l (i : Int) :: l.drop (i + 1) := by
        rw [List.drop_eq_getElem_cons hlt]
        unfold rd_T35
        rw [List.getD_eq_getElem?_getD, Int.toNat_natCast, List.getElem?_eq_getElem hlt]
        rfl
      simp only [Int.toNat_natCast] at x0 x1
      replace x0 := HSr.out.cell hB0 x0
      replace x1 := HSr.out.cell hB0 x1
      have HI2 := HI.out
      rw [hdr] at HI2
      simp only [pfx, List.map_cons, hitsF] at HI2
      generalize rd_T35 l (i : Int) = y at *
      have hpf := fun W => Tryz.strings_HasPrefix s y.f0 W
      unfold Lib.hasPrefix at hpf
      have HB3 := Lib.hid (HBr.out)
      clear hdr HI
      by_cases hm : y.f0.data.toList.isPrefixOf s.data.toList = true
      · rw [if_pos hm] at HI2
        rw [hm] at hpf
        have HP : Hid ((pre ++ [((i : Int), (y.f0.size : Int))]) <+: hitsF s.data.toList 0 (pfx l)) := Lib.hid (by rw [← HI2]; exact ⟨_, by simp; rfl⟩)
        have HI3 : Hid (pre ++ [((i : Int), (y.f0.size : Int))] ++ hitsF s.data.toList (i + 1) (pfx (l.drop (i + 1))) = hitsF s.data.toList 0 (pfx l)) := Lib.hid (by rw [← HI2]; simp [pfx])
        clear HI2 hm
        have q1a : (wr.alloc (.cells #[.string y.f0, .int .i64 y.f1] 35)).cell? ⟨b, 1, none⟩ = some (.string s) := cell_blk (blk_alloc HBr.out _) 1
        have hb3 : Below wr.heap.size wr (wr.alloc (.cells #[.string y.f0, .int .i64 y.f1] 35)) := b_alloc (Below.refl _ _) _
        have HJ3 := Lib.hid (HJ.out _ _ _ HJr.out (KeptA.of_below hb3))
        have HB4 := Lib.hid (blk_alloc HB3.out (.cells #[.string y.f0, .int .i64 y.f1] 35))
        have hlt3 : B0 ≤ wr.heap.size := HZr.out
        have HS3 : Hid (SameB B0 W0 (wr.alloc (.cells #[.string y.f0, .int .i64 y.f1] 35))) := Lib.hid (fun k hk => (hb3.block k (by omega)).trans (HSr.out k hk))
        obtain ⟨fn, tmps, assign, body, hy, hR⟩ := HY.out _ _ _ HJ3.out HP.out
        try dsimp only at hy
        have HR := Lib.hid hR
        have HYY := Lib.hid hy
        clear hy hR
        go_upto_region 3 with (fail)
        refine (wpIn_wide (n := 10)).1 ?_
        have hy := HYY.out
        clear HYY
        gi_wp2_with (fail)
        refine ⟨trivial, (callsIn_wide.2 (hpf _)).mono ?_⟩
        rintro e w' ⟨rfl, rfl⟩
        gi_wp2_with (fail)
        refine HR.out.mono ?_
        rintro e W' (⟨rfl, hJ', hsame, hkf⟩ | ⟨rfl, hJx'⟩)
        · have HJ' := Lib.hid hJ'
          have HSame := Lib.hid hsame
          have HZ' : Hid (B0 ≤ W'.heap.size) := Lib.hid (Nat.le_trans hlt3 (Nat.le_trans hb3.size hkf.size))
          clear hJ' hsame hkf hy hb3 hlt3 hpf x0 x1 q1 q1a
          gi_wp2
          go_wp2
          go_roundw
          case rel => exact ⟨_, i + 1, by go_num, by omega, HI3, HJ', Lib.hid ((HSame.out _ (.inl rfl)).trans HB4.out), Lib.hid (fun k hk => (HSame.out _ (.inr hk)).trans (HS3.out k hk)), HZ'⟩
          case measure => simp only [intOf]; omega
        · have HJx' := Lib.hid hJx'
          clear hJx' hy hb3 hlt3 hpf x0 x1 q1 q1a
          gi_wp2
          go_wp2
          try rw [show ∀ Q a w, Exit.noGoto Q .normal a w = Q .normal a w from fun _ _ _ => rfl]
          go_end0
          exact ⟨⟨_, rfl⟩, .inr ⟨_, HP.out, HJx'.out⟩⟩
      · rw [if_neg hm] at HI2
        rw [Bool.eq_false_iff.2 hm] at hpf
        have HI3 : Hid (pre ++ hitsF s.data.toList (i + 1) (pfx (l.drop (i + 1))) = hitsF s.data.toList 0 (pfx l)) := Lib.hid HI2
        clear HI2 hm
        have q1a : (wr.alloc (.cells #[.string y.f0, .int .i64 y.f1] 35)).cell? ⟨b, 1, none⟩ = some (.string s) := cell_blk (blk_alloc HBr.out _) 1
        have hb3 : Below wr.heap.size wr (wr.alloc (.cells #[.string y.f0, .int .i64 y.f1] 35)) := b_alloc (Below.refl _ _) _
        have HJ3 := Lib.hid (HJ.out _ _ _ HJr.out (KeptA.of_below hb3))
        have HB4 := Lib.hid (blk_alloc HB3.out (.cells #[.string y.f0, .int .i64 y.f1] 35))
        have HZ4 : Hid (B0 ≤ (wr.alloc (.cells #[.string y.f0, .int .i64 y.f1] 35)).heap.size) := Lib.hid (Nat.le_trans HZr.out hb3.size)
        have HS3 : Hid (SameB B0 W0 (wr.alloc (.cells #[.string y.f0, .int .i64 y.f1] 35))) := Lib.hid (fun k hk => (hb3.block k (by have := HZr.out; omega)).trans (HSr.out k hk))
        clear hb3
        go_wp2_with (go_at_call 31; refine (hpf _).mono ?_; rintro e w' ⟨rfl, rfl⟩)
        go_roundw
        case rel => exact ⟨pre, i + 1, by go_num, by omega, HI3, HJ3, HB4, HS3, HZ4⟩
        case measure => simp only [intOf]; omega
    · have hltz : ¬ (i : Int) < (l.length : Int) := by omega
      have hI2 := HI.out
      rw [show i = l.length by omega, List.drop_length] at hI2
      simp only [pfx, List.map_nil, hitsF, List.append_nil] at hI2
      have HI2 := Lib.hid hI2
      clear hI2
      go_wp2
      try rw [show ∀ Q a w, Exit.noGoto Q .normal a w = Q .normal a w from fun _ _ _ => rfl]
      go_end0
      exact ⟨⟨_, rfl⟩, .inl (by rw [← HI2.out]; exact HJr.out)⟩
end Go.Proofs.YtaknknfcikdjiaaGreatDoor.Hand
end
section
namespace Go.Proofs.YtaknknfcikdjiaaGreatDoor.Hand
open Go.Sort
abbrev ltK (x y : Int × Int) : Bool := decide (keyL y < keyL x)
theorem swp_mid {α : Type} [Inhabited α] (P T : List α) (y x : α) (d : Array α) (hd : d.toList = P ++ y :: x :: T) : (swp d (P.length + 1) P.length).toList = P ++ x :: y :: T := by
  obtain ⟨l⟩ := d
  subst hd
  simp [swp]
theorem at_mid {α : Type} [Inhabited α] (P T : List α) (y x : α) (d : Array α) (hd : d.toList = P ++ y :: x :: T) : d[P.length + 1]! = x ∧ d[P.length]! = y := by
  obtain ⟨l⟩ := d
  subst hd
  simp
theorem inner_is (P : List (Int × Int)) : ∀ (T : List (Int × Int)) (x : Int × Int) (d : Array (Int × Int)), d.toList = P ++ x :: T → (insInner ltK 0 P.length d).toList = putR keyL P x ++ T := by
  refine rev_ind (P := fun P => ∀ (T : List (Int × Int)) (x : Int × Int) (d : Array (Int × Int)), d.toList = P ++ x :: T → (insInner ltK 0 P.length d).toList = putR keyL P x ++ T) (fun T x d hd => ?_) (fun P y ih T x d hd => ?_) P
  · rw [List.length_nil, insInner_stop _ _ _ _ (.inl (Nat.le_refl _)), hd, putR_nil]
    rfl
  · rw [List.append_assoc, List.singleton_append] at hd
    obtain ⟨h1, h2⟩ := at_mid P T y x d hd
    rw [List.length_append, List.length_singleton]
    by_cases h : keyL y < keyL x
    · rw [insInner_go _ _ _ _ (by omega) (by rw [Nat.add_sub_cancel, h1, h2]; exact decide_eq_true h), Nat.add_sub_cancel, ih (y :: T) x _ (swp_mid P T y x d hd), putR_lt _ _ _ _ h, List.append_assoc]
      rfl
    · rw [insInner_stop _ _ _ _ (.inr (by rw [Nat.add_sub_cancel, h1, h2]; exact decide_eq_false h)), hd, putR_ge _ _ _ _ h]
      simp
theorem outer_is (n : Nat) : ∀ (R L : List (Int × Int)) (d : Array (Int × Int)), n = L.length + R.length → d.toList = sortR keyL L ++ R → (insOuter ltK 0 n L.length d).toList = sortR keyL (L ++ R)
  | [], L, d, hn, hd => by
    rw [insOuter_stop _ _ _ _ _ (by simp at hn; omega), hd, List.append_nil, List.append_nil]
  | x :: R, L, d, hn, hd => by
    rw [insOuter_go _ _ _ _ _ (by simp at hn; omega)]
    have h1 := inner_is (sortR keyL L) R x d hd
    rw [sortR_len] at h1
    have e : sortR keyL (L ++ [x]) = putR keyL (sortR keyL L) x := by
      unfold sortR
      rw [List.foldl_append]
      rfl
    have h2 := outer_is n R (L ++ [x]) (insInner ltK 0 L.length d) (by simp at hn ⊢; omega) (by rw [h1, e])
    rw [List.length_append, List.length_singleton] at h2
    rw [h2, List.append_assoc]
    rfl
theorem sorted_is (d : Array (Int × Int)) : (insertionSort ltK d 0 d.size).toList = sortR keyL d.toList := by
  unfold insertionSort
  obtain ⟨l⟩ := d
  cases l with
  | nil => rw [insOuter_stop _ _ _ _ _ (by simp)]; rfl
  | cons x R => exact outer_is _ R [x] ⟨x :: R⟩ (by simp; omega) rfl
theorem sorted_size (d : Array (Int × Int)) : (insertionSort ltK d 0 d.size).size = d.size := by
  rw [← Array.length_toList, sorted_is, sortR_len, Array.length_toList]
end Go.Proofs.YtaknknfcikdjiaaGreatDoor.Hand
end

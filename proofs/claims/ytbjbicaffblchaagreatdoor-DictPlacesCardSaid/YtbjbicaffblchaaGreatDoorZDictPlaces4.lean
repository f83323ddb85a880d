import Derived.Test.YtbjbicaffblchaaGreatDoorZDictPlaces3
import Derived.ArgAppend
import Derived.Below
import Derived.BigQuiet
import Derived.Deep.AppendLies
import Derived.Deep.CutBlock
import Derived.Deep.DeepCutAuto
import Derived.Deep.Draws
import Derived.Deep.LoopGhost
import Derived.Deep.OwnRows
import Derived.Deep.QuietTactic
import Derived.Deep.RegionHeld3
import Derived.KernelRfl
import Derived.Laws.BitsLemmas
import Derived.Laws.BytesArg
import Derived.Laws.IdiomCopy
import Derived.Laws.MakeOwn
import Derived.Laws.OwnMore
import Derived.Laws.Rows
import Derived.Laws.Slices
import Derived.Lib.AppendStr
import Derived.Lib.ConvBytes
import Derived.Maps.AppendAt
import Derived.OrdersHeld
import Derived.OwnWalk
import Derived.RowKit
import Derived.RowKit3
import Derived.Tactics
import Derived.Test.YtbjbicaffblchaaGreatDoorProg
import Derived.WalkKit
import Derived.WideLaws
section
namespace Go.Proofs.YtbjbicaffblchaaGreatDoor.Hand
open Go.RowKit Go.Proofs.YtbjbicaffblchaaGreatDoorW Go.Proofs.YtbjbicaffblchaaGreatDoorW.PrintWords Go.Proofs.YtbjbicaffblchaaGreatDoor.SK Go.Proofs.YtbjbicaffblchaaGreatDoor.SA
theorem drop_eq_iff {α : Type} (d : α) {x y : List α} {i : Nat} (hx : i < x.length) (hy : i < y.length) : (x.drop i = y.drop i) ↔ (x.getD i d = y.getD i d ∧ x.drop (i + 1) = y.drop (i + 1)) := by
  rw [List.drop_eq_getElem_cons hx, List.drop_eq_getElem_cons hy, List.cons.injEq]
  simp [List.getD_eq_getElem?_getD, hx, hy]
theorem wrap_up (i : Nat) (h : i ≤ 1000000000) : wrap64 ((i : Int) + 1) = ((i + 1 : Nat) : Int) := by unfold wrap64; omega
section
variable {x y : List Int}
theorem ints_from (hl : x.length = y.length) (hb : x.length ≤ 1000000) : ∀ (d k i : Nat), x.length - i = d → i ≤ x.length → d < k → postriderref02_Ints.l0 k x y (i : Int) = some (decide (x.drop i = y.drop i)) := by
  intro d
  induction d with
  | zero =>
    intro k i hd hi hk
    obtain ⟨k, rfl⟩ : ∃ m, k = m + 1 := ⟨k - 1, by omega⟩
    simp only [postriderref02_Ints.l0]
    rw [if_neg (by omega), List.drop_eq_nil_of_le (by omega), List.drop_eq_nil_of_le (by omega)]
    simp
  | succ d ih =>
    intro k i hd hi hk
    obtain ⟨k, rfl⟩ : ∃ m, k = m + 1 := ⟨k - 1, by omega⟩
    simp only [postriderref02_Ints.l0]
    rw [if_pos (by omega), if_pos (by omega), if_pos (by omega), wrap_up i (by omega), ih k (i + 1) (by omega) (by omega) (by omega)]
    have h := drop_eq_iff (0 : Int) (x := x) (y := y) (i := i) (by omega) (by omega)
    unfold rd
    rw [Int.toNat_natCast]
    by_cases e : x.getD i 0 = y.getD i 0
    · rw [if_pos e]
      congr 1
      rw [decide_eq_decide, h]
      exact ⟨fun q => ⟨e, q⟩, fun q => q.2⟩
    · rw [if_neg e]
      congr 1
      rw [eq_comm, decide_eq_false_iff_not, h]
      exact fun q => e q.1
theorem ints_is (x y : List Int) (k : Nat) (hb : x.length ≤ 1000000) (hk : x.length < k) : postriderref02_Ints.f k x y = some (decide (x = y)) := by
  unfold postriderref02_Ints.f
  by_cases hl : x.length = y.length
  · rw [if_pos (by omega)]
    have := ints_from hl hb x.length k 0 (by omega) (by omega) hk
    simpa using this
  · rw [if_neg (by omega)]
    congr 1
    rw [eq_comm, decide_eq_false_iff_not]
    exact fun e => hl (by rw [e])
theorem eq_from (hl : x.length = y.length) (hb : x.length ≤ 1000000) : ∀ (d k i : Nat), x.length - i = d → i ≤ x.length → d < k → slices_Equal_int_int.l0 k x y (x.length : Int) (i : Int) = some (decide (x.drop i = y.drop i)) := by
  intro d
  induction d with
  | zero =>
    intro k i hd hi hk
    obtain ⟨k, rfl⟩ : ∃ m, k = m + 1 := ⟨k - 1, by omega⟩
    simp only [slices_Equal_int_int.l0]
    rw [if_neg (by omega), List.drop_eq_nil_of_le (by omega), List.drop_eq_nil_of_le (by omega)]
    simp
  | succ d ih =>
    intro k i hd hi hk
    obtain ⟨k, rfl⟩ : ∃ m, k = m + 1 := ⟨k - 1, by omega⟩
    simp only [slices_Equal_int_int.l0]
    have h := drop_eq_iff (0 : Int) (x := x) (y := y) (i := i) (by omega) (by omega)
    rw [if_pos (by omega), if_pos (by omega), if_pos (by omega), if_pos (by omega), wrap_up i (by omega), ih k (i + 1) (by omega) (by omega) (by omega)]
    unfold rd
    rw [Int.toNat_natCast]
    by_cases e : x.getD i 0 = y.getD i 0
    · rw [if_pos e]
      congr 1
      rw [decide_eq_decide, h]
      exact ⟨fun q => ⟨e, q⟩, fun q => q.2⟩
    · rw [if_neg e]
      congr 1
      rw [eq_comm, decide_eq_false_iff_not, h]
      exact fun q => e q.1
theorem equal_is (x y : List Int) (k : Nat) (hb : x.length ≤ 1000000) (hk : x.length < k) : slices_Equal_int_int.f k x y = some (decide (x = y)) := by
  unfold slices_Equal_int_int.f
  by_cases hl : x.length = y.length
  · rw [if_pos (by omega)]
    have := eq_from hl hb x.length k 0 (by omega) (by omega) hk
    simpa using this
  · rw [if_neg (by omega)]
    congr 1
    rw [eq_comm, decide_eq_false_iff_not]
    exact fun e => hl (by rw [e])
end
theorem ba_iff {a b : ByteArray} : a.toList = b.toList ↔ a = b := ⟨ba_ext, fun h => by rw [h]⟩
theorem texts_from {x y : List ByteArray} (hl : x.length = y.length) (hb : x.length ≤ 1000000) : ∀ (d k i : Nat), x.length - i = d → i ≤ x.length → d < k → postriderref07_SameTexts.l0 k x y (i : Int) = some (decide (x.drop i = y.drop i)) := by
  intro d
  induction d with
  | zero =>
    intro k i hd hi hk
    obtain ⟨k, rfl⟩ : ∃ m, k = m + 1 := ⟨k - 1, by omega⟩
    simp only [postriderref07_SameTexts.l0]
    rw [if_neg (by omega), List.drop_eq_nil_of_le (by omega), List.drop_eq_nil_of_le (by omega)]
    simp
  | succ d ih =>
    intro k i hd hi hk
    obtain ⟨k, rfl⟩ : ∃ m, k = m + 1 := ⟨k - 1, by omega⟩
    simp only [postriderref07_SameTexts.l0]
    rw [if_pos (by omega), if_pos (by omega), if_pos (by omega), wrap_up i (by omega), ih k (i + 1) (by omega) (by omega) (by omega)]
    have h := drop_eq_iff ByteArray.empty (x := x) (y := y) (i := i) (by omega) (by omega)
    unfold rdOf
    rw [Int.toNat_natCast]
    by_cases e : x.getD i ByteArray.empty = y.getD i ByteArray.empty
    · rw [if_pos (by rw [e])]
      congr 1
      rw [decide_eq_decide, h]
      exact ⟨fun q => ⟨e, q⟩, fun q => q.2⟩
    · rw [if_neg (fun q => e (ba_ext q))]
      congr 1
      rw [eq_comm, decide_eq_false_iff_not, h]
      exact fun q => e q.1
theorem sameTexts_is (x y : List ByteArray) (k : Nat) (hb : x.length ≤ 1000000) (hk : x.length < k) : postriderref07_SameTexts.f k x y = some (decide (x = y)) := by
  unfold postriderref07_SameTexts.f
  by_cases hl : x.length = y.length
  · rw [if_pos (by omega)]
    have := texts_from hl hb x.length k 0 (by omega) (by omega) hk
    simpa using this
  · rw [if_neg (by omega)]
    congr 1
    rw [eq_comm, decide_eq_false_iff_not]
    exact fun e => hl (by rw [e])
theorem nm_eq {a b : S41} : a = b ↔ a.f0 = b.f0 ∧ a.f1.toList = b.f1.toList ∧ a.f2.toList = b.f2.toList ∧ a.f3 = b.f3 ∧ a.f4 = b.f4 := by
  obtain ⟨a0, a1, a2, a3, a4⟩ := a
  obtain ⟨b0, b1, b2, b3, b4⟩ := b
  simp only [S41.mk.injEq, ba_iff]
instance : DecidableEq S41 := fun a b => decidable_of_iff _ nm_eq.symm
theorem same_from {x y : List S41} (hl : x.length = y.length) (hb : x.length ≤ 1000000) : ∀ (d k i : Nat), x.length - i = d → i ≤ x.length → d < k → postriderref06_Same.l0 k x y (i : Int) = some (decide (x.drop i = y.drop i)) := by
  intro d
  induction d with
  | zero =>
    intro k i hd hi hk
    obtain ⟨k, rfl⟩ : ∃ m, k = m + 1 := ⟨k - 1, by omega⟩
    simp only [postriderref06_Same.l0]
    rw [if_neg (by omega), List.drop_eq_nil_of_le (by omega), List.drop_eq_nil_of_le (by omega)]
    simp
  | succ d ih =>
    intro k i hd hi hk
    obtain ⟨k, rfl⟩ : ∃ m, k = m + 1 := ⟨k - 1, by omega⟩
    simp only [postriderref06_Same.l0]
    rw [if_pos (by omega), if_pos (by omega), if_pos (by omega), wrap_up i (by omega), ih k (i + 1) (by omega) (by omega) (by omega)]
    have h := drop_eq_iff z41 (x := x) (y := y) (i := i) (by omega) (by omega)
    unfold rd_T41
    rw [Int.toNat_natCast]
    generalize x.getD i z41 = a at *
    generalize y.getD i z41 = b at *
    by_cases e : a = b
    · subst e
      rw [if_neg (by simp)]
      congr 1
      rw [decide_eq_decide, h]
      simp
    · rw [if_pos ?_]
      · congr 1
        rw [eq_comm, decide_eq_false_iff_not, h]
        exact fun q => e q.1
      · rw [nm_eq] at e
        rw [← Bool.not_eq_false]
        intro q
        simp only [Bool.or_eq_false_iff, Bool.not_eq_false', beq_iff_eq] at q
        exact e ⟨q.1, q.2.1, q.2.2.1, q.2.2.2.1, q.2.2.2.2⟩
theorem same_is (x y : List S41) (k : Nat) (hb : x.length ≤ 1000000) (hk : x.length < k) : postriderref06_Same.f k x y = some (decide (x = y)) := by
  unfold postriderref06_Same.f
  by_cases hl : x.length = y.length
  · rw [if_pos (by omega)]
    have := same_from hl hb x.length k 0 (by omega) (by omega) hk
    simpa using this
  · rw [if_neg (by omega)]
    congr 1
    rw [eq_comm, decide_eq_false_iff_not]
    exact fun e => hl (by rw [e])
theorem few_from (x : List S41) : ∀ (d k i : Nat) (acc : List S41), 32 - i = d → d < k → i ≤ 32 → acc.length = i → (∀ z ∈ acc, z.f1.size ≤ 21 ∧ z.f2.size ≤ 21) →
    ∃ l, postriderlaw07_Few.l0 k x acc (i : Int) = some l ∧ l.length ≤ 32 ∧ ∀ z ∈ l, z.f1.size ≤ 21 ∧ z.f2.size ≤ 21 := by
  intro d
  induction d with
  | zero =>
    intro k i acc hd hk hi hl ha
    obtain ⟨k, rfl⟩ : ∃ m, k = m + 1 := ⟨k - 1, by omega⟩
    refine ⟨acc, ?_, by omega, ha⟩
    simp only [postriderlaw07_Few.l0]
    by_cases h : (i : Int) < (x.length : Int)
    · rw [if_pos h, if_neg (by omega)]
    · rw [if_neg h]
  | succ d ih =>
    intro k i acc hd hk hi hl ha
    obtain ⟨k, rfl⟩ : ∃ m, k = m + 1 := ⟨k - 1, by omega⟩
    simp only [postriderlaw07_Few.l0]
    by_cases h : (i : Int) < (x.length : Int)
    · obtain ⟨b1, b2, hc, s1, s2⟩ := Cut_is (rd_T41 x (i : Int)).f0 (rd_T41 x (i : Int)).f1 (rd_T41 x (i : Int)).f2 (rd_T41 x (i : Int)).f3 (rd_T41 x (i : Int)).f4
      rw [if_pos h, if_pos (by omega), if_pos (by omega), hc]
      simp only [Option.bind_some]
      rw [if_pos (by omega), wrap_up i (by omega)]
      refine ih k (i + 1) _ (by omega) (by omega) (by omega) (by simp [hl]) (fun z hz => ?_)
      rcases List.mem_append.1 hz with hz | hz
      · exact ha z hz
      · rw [List.mem_singleton.1 hz]; exact ⟨s1, s2⟩
    · refine ⟨acc, ?_, by omega, ha⟩
      rw [if_neg h]
theorem few_is (x : List S41) (k : Nat) (hk : 32 < k) : ∃ l, postriderlaw07_Few.f k x = some l ∧ l.length ≤ 32 ∧ ∀ z ∈ l, z.f1.size ≤ 21 ∧ z.f2.size ≤ 21 := by
  unfold postriderlaw07_Few.f
  exact few_from x 32 k 0 [] (by omega) hk (by omega) rfl (fun z hz => by cases hz)
theorem cut7_is (a : ByteArray) : ∃ b : ByteArray, postriderlaw07_cut.f a = some b ∧ b.size ≤ 900 := by
  obtain ⟨h1, h2, h3⟩ := mn_len a.size 900 (by decide)
  unfold postriderlaw07_cut.f
  rw [if_pos h1, if_pos h2]
  refine ⟨_, rfl, ?_⟩
  rw [ByteArray.size_extract]; omega
theorem few7_is (l : List Int) : ∃ r : List Int, postriderlaw07_few.f l = some r ∧ r.length ≤ 63 := by
  obtain ⟨h1, h2, h3⟩ := mn_len l.length 63 (by decide)
  unfold postriderlaw07_few.f
  rw [if_pos h1, if_pos h2]
  refine ⟨_, rfl, ?_⟩
  rw [List.length_take]; omega
end Go.Proofs.YtbjbicaffblchaaGreatDoor.Hand
end
section
namespace Go.Proofs.YtbjbicaffblchaaGreatDoor.Hand
open Go.RowKit Go.Proofs.YtbjbicaffblchaaGreatDoorW Go.Proofs.YtbjbicaffblchaaGreatDoorW.PrintWords Go.Proofs.YtbjbicaffblchaaGreatDoor.SK
def namesT (s : ByteArray) : List Int → Option (List Nm)
  | a :: b :: r => if (nameT s a b).2 = true then (namesT s r).map ((nameT s a b).1 :: ·) else none
  | _ => some []
def readT (s : ByteArray) (pairs : List Int) : List Nm × Int :=
  if pairs.length % 2 = 0 ∧ pairs.length ≤ 60 then
    match namesT s pairs with
    | none => ([], 70)
    | some l => if buildT l = (s, pairs, 0) then (l, 0) else ([], 70)
  else ([], 70)
def dict_Read.f (s : ByteArray) (pairs : List Int) : Option (List Nm × Int) := if s.size < 4294967281 then some (readT s pairs) else none
theorem join_ok (x y : ByteArray) (h : y.size < 4294967281) : (eidNm (joinT x y)).ok := by
  unfold joinT
  cases hj : joinS x y with
  | none => exact ⟨by decide, by decide⟩
  | some z =>
    have hm : z ∈ cands x y 3 := List.mem_of_find?_eq_some hj
    obtain ⟨h1, h2⟩ := cands_size x y z hm
    exact ⟨by show z.n.size ≤ maxLen; unfold maxLen; omega, by show z.v.size ≤ maxLen; unfold maxLen; omega⟩
theorem name_ok (s : ByteArray) (a b : Int) (h : s.size < 4294967281) : (nameT s a b).1.ok := by
  unfold nameT
  split
  · dsimp only
    split <;> exact ⟨Nat.zero_le _, Nat.zero_le _⟩
  · refine join_ok _ _ ?_
    have := halfOf_size (items s.data.toList) b s.data.toList.length (fun x hx => itemsF_size _ _ _ x hx)
    have h3 : s.data.toList.length = s.size := Array.length_toList ..
    omega
theorem names_ok (s : ByteArray) (h : s.size < 4294967281) : ∀ (n : Nat) (p : List Int) (l : List Nm), p.length ≤ n → namesT s p = some l → ∀ x ∈ l, x.ok := by
  intro n
  induction n using Nat.strongRecOn with
  | _ n ih =>
    intro p l hn hl
    match p, hl with
    | [], hl => simp [namesT] at hl; subst hl; intro x hx; cases hx
    | [_], hl => simp [namesT] at hl; subst hl; intro x hx; cases hx
    | a :: b :: r, hl =>
      rw [namesT] at hl
      split at hl
      · obtain ⟨l', h1, h2⟩ := Option.map_eq_some_iff.1 hl
        subst h2
        intro x hx
        rcases List.mem_cons.1 hx with rfl | hx
        · exact name_ok s a b h
        · exact ih r.length (by simp only [List.length_cons] at hn; omega) r l' (Nat.le_refl _) h1 x hx
      · cases hl
theorem name_calls (s : ByteArray) (a b : Int) (w : World) (am ae ad : Addr) (hE : LaidAt w am ae ad) (hLd : Laid w) (hs : s.size < 4294967281) :
    Calls Tryz.prog 30 #[.string s, .int .i64 a, .int .i64 b] w fun e w' => e = .returned (.tuple #[(nameT s a b).1.v, nameE (nameT s a b).2 ad]) ∧ Below w.heap.size w w' := by
  by_cases h : s.toList = []
  · exact name_empty s a b w ad h
  · exact name_full s a b w am ae ad hE hLd h hs
set_option maxRecDepth 100000 in
set_option maxHeartbeats 4000000 in
theorem dict_Read.calls (a0 : ByteArray) (A1 : Option Addr) (c1 : Nat) (l1 : List Int) (r1 : List Nm) (r2 : Int) (w : World) (hr1 : Kd.C (Kd.int .i64) w A1 l1.length l1) (hc1 : l1.length ≤ c1) (hLd : LaidD w) (h : dict_Read.f a0 l1 = some (r1, r2)) :
    Calls Tryz.prog 14 #[.string a0, .slice A1 l1.length c1] w fun e w' => ∃ v1_ : Value, e = .returned (.tuple #[v1_, .int .i64 r2]) ∧ Kd.R kNm 41 w' w.heap.size (fun _ => True) v1_ r1 ∧ Below w.heap.size w w' := by
  unfold dict_Read.f at h
  split at h
  case isFalse => cases h
  rename_i hs
  replace h := Option.some.inj h
  obtain ⟨hLd, am, ae, ad, hE⟩ := hLd
  have HL := Lib.hid hLd
  have HE := Lib.hid hE
  have HR := Lib.hid hr1
  have hr1' := hc1
  obtain ⟨_, _, ⟨gd, _⟩, _⟩ := hE
  clear hLd hr1
  have hu := Tryz.underlying41
  have hu2 := Tryz.underlying61
  have hdict := fun A n c W hW => either_eids_dict A n c W am ae ad hW
  unfold errV at hdict
  have hnil := either_eids_dict none 0 0 w am ae ad HE.out
  unfold errV at hnil
  unfold readT at h
  by_cases hmod : (l1.length : Int) % 2 = 0
  case neg =>
    rw [if_neg (by omega)] at h
    simp only [Prod.mk.injEq] at h
    obtain ⟨rfl, rfl⟩ := h
    go_enter Tryz.func14, Tryz.ntmps14
    go_wp2_with (go_at_call 29; refine hnil.mono ?_; rintro e w2 ⟨rfl, rfl⟩)
    go_ret2
    exact ⟨_, rfl, Kd.R_nil _ _ _ _ _, Below.refl _ _⟩
  by_cases h60 : 60 < (l1.length : Int)
  case pos =>
    rw [if_neg (by omega)] at h
    simp only [Prod.mk.injEq] at h
    obtain ⟨rfl, rfl⟩ := h
    go_enter Tryz.func14, Tryz.ntmps14
    go_wp2_with (go_at_call 29; refine hnil.mono ?_; rintro e w2 ⟨rfl, rfl⟩)
    go_ret2
    exact ⟨_, rfl, Kd.R_nil _ _ _ _ _, Below.refl _ _⟩
  rw [if_pos (by omega)] at h
  have HH := Lib.hid h
  have HG := Lib.hid (World.block_lt_of_cell? w _ gd)
  clear h hnil gd
  have h60n : l1.length ≤ 60 := by omega
  have hmodn : l1.length % 2 = 0 := by omega
  go_enter Tryz.func14, Tryz.ntmps14
  go_wp2_with (fail)
  go_loopg [6, 7] (l1.length + 1) (fun gg s6 s7 wr => ∃ (A : Option Addr) (m c i : Nat) (lk : List Nm), s6 = .slice A m c ∧ s7 = .int .i64 (i : Int) ∧ i ≤ l1.length ∧ l1.length + 1 - i ≤ gg ∧ Hid (i % 2 = 0) ∧ Hid (lk.length ≤ i) ∧ Hid (namesT a0 l1 = (namesT a0 (l1.drop i)).map (lk ++ ·)) ∧ Hid (Kd.R kNm 41 wr w.heap.size (fun _ => True) (.slice A m c) lk) ∧ Hid (Below w.heap.size w wr))
  case atStart => exact ⟨none, 0, 0, 0, [], rfl, rfl, Nat.zero_le _, by omega, Lib.hid rfl, Lib.hid (Nat.le_refl _), Lib.hid (by cases hq : namesT a0 l1 <;> simp [hq]), Lib.hid (Kd.R_nil _ _ _ _ _), Lib.hid (Below.refl _ _)⟩
  case round =>
    obtain ⟨A, m, c, i, lk, rfl, rfl, hi, hg, HM, HLK, HN, HRR, HB⟩ := hrel
    by_cases hlt : i < l1.length
    · have hlt2 : i + 1 < l1.length := by have := HM.out; omega
      have z1 : (i : Int) < (l1.length : Int) := by omega
      have z2 : (i : Int) + 1 < (l1.length : Int) := by omega
      have z0 : (0 : Int) ≤ (i : Int) := by omega
      obtain ⟨_, _, hrd⟩ := Kd.reads_of_C (d := (0 : Int)) HR.out
      obtain ⟨ad1, hA, hcell⟩ := hrd (by omega)
      subst hA
      have y1 := (HB.out.cell (World.block_lt_of_cell? w _ (hcell i hlt))).trans (hcell i hlt)
      have y2 := (HB.out.cell (World.block_lt_of_cell? w _ (hcell (i + 1) hlt2))).trans (hcell (i + 1) hlt2)
      have hdr : l1.drop i = l1.getD i 0 :: l1.getD (i + 1) 0 :: l1.drop (i + 2) := by
        rw [List.drop_eq_getElem_cons hlt, List.drop_eq_getElem_cons hlt2]
        simp [List.getD_eq_getElem?_getD, hlt, hlt2]
      have HDR := Lib.hid hdr
      have hca := hcell i hlt
      have hcb : w.cell? ⟨ad1.block, ad1.off + (i + 1), none⟩ = _ := hcell (i + 1) hlt2
      replace y2 : wr.cell? ⟨ad1.block, ad1.off + (i + 1), none⟩ = _ := y2
      generalize l1.getD i 0 = a at *
      generalize l1.getD (i + 1) 0 = b at *
      have HCALL := Lib.hid (fun W (hb : Below w.heap.size w W) => name_calls a0 a b W am ae ad (HE.out.below hb) (HL.out.below hb) hs)
      have HY : Hid (∀ W, Below w.heap.size w W → W.cell? (ad1.add i) = some (.int .i64 a) ∧ W.cell? ⟨ad1.block, ad1.off + (i + 1), none⟩ = some (.int .i64 b)) := Lib.hid (fun W hb => ⟨(hb.cell (World.block_lt_of_cell? w _ hca)).trans hca, (hb.cell (World.block_lt_of_cell? w _ hcb)).trans hcb⟩)
      have HB1 : Hid (Below w.heap.size w wr.drew) := Lib.hid (HB.out.trans ((below_drewN wr 1).mono HB.out.size))
      have HB2 : Hid (Below w.heap.size w (wr.alloc (.cells #[.int .i64 0, .string ⟨#[]⟩, .string ⟨#[]⟩, .int .i64 0, .int .i64 0] 41)).drew) := Lib.hid ((HB.out.alloc HB.out.size (.cells #[.int .i64 0, .string ⟨#[]⟩, .string ⟨#[]⟩, .int .i64 0, .int .i64 0] 41)).trans ((below_drewN _ 1).mono (by have := HB.out.size; simp; omega)))
      have ZB : Hid ((wr.alloc (.cells #[.int .i64 0, .string ⟨#[]⟩, .string ⟨#[]⟩, .int .i64 0, .int .i64 0] 41)).drew.heap[wr.heap.size]? = some (.cells #[.int .i64 0, .string ⟨#[]⟩, .string ⟨#[]⟩, .int .i64 0, .int .i64 0] 41)) := Lib.hid (World.alloc_heap_new _ _)
      have hwr : IntKind.i64.wrap ((i : Int) + 1) = (i : Int) + 1 := by rw [IntKind.wrap_i64]; omega
      have z3 : (0 : Int) ≤ (i : Int) + 1 := by omega
      have HBW1 : Hid (Below wr.heap.size wr wr.drew) := Lib.hid (below_drewN wr 1)
      have HBW2 : Hid (Below wr.heap.size wr (wr.alloc (.cells #[.int .i64 0, .string ⟨#[]⟩, .string ⟨#[]⟩, .int .i64 0, .int .i64 0] 41)).drew) := Lib.hid ((b_alloc (Below.refl _ _) _).trans ((below_drewN _ 1).mono (by simp)))
      have HRW : Hid (Kd.R kNm 41 wr w.heap.size (fun k => k < wr.heap.size) (.slice A m c) lk) := Lib.hid (Kd.R_mono (Kd.R_bound HRR.out) (fun k hk => hk.2.2.1))
      have yn1 := World.new_ne wr (ad1.add i) y1
      have yn2 := World.new_ne wr ⟨ad1.block, ad1.off + (i + 1), none⟩ y2
      clear hrd hcell hdr hca hcb
      obtain ⟨x, ok, hnm⟩ : ∃ x ok, nameT a0 a b = (x, ok) := ⟨_, _, rfl⟩
      have hcall := HCALL.out
      rw [hnm] at hcall
      have HNM := Lib.hid hnm
      clear hnm HCALL
      cases ok with
      | false =>
        have hres : namesT a0 l1 = none := by
          rw [HN.out, HDR.out, namesT, HNM.out]
          rfl
        have hh := HH.out
        rw [hres] at hh
        simp only [Prod.mk.injEq] at hh
        obtain ⟨rfl, rfl⟩ := hh
        unfold nameE errV at hcall
        simp only [Bool.false_eq_true, if_false] at hcall
        clear hres
        go_wp2_with (fail)
        go_region_held3 (fun w' => w'.cell? (ad1.add i) = some (.int .i64 a) ∧ w'.cell? ⟨ad1.block, ad1.off + (i + 1), none⟩ = some (.int .i64 b)) (go_keep) (first | (go_at_call 30; refine (hcall _ ?hW).mono ?_; (case hW => first | exact HB1.out | exact HB2.out); rintro e w5 ⟨rfl, hb5⟩; have hB5 : Below w.heap.size w w5 := (by first | exact HB1.out.trans (hb5.mono HB1.out.size) | exact HB2.out.trans (hb5.mono HB2.out.size)); obtain ⟨k1, k2⟩ := HY.out w5 hB5; have HB5 := Lib.hid hB5; have HK5 := Lib.hid hb5; clear hB5; (first | (have zb := (hb5.block wr.heap.size (by simp)).trans ZB.out; have zz0 := cell_blk zb 0; have zz1 := cell_blk zb 1; have zz2 := cell_blk zb 2; have zz3 := cell_blk zb 3; have zz4 := cell_blk zb 4; have zf := fun j => frozen_blk zb j; simp at zz0 zz1 zz2 zz3 zz4; have ZB5 := Lib.hid zb; clear zb) | skip); have HR5 := Lib.hid (Kd.R_below HRW.out (by first | exact HBW1.out.trans (hb5.mono HBW1.out.size) | exact HBW2.out.trans (hb5.mono HBW2.out.size))); clear hb5))
        · skip
          obtain ⟨tb, htb⟩ : ∃ tb, tb = w5.heap.size := ⟨_, rfl⟩
          obtain ⟨w6, hw6⟩ : ∃ w6, w6 = w5.alloc (.cells (Nm.cells x) 41) := ⟨_, rfl⟩
          have hy6 : w6.heap[tb]? = some (.cells (Nm.cells x) 41) := by rw [hw6, htb]; exact World.alloc_heap_new _ _
          have hB6 : Below w.heap.size w w6 := by rw [hw6]; exact HB5.out.alloc HB5.out.size _
          have hR6 : Kd.R kNm 41 w6 w.heap.size (fun _ => True) (.slice A m c) lk := by rw [hw6]; exact Kd.R_mono (Kd.R_below HR5.out (b_alloc (Below.refl _ _) _)) (fun _ _ => trivial)
          rw [← htb]
          change Exit.then _ _ _ _ (w5.alloc (.cells (Nm.cells x) 41))
          rw [← hw6]
          clear htb hw6
          have HY6 := Lib.hid hy6
          have HB6 := Lib.hid hB6
          have HR6 := Lib.hid hR6
          clear hy6 hB6 hR6 k1 k2 yn1 yn2 y1 y2 hcall
          go_wp2_with (go_at_call 29; go_loud (refine (hdict A m c w6 (HE.out.below HB6.out)).mono ?_); rintro e w7 ⟨rfl, rfl⟩)
          go_ret2
          exact ⟨_, rfl, Kd.R_nil _ _ _ _ _, HB6.out⟩
        · skip
          obtain ⟨tb, htb⟩ : ∃ tb, tb = wr.heap.size := ⟨_, rfl⟩
          obtain ⟨w6, hw6⟩ : ∃ w6, w6 = (((((w5.setCell ⟨wr.heap.size, 0, none⟩ (.int .i64 x.f0)).setCell ⟨wr.heap.size, 1, none⟩ (.string x.f1)).setCell ⟨wr.heap.size, 2, none⟩ (.string x.f2)).setCell ⟨wr.heap.size, 3, none⟩ (.int .i64 x.f3)).setCell ⟨wr.heap.size, 4, none⟩ (.int .i64 x.f4)) := ⟨_, rfl⟩
          have hy6 : w6.heap[tb]? = some (.cells (Nm.cells x) 41) := by rw [hw6, htb]; exact setNm (y := zeroNm) ZB5.out
          have hB6 : Below w.heap.size w w6 := by
            rw [hw6]
            iterate 5 refine Below.setCell ?_ (show w.heap.size ≤ wr.heap.size from HB.out.size) _
            exact HB5.out
          have hR6 : Kd.R kNm 41 w6 w.heap.size (fun _ => True) (.slice A m c) lk := by
            rw [hw6]
            refine Kd.R_mono (ok := fun k => k < wr.heap.size) ?_ (fun _ _ => trivial)
            iterate 5 refine Kd.R_far ?_ (fun k hk => by show k ≠ wr.heap.size; omega) _
            exact HR5.out
          rw [← hw6, ← htb]
          clear htb hw6 zz0 zz1 zz2 zz3 zz4 zf
          have HY6 := Lib.hid hy6
          have HB6 := Lib.hid hB6
          have HR6 := Lib.hid hR6
          clear hy6 hB6 hR6 k1 k2 yn1 yn2 y1 y2 hcall
          go_wp2_with (go_at_call 29; go_loud (refine (hdict A m c w6 (HE.out.below HB6.out)).mono ?_); rintro e w7 ⟨rfl, rfl⟩)
          go_ret2
          exact ⟨_, rfl, Kd.R_nil _ _ _ _ _, HB6.out⟩
      | true =>
        unfold nameE at hcall
        simp only [if_true] at hcall
        go_wp2_with (fail)
        go_region_held3 (fun w' => w'.cell? (ad1.add i) = some (.int .i64 a) ∧ w'.cell? ⟨ad1.block, ad1.off + (i + 1), none⟩ = some (.int .i64 b)) (go_keep) (first | (go_at_call 30; refine (hcall _ ?hW).mono ?_; (case hW => first | exact HB1.out | exact HB2.out); rintro e w5 ⟨rfl, hb5⟩; have hB5 : Below w.heap.size w w5 := (by first | exact HB1.out.trans (hb5.mono HB1.out.size) | exact HB2.out.trans (hb5.mono HB2.out.size)); obtain ⟨k1, k2⟩ := HY.out w5 hB5; have HB5 := Lib.hid hB5; have HK5 := Lib.hid hb5; clear hB5; (first | (have zb := (hb5.block wr.heap.size (by simp)).trans ZB.out; have zz0 := cell_blk zb 0; have zz1 := cell_blk zb 1; have zz2 := cell_blk zb 2; have zz3 := cell_blk zb 3; have zz4 := cell_blk zb 4; have zf := fun j => frozen_blk zb j; simp at zz0 zz1 zz2 zz3 zz4; have ZB5 := Lib.hid zb; clear zb) | skip); have HR5 := Lib.hid (Kd.R_below HRW.out (by first | exact HBW1.out.trans (hb5.mono HBW1.out.size) | exact HBW2.out.trans (hb5.mono HBW2.out.size))); clear hb5))
        · skip
          obtain ⟨tb, htb⟩ : ∃ tb, tb = w5.heap.size := ⟨_, rfl⟩
          obtain ⟨w6, hw6⟩ : ∃ w6, w6 = w5.alloc (.cells (Nm.cells x) 41) := ⟨_, rfl⟩
          have hy6 : w6.heap[tb]? = some (.cells (Nm.cells x) 41) := by rw [hw6, htb]; exact World.alloc_heap_new _ _
          have hB6 : Below w.heap.size w w6 := by rw [hw6]; exact HB5.out.alloc HB5.out.size _
          have hR6 : Kd.R kNm 41 w6 w.heap.size (fun _ => True) (.slice A m c) lk := by rw [hw6]; exact Kd.R_mono (Kd.R_below HR5.out (b_alloc (Below.refl _ _) _)) (fun _ _ => trivial)
          rw [← htb]
          change Exit.then _ _ _ _ (w5.alloc (.cells (Nm.cells x) 41))
          rw [← hw6]
          clear htb hw6
          have HY6 := Lib.hid hy6
          have HB6 := Lib.hid hB6
          have HR6 := Lib.hid hR6
          have l0 := cell_blk hy6 0
          have l1' := cell_blk hy6 1
          have l2 := cell_blk hy6 2
          have l3 := cell_blk hy6 3
          have l4 := cell_blk hy6 4
          simp [Nm.cells] at l0 l1' l2 l3 l4
          clear hy6 hB6 hR6 k1 k2 yn1 yn2 y1 y2 hcall
          go_wp2_with ((with_reducible refine gate_builtin (b := .append) (xs := #[.tmp 53, .tmp 55]) rfl ?_); at_builtin; go_loud (refine Kd.R_append kNm (w0 := w) w.heap.size rfl (.tmp 53) (.tmp 55) 22 41 (.agg #[(.int .i64 0), (.string ⟨#[]⟩), (.string ⟨#[]⟩), (.int .i64 0), (.int .i64 0)]) 56 rfl Tryz.underlying22 info41 rfl (by decide) (by decide) (.slice A m c) lk x [.int .i64 x.f0, .string x.f1, .string x.f2, .int .i64 x.f3, .int .i64 x.f4] (fun _ => True) (fun _ => False) rfl rfl (k41_mkM _ _ _ x) (fun _ hk => hk.elim) (fun _ _ => trivial) HR6.out HB6.out HB6.out.size (by have := HLK.out; omega) ?_); intro v1 w9 ho9 hb9 hg9 hat9; clear hg9 hat9; obtain ⟨A9, c9, e9⟩ := Kd.R_slice ho9; obtain ⟨m9, hm9⟩ : ∃ m9, m9 = (lk ++ [x]).length := ⟨_, rfl⟩; rw [← hm9] at e9; subst e9; have HO9 := Lib.hid ho9; have HB9 := Lib.hid hb9; clear ho9 hb9 hm9)
          go_roundg (l1.length + 1 - (i + 2))
          case measure => omega
          case rel => exact ⟨A9, m9, c9, i + 2, lk ++ [x], rfl, by go_num, by omega, by omega, Lib.hid (by have := HM.out; omega), Lib.hid (by have := HLK.out; simp; omega), Lib.hid (by rw [HN.out, HDR.out, namesT, HNM.out, if_pos rfl, Option.map_map]; congr 1; funext z; simp), HO9, HB9⟩
        · skip
          obtain ⟨tb, htb⟩ : ∃ tb, tb = wr.heap.size := ⟨_, rfl⟩
          obtain ⟨w6, hw6⟩ : ∃ w6, w6 = (((((w5.setCell ⟨wr.heap.size, 0, none⟩ (.int .i64 x.f0)).setCell ⟨wr.heap.size, 1, none⟩ (.string x.f1)).setCell ⟨wr.heap.size, 2, none⟩ (.string x.f2)).setCell ⟨wr.heap.size, 3, none⟩ (.int .i64 x.f3)).setCell ⟨wr.heap.size, 4, none⟩ (.int .i64 x.f4)) := ⟨_, rfl⟩
          have hy6 : w6.heap[tb]? = some (.cells (Nm.cells x) 41) := by rw [hw6, htb]; exact setNm (y := zeroNm) ZB5.out
          have hB6 : Below w.heap.size w w6 := by
            rw [hw6]
            iterate 5 refine Below.setCell ?_ (show w.heap.size ≤ wr.heap.size from HB.out.size) _
            exact HB5.out
          have hR6 : Kd.R kNm 41 w6 w.heap.size (fun _ => True) (.slice A m c) lk := by
            rw [hw6]
            refine Kd.R_mono (ok := fun k => k < wr.heap.size) ?_ (fun _ _ => trivial)
            iterate 5 refine Kd.R_far ?_ (fun k hk => by show k ≠ wr.heap.size; omega) _
            exact HR5.out
          rw [← hw6, ← htb]
          clear htb hw6 zz0 zz1 zz2 zz3 zz4 zf
          have HY6 := Lib.hid hy6
          have HB6 := Lib.hid hB6
          have HR6 := Lib.hid hR6
          have l0 := cell_blk hy6 0
          have l1' := cell_blk hy6 1
          have l2 := cell_blk hy6 2
          have l3 := cell_blk hy6 3
          have l4 := cell_blk hy6 4
          simp [Nm.cells] at l0 l1' l2 l3 l4
          clear hy6 hB6 hR6 k1 k2 yn1 yn2 y1 y2 hcall
          go_wp2_with ((with_reducible refine gate_builtin (b := .append) (xs := #[.tmp 53, .tmp 55]) rfl ?_); at_builtin; go_loud (refine Kd.R_append kNm (w0 := w) w.heap.size rfl (.tmp 53) (.tmp 55) 22 41 (.agg #[(.int .i64 0), (.string ⟨#[]⟩), (.string ⟨#[]⟩), (.int .i64 0), (.int .i64 0)]) 56 rfl Tryz.underlying22 info41 rfl (by decide) (by decide) (.slice A m c) lk x [.int .i64 x.f0, .string x.f1, .string x.f2, .int .i64 x.f3, .int .i64 x.f4] (fun _ => True) (fun _ => False) rfl rfl (k41_mkM _ _ _ x) (fun _ hk => hk.elim) (fun _ _ => trivial) HR6.out HB6.out HB6.out.size (by have := HLK.out; omega) ?_); intro v1 w9 ho9 hb9 hg9 hat9; clear hg9 hat9; obtain ⟨A9, c9, e9⟩ := Kd.R_slice ho9; obtain ⟨m9, hm9⟩ : ∃ m9, m9 = (lk ++ [x]).length := ⟨_, rfl⟩; rw [← hm9] at e9; subst e9; have HO9 := Lib.hid ho9; have HB9 := Lib.hid hb9; clear ho9 hb9 hm9)
          go_roundg (l1.length + 1 - (i + 2))
          case measure => omega
          case rel => exact ⟨A9, m9, c9, i + 2, lk ++ [x], rfl, by go_num, by omega, by omega, Lib.hid (by have := HM.out; omega), Lib.hid (by have := HLK.out; simp; omega), Lib.hid (by rw [HN.out, HDR.out, namesT, HNM.out, if_pos rfl, Option.map_map]; congr 1; funext z; simp), HO9, HB9⟩
    · have z1 : ¬ (i : Int) < (l1.length : Int) := by omega
      have hk : i = l1.length := by omega
      subst hk
      have hres : namesT a0 l1 = some lk := by
        rw [HN.out, List.drop_length]
        simp [namesT]
      have hh := HH.out
      rw [hres] at hh
      simp only at hh
      have hoks := names_ok a0 hs l1.length l1 lk (Nat.le_refl _) hres
      obtain ⟨A', c', he, hlc, hC⟩ := Kd.R_reads HRR.out
      injection he with e1 e2 e3
      subst e1 e2 e3
      have hb := built_calls A c lk wr am ae ad (HE.out.below HB.out) (HL.out.below HB.out) hC hoks hC.2.1
      have hdict' := fun W hW => hdict A lk.length c W hW
      have hnil' := fun W hW => either_eids_nil A lk.length c W am ae ad hW
      have HHH := Lib.hid hh
      have HHR := Lib.hid hr1'
      have HRR2 := Lib.hid (Kd.R_mono (Kd.R_bound HRR.out) (ok' := fun k => k < wr.heap.size) (fun k hk => hk.2.2.1))
      clear hdict hres hh hoks hC hlc HN HM hu HRR
      unfold buildT at HHH
      by_cases h30 : 30 < lk.length
      · simp only [if_pos h30] at hb HHH
        rw [if_neg (by simp)] at HHH
        have hh := HHH.out
        simp only [Prod.mk.injEq] at hh
        obtain ⟨rfl, rfl⟩ := hh
        unfold errV at hb
        go_wp2_with (first | (go_at_call 24; refine hb.mono ?_; rintro e w1 ⟨hb1, rfl⟩; have gd1 := ((HE.out.below HB.out).below hb1).dict.1) | (go_at_call 29; refine (hdict' _ ((HE.out.below HB.out).below hb1)).mono ?_; rintro e w2 ⟨rfl, rfl⟩))
        go_ret2
        exact ⟨_, rfl, Kd.R_nil _ _ _ _ _, HB.out.trans (hb1.mono HB.out.size)⟩
      · simp only [if_neg h30] at hb HHH
        by_cases hr : lk.any (fun x => !x.right) = true
        · simp only [if_pos hr] at hb HHH
          rw [if_neg (by simp)] at HHH
          have hh := HHH.out
          simp only [Prod.mk.injEq] at hh
          obtain ⟨rfl, rfl⟩ := hh
          unfold errV at hb
          go_wp2_with (first | (go_at_call 24; refine hb.mono ?_; rintro e w1 ⟨hb1, rfl⟩; have gd1 := ((HE.out.below HB.out).below hb1).dict.1) | (go_at_call 29; refine (hdict' _ ((HE.out.below HB.out).below hb1)).mono ?_; rintro e w2 ⟨rfl, rfl⟩))
          go_ret2
          exact ⟨_, rfl, Kd.R_nil _ _ _ _ _, HB.out.trans (hb1.mono HB.out.size)⟩
        · simp only [if_neg hr] at hb HHH
          have OPEN : ∀ w1 bb, Below wr.heap.size wr w1 → BSt w1 wr.heap.size bb (builtS lk).1 (builtS lk).2 → ∃ Ao mo co Ap cp,
              w1.cell? ⟨bb, 1, none⟩ = some (.slice Ao mo co) ∧ w1.cell? ⟨bb, 2, none⟩ = some (.slice Ap (builtS lk).2.length cp) ∧ (convert 59 9 (.slice Ao mo co)).run Tryz.prog w1 = .ok (.string (txt (flatT (builtS lk).1))) w1 ∧
              Calls Tryz.prog 31 #[.slice Ap (builtS lk).2.length cp, .slice A1 l1.length c1] w1 fun e w' => e = .returned (.bool (decide ((builtS lk).2 = l1))) ∧ Drawn0 w1 w' := by
            intro w1 bb hb1 hS
            obtain ⟨mb, n, D, vo, vp, hbp, _, _⟩ := hS
            obtain ⟨Ao, mo, co, rfl, _⟩ := row_slice hbp.row
            have hRp : Kd.R (Kd.int .i64) tInt w1 wr.heap.size (fun _ => True) vp (builtS lk).2 := Kd.R_of_own hbp.prs (fun _ _ => trivial)
            obtain ⟨Ap, cp, rfl, hcp, hCp⟩ := Kd.R_reads hRp
            have hlen : (builtS lk).2.length ≤ 1000000 := by
              have hall : ∀ x ∈ lk, x.right = true := fun x hx => by
                have hr' : lk.any (fun x => !x.right) = false := Bool.eq_false_iff.2 hr
                have := (List.any_eq_false.1 hr') x hx
                simpa using this
              have := (buildF_bounds (lk.any Nm.dtn) lk ([], []) hall).2.2
              show (lk.foldl (buildF (lk.any Nm.dtn)) ([], [])).2.length ≤ _
              rw [this]
              simp
              omega
            refine ⟨Ao, mo, co, Ap, cp, ?_, ?_, ?_, ?_⟩
            · have := cell_blk hbp.blk 1; simpa using this
            · have := cell_blk hbp.blk 2; simpa using this
            · rw [← str_txt]; exact own_string Tryz.underlying59 Tryz.underlying5 Tryz.underlying9 hbp.row
            · exact slices_Equal_int_int.calls ((builtS lk).2.length + 1) Ap cp (builtS lk).2 A1 c1 l1 _ w1 hCp hcp (Kd.C_below HR.out (HB.out.trans (hb1.mono HB.out.size))) HHR.out (equal_is _ _ _ hlen (Nat.lt_succ_self _))
          have HOP := Lib.hid OPEN
          clear OPEN
          generalize builtS lk = st at *
          by_cases ht : txt (flatT st.1) = a0
          · have htl : (txt (flatT st.1)).toList = a0.toList := by rw [ht]
            by_cases hp : st.2 = l1
            · have HRES := HHH.out
              rw [if_pos (by rw [ht, hp])] at HRES
              simp only [Prod.mk.injEq] at HRES
              obtain ⟨rfl, rfl⟩ := HRES
              rw [decide_eq_true hp] at HOP
              clear hp ht HHH
              go_wp2_with (first | (go_at_call 24; refine hb.mono ?_; rintro e w1 ⟨hb1, bb, rfl, hS⟩; obtain ⟨Ao, mo, co, Ap, cp, x1, x2, x3, x4⟩ := HOP.out w1 bb hb1 hS; clear hS) | (go_at_call 31; refine x4.mono ?_; rintro e w2 ⟨rfl, hd2⟩; obtain ⟨nd, rfl⟩ := hd2.out) | (go_at_call 29; refine (hnil' _ (((HE.out.below HB.out).below hb1).below (below_drewN _ _))).mono ?_; rintro e w2 ⟨rfl, rfl⟩))
              go_ret2
              exact ⟨_, rfl, Kd.R_mono (Kd.R_below HRR2.out (hb1.trans ((below_drewN w1 nd).mono hb1.size))) (fun _ _ => trivial), HB.out.trans ((hb1.trans ((below_drewN w1 nd).mono hb1.size)).mono HB.out.size)⟩
            · have HRES := HHH.out
              rw [if_neg (by intro q; simp only [Prod.mk.injEq] at q; exact hp q.2.1)] at HRES
              simp only [Prod.mk.injEq] at HRES
              obtain ⟨rfl, rfl⟩ := HRES
              rw [decide_eq_false hp] at HOP
              clear hp ht HHH
              go_wp2_with (first | (go_at_call 24; refine hb.mono ?_; rintro e w1 ⟨hb1, bb, rfl, hS⟩; obtain ⟨Ao, mo, co, Ap, cp, x1, x2, x3, x4⟩ := HOP.out w1 bb hb1 hS; clear hS; have gd1 := ((HE.out.below HB.out).below hb1).dict.1) | (go_at_call 31; refine x4.mono ?_; rintro e w2 ⟨rfl, hd2⟩; obtain ⟨nd, rfl⟩ := hd2.out) | (go_at_call 29; refine (hdict' _ (((HE.out.below HB.out).below hb1).below (below_drewN _ _))).mono ?_; rintro e w2 ⟨rfl, rfl⟩))
              go_ret2
              exact ⟨_, rfl, Kd.R_nil _ _ _ _ _, HB.out.trans ((hb1.trans ((below_drewN w1 nd).mono hb1.size)).mono HB.out.size)⟩
          · have htl : ¬ (txt (flatT st.1)).toList = a0.toList := fun e => ht (ba_ext e)
            have HRES := HHH.out
            rw [if_neg (by intro q; simp only [Prod.mk.injEq] at q; exact ht q.1)] at HRES
            simp only [Prod.mk.injEq] at HRES
            obtain ⟨rfl, rfl⟩ := HRES
            clear ht HHH
            go_wp2_with (first | (go_at_call 24; refine hb.mono ?_; rintro e w1 ⟨hb1, bb, rfl, hS⟩; obtain ⟨Ao, mo, co, Ap, cp, x1, x2, x3, x4⟩ := HOP.out w1 bb hb1 hS; clear hS; have gd1 := ((HE.out.below HB.out).below hb1).dict.1) | (go_at_call 29; refine (hdict' _ ((HE.out.below HB.out).below hb1)).mono ?_; rintro e w2 ⟨rfl, rfl⟩))
            go_ret2
            exact ⟨_, rfl, Kd.R_nil _ _ _ _ _, HB.out.trans (hb1.mono HB.out.size)⟩
end Go.Proofs.YtbjbicaffblchaaGreatDoor.Hand
end
section
namespace Go.Proofs.YtbjbicaffblchaaGreatDoor.Hand
open Go.RowKit Go.Proofs.YtbjbicaffblchaaGreatDoorW Go.Proofs.YtbjbicaffblchaaGreatDoorW.PrintWords Go.Proofs.YtbjbicaffblchaaGreatDoor.SK
theorem isEmpty_clash2 {l : List UInt8} {b : Bool} {i_ : Decidable ((l != []) = b)} (h1 : @decide _ i_ = true) (h2 : ¬ l.isEmpty = !b) : False := by
  have h1 := of_decide_eq_true h1
  cases l <;> simp_all
theorem isEmpty_clash' {l : List UInt8} {b : Bool} {i_ : Decidable ((l != []) = b)} (h1 : @decide _ i_ = true) (h2 : l.isEmpty = b) : False := by
  have h1 := of_decide_eq_true h1
  cases l <;> simp_all
theorem isEmpty_clash {l : List UInt8} {b : Bool} (h1 : (l != []) = b) (h2 : l.isEmpty = b) : False := by
  cases l <;> cases b <;> simp_all
def eid_HalvesD.f (n : Int) (a1 a2 : ByteArray) (a3 a4 : Int) : Option (ByteArray × ByteArray × Int) := eid_Halves.f n a1 a2 a3 a4
theorem eid_HalvesD.calls (n : Int) (a1 a2 : ByteArray) (a3 a4 : Int) (r1 r2 : ByteArray) (r3 : Int) (w : World) (hLd : LaidD w) (h : eid_HalvesD.f n a1 a2 a3 a4 = some (r1, r2, r3)) :
    Calls Tryz.prog 22 #[.agg #[.int .i64 n, .string a1, .string a2, .int .i64 a3, .int .i64 a4]] w fun e w' => e = .returned (.tuple #[.string r1, .string r2, .int .i64 r3]) ∧ Below w.heap.size w w' :=
  eid_Halves.calls n a1 a2 a3 a4 r1 r2 r3 w hLd.laid h
end Go.Proofs.YtbjbicaffblchaaGreatDoor.Hand
end
section
namespace Go.Proofs.YtbjbicaffblchaaGreatDoor.SS
open Go.Proofs.YtbjbicaffblchaaGreatDoor.Hand
open Go.Proofs.YtbjbicaffblchaaGreatDoor.SA
open Go.Proofs.YtbjbicaffblchaaGreatDoor.SK
open Go.RowKit Go.Proofs.YtbjbicaffblchaaGreatDoorW.PrintWords Go.Proofs.YtbjbicaffblchaaGreatDoorW.PrintLast Go.Proofs.YtbjbicaffblchaaGreatDoorW.PrintMore
attribute [local go_sem] max2_int min2_int max_two min_two max_three min_three max_four min_four
set_option linter.unusedVariables false
set_option linter.unusedSimpArgs false
def errW : Option Int → Value
  | none => .nilIface
  | some c => .iface 0 (.int .i64 c)
theorem errW_none : errW none = .nilIface := rfl
theorem errW_some (c : Int) : errW (some c) = .iface 0 (.int .i64 c) := rfl
theorem info3 : (Tryz.prog.info? 3).map (fun i => (i.zero, i.size, i.bytes)) = some (some (.int .i64 0), 1, 8) := by kernel_rfl
theorem info9 : (Tryz.prog.info? 9).map (fun i => (i.zero, i.size, i.bytes)) = some (some (.string ⟨#[]⟩), 1, 16) := by kernel_rfl
theorem info41 : (Tryz.prog.info? 41).map (fun i => (i.zero, i.size, i.bytes)) = some (some (.agg #[(.int .i64 0), (.string ⟨#[]⟩), (.string ⟨#[]⟩), (.int .i64 0), (.int .i64 0)]), 5, 56) := by kernel_rfl
end Go.Proofs.YtbjbicaffblchaaGreatDoor.SS
end
section
namespace Go.Proofs.YtbjbicaffblchaaGreatDoor.SS
open Go.Proofs.YtbjbicaffblchaaGreatDoor.Hand
open Go.Proofs.YtbjbicaffblchaaGreatDoor.SA
open Go.Proofs.YtbjbicaffblchaaGreatDoor.SK
open Go.RowKit Go.Proofs.YtbjbicaffblchaaGreatDoorW.PrintWords Go.Proofs.YtbjbicaffblchaaGreatDoorW.PrintLast Go.Proofs.YtbjbicaffblchaaGreatDoorW.PrintMore
attribute [local go_sem] max2_int min2_int max_two min_two max_three min_three max_four min_four
set_option linter.unusedVariables false
set_option linter.unusedSimpArgs false
def postriderlaw07_shown.f (k : Nat)  : Option (Bool) := (dict_Build.f (([(⟨1, (⟨#[97]⟩ : ByteArray), (⟨#[98]⟩ : ByteArray), 0, 0⟩ : S41), (⟨0, (⟨#[]⟩ : ByteArray), (⟨#[]⟩ : ByteArray), 0, 0⟩ : S41), (⟨1, (⟨#[97]⟩ : ByteArray), (⟨#[98]⟩ : ByteArray), 0, 0⟩ : S41)] : List (S41)))).bind fun bt105 => ((dict_Read.f (⟨#[]⟩ : ByteArray) (([4, 7, 0, 0] : List Int))).bind fun bt113 => ((dict_Read.f (⟨#[]⟩ : ByteArray) (([0, 7] : List Int))).bind fun bt120 => ((dict_Texts.f bt105.1).bind fun bt124 => (if bt105.1.toList = ([100, 116, 110, 0, 47, 47, 97, 47, 98, 0, 110, 111, 110, 101, 0] : List UInt8) then ((postriderref02_Ints.f k bt105.2.1 (([0, 4, 0, 10, 0, 4] : List Int))).bind fun t131 => (if t131 = true then (if bt105.2.2 = 0 then ((postriderref06_Same.f k bt113.1 (([(⟨2, (⟨#[]⟩ : ByteArray), (⟨#[]⟩ : ByteArray), 4, 7⟩ : S41), (⟨0, (⟨#[]⟩ : ByteArray), (⟨#[]⟩ : ByteArray), 0, 0⟩ : S41)] : List (S41)))).bind fun t135 => (if t135 = true then (if bt113.2 = 0 then (if bt120.2 = 70 then ((postriderref07_SameTexts.f k bt124.1 (([(⟨#[100, 116, 110]⟩ : ByteArray), (⟨#[47, 47, 97, 47, 98]⟩ : ByteArray), (⟨#[110, 111, 110, 101]⟩ : ByteArray)] : List ByteArray))).bind fun t139 => (if t139 = true then (some (bt124.2 == 0)) else (none))) else (none)) else (none)) else (none))) else (none)) else (none))) else (none)))))
theorem postriderlaw07_shown.mono : ∀ k, LeO (postriderlaw07_shown.f k ) (postriderlaw07_shown.f (k + 1) ) := by
  intro  k
  unfold postriderlaw07_shown.f
  repeat' first
      | (with_reducible exact postriderref02_Ints.mono _ _ _)
      | (with_reducible exact postriderref06_Same.mono _ _ _)
      | (with_reducible exact postriderref07_SameTexts.mono _ _ _)
      | (with_reducible exact LeO.refl _)
      | (with_reducible exact LeO.none _)
      | (with_reducible refine LeO.ite ?_ ?_)
      | (with_reducible refine LeO.bind ?_ (fun _ => ?_))
      | exact postriderref02_Ints.mono _ _ _
      | exact postriderref06_Same.mono _ _ _
      | exact postriderref07_SameTexts.mono _ _ _
      | exact LeO.none _
      | refine LeO.ite ?_ ?_
      | refine LeO.bind ?_ (fun _ => ?_)
set_option maxHeartbeats 8000000 in
set_option maxRecDepth 100000 in
theorem postriderlaw07_shown.calls (k : Nat)  (r : Bool) (w : World) (hLd : LaidD w) (h : postriderlaw07_shown.f k  = some r) :
    Calls Tryz.prog 8 #[] w fun e w' => e = .returned (.bool r) ∧ Below w.heap.size w w' := by
  have hu41 := Tryz.underlying41
  have HLD := Aside0.mk hLd
  clear hLd
  have HB := Aside0.mk (Below.refl w.heap.size w)
  have H : ((dict_Build.f (([(⟨1, (⟨#[97]⟩ : ByteArray), (⟨#[98]⟩ : ByteArray), 0, 0⟩ : S41), (⟨0, (⟨#[]⟩ : ByteArray), (⟨#[]⟩ : ByteArray), 0, 0⟩ : S41), (⟨1, (⟨#[97]⟩ : ByteArray), (⟨#[98]⟩ : ByteArray), 0, 0⟩ : S41)] : List (S41)))).bind fun bt105 => ((dict_Read.f (⟨#[]⟩ : ByteArray) (([4, 7, 0, 0] : List Int))).bind fun bt113 => ((dict_Read.f (⟨#[]⟩ : ByteArray) (([0, 7] : List Int))).bind fun bt120 => ((dict_Texts.f bt105.1).bind fun bt124 => (if bt105.1.toList = ([100, 116, 110, 0, 47, 47, 97, 47, 98, 0, 110, 111, 110, 101, 0] : List UInt8) then ((postriderref02_Ints.f k bt105.2.1 (([0, 4, 0, 10, 0, 4] : List Int))).bind fun t131 => (if t131 = true then (if bt105.2.2 = 0 then ((postriderref06_Same.f k bt113.1 (([(⟨2, (⟨#[]⟩ : ByteArray), (⟨#[]⟩ : ByteArray), 4, 7⟩ : S41), (⟨0, (⟨#[]⟩ : ByteArray), (⟨#[]⟩ : ByteArray), 0, 0⟩ : S41)] : List (S41)))).bind fun t135 => (if t135 = true then (if bt113.2 = 0 then (if bt120.2 = 70 then ((postriderref07_SameTexts.f k bt124.1 (([(⟨#[100, 116, 110]⟩ : ByteArray), (⟨#[47, 47, 97, 47, 98]⟩ : ByteArray), (⟨#[110, 111, 110, 101]⟩ : ByteArray)] : List ByteArray))).bind fun t139 => (if t139 = true then (some (bt124.2 == 0)) else (none))) else (none)) else (none)) else (none))) else (none)) else (none))) else (none)))))) = some r := h
  clear h
  obtain ⟨y102, hy102⟩ : ∃ y_ : List (S41), y_ = (([(⟨1, (⟨#[97]⟩ : ByteArray), (⟨#[98]⟩ : ByteArray), 0, 0⟩ : S41), (⟨0, (⟨#[]⟩ : ByteArray), (⟨#[]⟩ : ByteArray), 0, 0⟩ : S41), (⟨1, (⟨#[97]⟩ : ByteArray), (⟨#[98]⟩ : ByteArray), 0, 0⟩ : S41)] : List (S41))) := ⟨_, rfl⟩
  replace H : ((dict_Build.f y102).bind fun bt105 => ((dict_Read.f (⟨#[]⟩ : ByteArray) (([4, 7, 0, 0] : List Int))).bind fun bt113 => ((dict_Read.f (⟨#[]⟩ : ByteArray) (([0, 7] : List Int))).bind fun bt120 => ((dict_Texts.f bt105.1).bind fun bt124 => (if bt105.1.toList = ([100, 116, 110, 0, 47, 47, 97, 47, 98, 0, 110, 111, 110, 101, 0] : List UInt8) then ((postriderref02_Ints.f k bt105.2.1 (([0, 4, 0, 10, 0, 4] : List Int))).bind fun t131 => (if t131 = true then (if bt105.2.2 = 0 then ((postriderref06_Same.f k bt113.1 (([(⟨2, (⟨#[]⟩ : ByteArray), (⟨#[]⟩ : ByteArray), 4, 7⟩ : S41), (⟨0, (⟨#[]⟩ : ByteArray), (⟨#[]⟩ : ByteArray), 0, 0⟩ : S41)] : List (S41)))).bind fun t135 => (if t135 = true then (if bt113.2 = 0 then (if bt120.2 = 70 then ((postriderref07_SameTexts.f k bt124.1 (([(⟨#[100, 116, 110]⟩ : ByteArray), (⟨#[47, 47, 97, 47, 98]⟩ : ByteArray), (⟨#[110, 111, 110, 101]⟩ : ByteArray)] : List ByteArray))).bind fun t139 => (if t139 = true then (some (bt124.2 == 0)) else (none))) else (none)) else (none)) else (none))) else (none)) else (none))) else (none)))))) = some r := by first | (rw [hy102]; with_reducible exact H) | (have H2_ := (Option.bind_some _ _).symm.trans H; rw [hy102]; with_reducible exact H2_) | (have H2_ := (Option.bind_some _ _).symm.trans H; with_reducible exact H2_) | with_reducible exact H | (rw [hy102]; exact H) | exact H
  have Ny102 := Aside0.mk hy102
  clear hy102
  replace H := Option.bind_eq_some_iff.mp H
  obtain ⟨⟨t105, t106, t107⟩, A10, H⟩ := H
  replace H : ((dict_Read.f (⟨#[]⟩ : ByteArray) (([4, 7, 0, 0] : List Int))).bind fun bt113 => ((dict_Read.f (⟨#[]⟩ : ByteArray) (([0, 7] : List Int))).bind fun bt120 => ((dict_Texts.f t105).bind fun bt124 => (if t105.toList = ([100, 116, 110, 0, 47, 47, 97, 47, 98, 0, 110, 111, 110, 101, 0] : List UInt8) then ((postriderref02_Ints.f k t106 (([0, 4, 0, 10, 0, 4] : List Int))).bind fun t131 => (if t131 = true then (if t107 = 0 then ((postriderref06_Same.f k bt113.1 (([(⟨2, (⟨#[]⟩ : ByteArray), (⟨#[]⟩ : ByteArray), 4, 7⟩ : S41), (⟨0, (⟨#[]⟩ : ByteArray), (⟨#[]⟩ : ByteArray), 0, 0⟩ : S41)] : List (S41)))).bind fun t135 => (if t135 = true then (if bt113.2 = 0 then (if bt120.2 = 70 then ((postriderref07_SameTexts.f k bt124.1 (([(⟨#[100, 116, 110]⟩ : ByteArray), (⟨#[47, 47, 97, 47, 98]⟩ : ByteArray), (⟨#[110, 111, 110, 101]⟩ : ByteArray)] : List ByteArray))).bind fun t139 => (if t139 = true then (some (bt124.2 == 0)) else (none))) else (none)) else (none)) else (none))) else (none)) else (none))) else (none))))) = some r := H
  have A1 := Aside0.mk A10
  clear A10
  obtain ⟨y110, hy110⟩ : ∃ y_ : List Int, y_ = (([4, 7, 0, 0] : List Int)) := ⟨_, rfl⟩
  replace H : ((dict_Read.f (⟨#[]⟩ : ByteArray) y110).bind fun bt113 => ((dict_Read.f (⟨#[]⟩ : ByteArray) (([0, 7] : List Int))).bind fun bt120 => ((dict_Texts.f t105).bind fun bt124 => (if t105.toList = ([100, 116, 110, 0, 47, 47, 97, 47, 98, 0, 110, 111, 110, 101, 0] : List UInt8) then ((postriderref02_Ints.f k t106 (([0, 4, 0, 10, 0, 4] : List Int))).bind fun t131 => (if t131 = true then (if t107 = 0 then ((postriderref06_Same.f k bt113.1 (([(⟨2, (⟨#[]⟩ : ByteArray), (⟨#[]⟩ : ByteArray), 4, 7⟩ : S41), (⟨0, (⟨#[]⟩ : ByteArray), (⟨#[]⟩ : ByteArray), 0, 0⟩ : S41)] : List (S41)))).bind fun t135 => (if t135 = true then (if bt113.2 = 0 then (if bt120.2 = 70 then ((postriderref07_SameTexts.f k bt124.1 (([(⟨#[100, 116, 110]⟩ : ByteArray), (⟨#[47, 47, 97, 47, 98]⟩ : ByteArray), (⟨#[110, 111, 110, 101]⟩ : ByteArray)] : List ByteArray))).bind fun t139 => (if t139 = true then (some (bt124.2 == 0)) else (none))) else (none)) else (none)) else (none))) else (none)) else (none))) else (none))))) = some r := by first | (rw [hy110]; with_reducible exact H) | (have H2_ := (Option.bind_some _ _).symm.trans H; rw [hy110]; with_reducible exact H2_) | (have H2_ := (Option.bind_some _ _).symm.trans H; with_reducible exact H2_) | with_reducible exact H | (rw [hy110]; exact H) | exact H
  have Ny110 := Aside0.mk hy110
  clear hy110
  replace H := Option.bind_eq_some_iff.mp H
  obtain ⟨⟨t113, t114⟩, A20, H⟩ := H
  replace H : ((dict_Read.f (⟨#[]⟩ : ByteArray) (([0, 7] : List Int))).bind fun bt120 => ((dict_Texts.f t105).bind fun bt124 => (if t105.toList = ([100, 116, 110, 0, 47, 47, 97, 47, 98, 0, 110, 111, 110, 101, 0] : List UInt8) then ((postriderref02_Ints.f k t106 (([0, 4, 0, 10, 0, 4] : List Int))).bind fun t131 => (if t131 = true then (if t107 = 0 then ((postriderref06_Same.f k t113 (([(⟨2, (⟨#[]⟩ : ByteArray), (⟨#[]⟩ : ByteArray), 4, 7⟩ : S41), (⟨0, (⟨#[]⟩ : ByteArray), (⟨#[]⟩ : ByteArray), 0, 0⟩ : S41)] : List (S41)))).bind fun t135 => (if t135 = true then (if t114 = 0 then (if bt120.2 = 70 then ((postriderref07_SameTexts.f k bt124.1 (([(⟨#[100, 116, 110]⟩ : ByteArray), (⟨#[47, 47, 97, 47, 98]⟩ : ByteArray), (⟨#[110, 111, 110, 101]⟩ : ByteArray)] : List ByteArray))).bind fun t139 => (if t139 = true then (some (bt124.2 == 0)) else (none))) else (none)) else (none)) else (none))) else (none)) else (none))) else (none)))) = some r := H
  have A2 := Aside0.mk A20
  clear A20
  obtain ⟨y117, hy117⟩ : ∃ y_ : List Int, y_ = (([0, 7] : List Int)) := ⟨_, rfl⟩
  replace H : ((dict_Read.f (⟨#[]⟩ : ByteArray) y117).bind fun bt120 => ((dict_Texts.f t105).bind fun bt124 => (if t105.toList = ([100, 116, 110, 0, 47, 47, 97, 47, 98, 0, 110, 111, 110, 101, 0] : List UInt8) then ((postriderref02_Ints.f k t106 (([0, 4, 0, 10, 0, 4] : List Int))).bind fun t131 => (if t131 = true then (if t107 = 0 then ((postriderref06_Same.f k t113 (([(⟨2, (⟨#[]⟩ : ByteArray), (⟨#[]⟩ : ByteArray), 4, 7⟩ : S41), (⟨0, (⟨#[]⟩ : ByteArray), (⟨#[]⟩ : ByteArray), 0, 0⟩ : S41)] : List (S41)))).bind fun t135 => (if t135 = true then (if t114 = 0 then (if bt120.2 = 70 then ((postriderref07_SameTexts.f k bt124.1 (([(⟨#[100, 116, 110]⟩ : ByteArray), (⟨#[47, 47, 97, 47, 98]⟩ : ByteArray), (⟨#[110, 111, 110, 101]⟩ : ByteArray)] : List ByteArray))).bind fun t139 => (if t139 = true then (some (bt124.2 == 0)) else (none))) else (none)) else (none)) else (none))) else (none)) else (none))) else (none)))) = some r := by first | (rw [hy117]; with_reducible exact H) | (have H2_ := (Option.bind_some _ _).symm.trans H; rw [hy117]; with_reducible exact H2_) | (have H2_ := (Option.bind_some _ _).symm.trans H; with_reducible exact H2_) | with_reducible exact H | (rw [hy117]; exact H) | exact H
  have Ny117 := Aside0.mk hy117
  clear hy117
  replace H := Option.bind_eq_some_iff.mp H
  obtain ⟨⟨t120, t121⟩, A30, H⟩ := H
  replace H : ((dict_Texts.f t105).bind fun bt124 => (if t105.toList = ([100, 116, 110, 0, 47, 47, 97, 47, 98, 0, 110, 111, 110, 101, 0] : List UInt8) then ((postriderref02_Ints.f k t106 (([0, 4, 0, 10, 0, 4] : List Int))).bind fun t131 => (if t131 = true then (if t107 = 0 then ((postriderref06_Same.f k t113 (([(⟨2, (⟨#[]⟩ : ByteArray), (⟨#[]⟩ : ByteArray), 4, 7⟩ : S41), (⟨0, (⟨#[]⟩ : ByteArray), (⟨#[]⟩ : ByteArray), 0, 0⟩ : S41)] : List (S41)))).bind fun t135 => (if t135 = true then (if t114 = 0 then (if t121 = 70 then ((postriderref07_SameTexts.f k bt124.1 (([(⟨#[100, 116, 110]⟩ : ByteArray), (⟨#[47, 47, 97, 47, 98]⟩ : ByteArray), (⟨#[110, 111, 110, 101]⟩ : ByteArray)] : List ByteArray))).bind fun t139 => (if t139 = true then (some (bt124.2 == 0)) else (none))) else (none)) else (none)) else (none))) else (none)) else (none))) else (none))) = some r := H
  have A3 := Aside0.mk A30
  clear A30
  replace H := Option.bind_eq_some_iff.mp H
  obtain ⟨⟨t124, t125⟩, A40, H⟩ := H
  replace H : (if t105.toList = ([100, 116, 110, 0, 47, 47, 97, 47, 98, 0, 110, 111, 110, 101, 0] : List UInt8) then ((postriderref02_Ints.f k t106 (([0, 4, 0, 10, 0, 4] : List Int))).bind fun t131 => (if t131 = true then (if t107 = 0 then ((postriderref06_Same.f k t113 (([(⟨2, (⟨#[]⟩ : ByteArray), (⟨#[]⟩ : ByteArray), 4, 7⟩ : S41), (⟨0, (⟨#[]⟩ : ByteArray), (⟨#[]⟩ : ByteArray), 0, 0⟩ : S41)] : List (S41)))).bind fun t135 => (if t135 = true then (if t114 = 0 then (if t121 = 70 then ((postriderref07_SameTexts.f k t124 (([(⟨#[100, 116, 110]⟩ : ByteArray), (⟨#[47, 47, 97, 47, 98]⟩ : ByteArray), (⟨#[110, 111, 110, 101]⟩ : ByteArray)] : List ByteArray))).bind fun t139 => (if t139 = true then (some (t125 == 0)) else (none))) else (none)) else (none)) else (none))) else (none)) else (none))) else (none)) = some r := H
  have A4 := Aside0.mk A40
  clear A40
  by_cases c5 : t105.toList = ([100, 116, 110, 0, 47, 47, 97, 47, 98, 0, 110, 111, 110, 101, 0] : List UInt8)
  · rw [if_pos c5] at H
    have c5b0 : (t105.toList == ([100, 116, 110, 0, 47, 47, 97, 47, 98, 0, 110, 111, 110, 101, 0] : List UInt8)) = true := beq_iff_eq.mpr c5
    have c5b1 : (t105.toList != ([100, 116, 110, 0, 47, 47, 97, 47, 98, 0, 110, 111, 110, 101, 0] : List UInt8)) = false := bne_eq_false_iff_eq.mpr c5
    clear c5
    obtain ⟨y128, hy128⟩ : ∃ y_ : List Int, y_ = (([0, 4, 0, 10, 0, 4] : List Int)) := ⟨_, rfl⟩
    replace H : ((postriderref02_Ints.f k t106 y128).bind fun t131 => (if t131 = true then (if t107 = 0 then ((postriderref06_Same.f k t113 (([(⟨2, (⟨#[]⟩ : ByteArray), (⟨#[]⟩ : ByteArray), 4, 7⟩ : S41), (⟨0, (⟨#[]⟩ : ByteArray), (⟨#[]⟩ : ByteArray), 0, 0⟩ : S41)] : List (S41)))).bind fun t135 => (if t135 = true then (if t114 = 0 then (if t121 = 70 then ((postriderref07_SameTexts.f k t124 (([(⟨#[100, 116, 110]⟩ : ByteArray), (⟨#[47, 47, 97, 47, 98]⟩ : ByteArray), (⟨#[110, 111, 110, 101]⟩ : ByteArray)] : List ByteArray))).bind fun t139 => (if t139 = true then (some (t125 == 0)) else (none))) else (none)) else (none)) else (none))) else (none)) else (none))) = some r := by first | (rw [hy128]; with_reducible exact H) | (have H2_ := (Option.bind_some _ _).symm.trans H; rw [hy128]; with_reducible exact H2_) | (have H2_ := (Option.bind_some _ _).symm.trans H; with_reducible exact H2_) | with_reducible exact H | (rw [hy128]; exact H) | exact H
    have Ny128 := Aside0.mk hy128
    clear hy128
    replace H := Option.bind_eq_some_iff.mp H
    obtain ⟨t131, A60, H⟩ := H
    replace H : (if t131 = true then (if t107 = 0 then ((postriderref06_Same.f k t113 (([(⟨2, (⟨#[]⟩ : ByteArray), (⟨#[]⟩ : ByteArray), 4, 7⟩ : S41), (⟨0, (⟨#[]⟩ : ByteArray), (⟨#[]⟩ : ByteArray), 0, 0⟩ : S41)] : List (S41)))).bind fun t135 => (if t135 = true then (if t114 = 0 then (if t121 = 70 then ((postriderref07_SameTexts.f k t124 (([(⟨#[100, 116, 110]⟩ : ByteArray), (⟨#[47, 47, 97, 47, 98]⟩ : ByteArray), (⟨#[110, 111, 110, 101]⟩ : ByteArray)] : List ByteArray))).bind fun t139 => (if t139 = true then (some (t125 == 0)) else (none))) else (none)) else (none)) else (none))) else (none)) else (none)) = some r := H
    have A6 := Aside0.mk A60
    clear A60
    by_cases c7 : t131 = true
    · subst c7
      have H1 : (if t107 = 0 then ((postriderref06_Same.f k t113 (([(⟨2, (⟨#[]⟩ : ByteArray), (⟨#[]⟩ : ByteArray), 4, 7⟩ : S41), (⟨0, (⟨#[]⟩ : ByteArray), (⟨#[]⟩ : ByteArray), 0, 0⟩ : S41)] : List (S41)))).bind fun t135 => (if t135 = true then (if t114 = 0 then (if t121 = 70 then ((postriderref07_SameTexts.f k t124 (([(⟨#[100, 116, 110]⟩ : ByteArray), (⟨#[47, 47, 97, 47, 98]⟩ : ByteArray), (⟨#[110, 111, 110, 101]⟩ : ByteArray)] : List ByteArray))).bind fun t139 => (if t139 = true then (some (t125 == 0)) else (none))) else (none)) else (none)) else (none))) else (none)) = some r := by rw [if_pos rfl] at H; exact H
      clear H
      have H := H1
      clear H1
      by_cases c8 : t107 = 0
      · rw [if_pos c8] at H
        have c8b0 : (t107 == 0) = true := beq_iff_eq.mpr c8
        have c8b1 : (t107 != 0) = false := bne_eq_false_iff_eq.mpr c8
        clear c8
        obtain ⟨y132, hy132⟩ : ∃ y_ : List (S41), y_ = (([(⟨2, (⟨#[]⟩ : ByteArray), (⟨#[]⟩ : ByteArray), 4, 7⟩ : S41), (⟨0, (⟨#[]⟩ : ByteArray), (⟨#[]⟩ : ByteArray), 0, 0⟩ : S41)] : List (S41))) := ⟨_, rfl⟩
        replace H : ((postriderref06_Same.f k t113 y132).bind fun t135 => (if t135 = true then (if t114 = 0 then (if t121 = 70 then ((postriderref07_SameTexts.f k t124 (([(⟨#[100, 116, 110]⟩ : ByteArray), (⟨#[47, 47, 97, 47, 98]⟩ : ByteArray), (⟨#[110, 111, 110, 101]⟩ : ByteArray)] : List ByteArray))).bind fun t139 => (if t139 = true then (some (t125 == 0)) else (none))) else (none)) else (none)) else (none))) = some r := by first | (rw [hy132]; with_reducible exact H) | (have H2_ := (Option.bind_some _ _).symm.trans H; rw [hy132]; with_reducible exact H2_) | (have H2_ := (Option.bind_some _ _).symm.trans H; with_reducible exact H2_) | with_reducible exact H | (rw [hy132]; exact H) | exact H
        have Ny132 := Aside0.mk hy132
        clear hy132
        replace H := Option.bind_eq_some_iff.mp H
        obtain ⟨t135, A90, H⟩ := H
        replace H : (if t135 = true then (if t114 = 0 then (if t121 = 70 then ((postriderref07_SameTexts.f k t124 (([(⟨#[100, 116, 110]⟩ : ByteArray), (⟨#[47, 47, 97, 47, 98]⟩ : ByteArray), (⟨#[110, 111, 110, 101]⟩ : ByteArray)] : List ByteArray))).bind fun t139 => (if t139 = true then (some (t125 == 0)) else (none))) else (none)) else (none)) else (none)) = some r := H
        have A9 := Aside0.mk A90
        clear A90
        by_cases c10 : t135 = true
        · subst c10
          have H1 : (if t114 = 0 then (if t121 = 70 then ((postriderref07_SameTexts.f k t124 (([(⟨#[100, 116, 110]⟩ : ByteArray), (⟨#[47, 47, 97, 47, 98]⟩ : ByteArray), (⟨#[110, 111, 110, 101]⟩ : ByteArray)] : List ByteArray))).bind fun t139 => (if t139 = true then (some (t125 == 0)) else (none))) else (none)) else (none)) = some r := by rw [if_pos rfl] at H; exact H
          clear H
          have H := H1
          clear H1
          by_cases c11 : t114 = 0
          · rw [if_pos c11] at H
            have c11b0 : (t114 == 0) = true := beq_iff_eq.mpr c11
            have c11b1 : (t114 != 0) = false := bne_eq_false_iff_eq.mpr c11
            clear c11
            by_cases c12 : t121 = 70
            · rw [if_pos c12] at H
              have c12b0 : (t121 == 70) = true := beq_iff_eq.mpr c12
              have c12b1 : (t121 != 70) = false := bne_eq_false_iff_eq.mpr c12
              clear c12
              obtain ⟨y136, hy136⟩ : ∃ y_ : List ByteArray, y_ = (([(⟨#[100, 116, 110]⟩ : ByteArray), (⟨#[47, 47, 97, 47, 98]⟩ : ByteArray), (⟨#[110, 111, 110, 101]⟩ : ByteArray)] : List ByteArray)) := ⟨_, rfl⟩
              replace H : ((postriderref07_SameTexts.f k t124 y136).bind fun t139 => (if t139 = true then (some (t125 == 0)) else (none))) = some r := by first | (rw [hy136]; with_reducible exact H) | (have H2_ := (Option.bind_some _ _).symm.trans H; rw [hy136]; with_reducible exact H2_) | (have H2_ := (Option.bind_some _ _).symm.trans H; with_reducible exact H2_) | with_reducible exact H | (rw [hy136]; exact H) | exact H
              have Ny136 := Aside0.mk hy136
              clear hy136
              replace H := Option.bind_eq_some_iff.mp H
              obtain ⟨t139, A130, H⟩ := H
              replace H : (if t139 = true then (some (t125 == 0)) else (none)) = some r := H
              have A13 := Aside0.mk A130
              clear A130
              by_cases c14 : t139 = true
              · subst c14
                have H1 : (some (t125 == 0)) = some r := by rw [if_pos rfl] at H; exact H
                clear H
                have H := H1
                clear H1
                obtain rfl := Option.some.inj H
                go_enter Tryz.func8, Tryz.ntmps8
                go_wp2_with (first | ((with_reducible refine gate_dst (N := 1) rfl ?_); (try (refine gate_guard (by rfl) ?_; dsimp only)); refine box_event ?hg (N := 1) ?hd (cs := #[.int .i64 0, .string (⟨#[]⟩ : ByteArray), .string (⟨#[]⟩ : ByteArray), .int .i64 0, .int .i64 0]) (t := 41) ?hr ?_; (case hd => rfl); (case hg => rfl); (case hr => first | (go_simp; done) | (go_simp; rfl) | (go_simp; simp only [isEmpty_ne, isEmpty_eq]; done) | (go_simp; simp only [isEmpty_ne, isEmpty_eq]; rfl)); intro gb101 hg w15 hbox hb; have n0_ := Aside0.mk (below_step (by repeat (first | (with_reducible first | exact HB.out | apply below_alloc | apply pw_below_drewN | apply below_drew1) | exact HB.out)) hb); have n1_ := Aside0.mk (hbox); have n2_ := Aside0.mk ((by rw [hg]; exact (below_size (by repeat (first | (with_reducible first | exact HB.out | apply below_alloc | apply pw_below_drewN | apply below_drew1) | exact HB.out))) : w.heap.size ≤ gb101)); have n3_ := Aside0.mk ((by rw [hg]; exact (below_size (by repeat (first | (with_reducible first | exact HB.out | apply below_alloc | apply pw_below_drewN | apply below_drew1) | exact HB.out))) : w.heap.size ≤ gb101)); clear HB; have HB := n0_; have BK101 := n1_; have GW101 := n2_; have GE101 := n3_; clear n0_ n1_ n2_ n3_; clear hb hbox hg; have hcz16_0 : w15.cell? ⟨gb101, 0, none⟩ = some (.int .i64 0) := (blk_cell BK101.out 0).trans rfl; have hcz16_1 : w15.cell? ⟨gb101, 1, none⟩ = some (.string (⟨#[]⟩ : ByteArray)) := (blk_cell BK101.out 1).trans rfl; have hcz16_2 : w15.cell? ⟨gb101, 2, none⟩ = some (.string (⟨#[]⟩ : ByteArray)) := (blk_cell BK101.out 2).trans rfl; have hcz16_3 : w15.cell? ⟨gb101, 3, none⟩ = some (.int .i64 0) := (blk_cell BK101.out 3).trans rfl; have hcz16_4 : w15.cell? ⟨gb101, 4, none⟩ = some (.int .i64 0) := (blk_cell BK101.out 4).trans rfl; have hfz16_0 := blk_frozen BK101.out 0; have hfz16_1 := blk_frozen BK101.out 1; have hfz16_2 := blk_frozen BK101.out 2; have hfz16_3 := blk_frozen BK101.out 3; have hfz16_4 := blk_frozen BK101.out 4) | ((with_reducible refine gate_dst (N := 16) rfl ?_); (try (refine gate_guard (by rfl) ?_; dsimp only)); refine Kd.R_lit k41 _ 41 ?hg (N := 16) ?hd (xs := ([(⟨1, (⟨#[97]⟩ : ByteArray), (⟨#[98]⟩ : ByteArray), 0, 0⟩ : S41), (⟨0, (⟨#[]⟩ : ByteArray), (⟨#[]⟩ : ByteArray), 0, 0⟩ : S41), (⟨1, (⟨#[97]⟩ : ByteArray), (⟨#[98]⟩ : ByteArray), 0, 0⟩ : S41)] : List (S41))) (inner := [.int .i64 1, .string (⟨#[97]⟩ : ByteArray), .string (⟨#[98]⟩ : ByteArray), .int .i64 0, .int .i64 0, .int .i64 0, .string (⟨#[]⟩ : ByteArray), .string (⟨#[]⟩ : ByteArray), .int .i64 0, .int .i64 0, .int .i64 1, .string (⟨#[97]⟩ : ByteArray), .string (⟨#[98]⟩ : ByteArray), .int .i64 0, .int .i64 0]) (ok := fun _ => True) (okp := fun _ => True) ?hr ?hp (fun _ hk => hk) trivial (Below.refl _ _) (Nat.le_refl _) (by simp) ?_; (case hd => rfl); (case hg => rfl); (case hr => first | (go_simp; done) | (go_simp; rfl) | (go_simp; simp only [isEmpty_ne, isEmpty_eq]; done) | (go_simp; simp only [isEmpty_ne, isEmpty_eq]; rfl)); (case hp => exact (Reps.c5 (show Kd.M k41 _ _ _ (⟨1, (⟨#[97]⟩ : ByteArray), (⟨#[98]⟩ : ByteArray), 0, 0⟩ : S41) [.int .i64 1, .string (⟨#[97]⟩ : ByteArray), .string (⟨#[98]⟩ : ByteArray), .int .i64 0, .int .i64 0] from (k41_mkM _ _ _ (⟨1, (⟨#[97]⟩ : ByteArray), (⟨#[98]⟩ : ByteArray), 0, 0⟩ : S41) )) (Reps.c5 (show Kd.M k41 _ _ _ (⟨0, (⟨#[]⟩ : ByteArray), (⟨#[]⟩ : ByteArray), 0, 0⟩ : S41) [.int .i64 0, .string (⟨#[]⟩ : ByteArray), .string (⟨#[]⟩ : ByteArray), .int .i64 0, .int .i64 0] from (k41_mkM _ _ _ (⟨0, (⟨#[]⟩ : ByteArray), (⟨#[]⟩ : ByteArray), 0, 0⟩ : S41) )) (Reps.c5 (show Kd.M k41 _ _ _ (⟨1, (⟨#[97]⟩ : ByteArray), (⟨#[98]⟩ : ByteArray), 0, 0⟩ : S41) [.int .i64 1, .string (⟨#[97]⟩ : ByteArray), .string (⟨#[98]⟩ : ByteArray), .int .i64 0, .int .i64 0] from (k41_mkM _ _ _ (⟨1, (⟨#[97]⟩ : ByteArray), (⟨#[98]⟩ : ByteArray), 0, 0⟩ : S41) )) (Reps.none _ _))))); intro v103 w17 ho18 hb hg_ hnew_; clear hg_ hnew_; (first | rw [← Ny102.out] at ho18 | (simp only [Int.reduceToNat] at ho18; rw [← Ny102.out] at ho18)); have n0_ := Aside0.mk (Kd.R_lower (Kd.R_newB ho18 (g := gb101) (o := .cells #[.int .i64 1, .string (⟨#[97]⟩ : ByteArray), .string (⟨#[98]⟩ : ByteArray), .int .i64 0, .int .i64 0] 41 (0, 0)) (by (with_reducible repeat (first | refine blk_drewN ?_ _ | refine blk_drew ?_ | refine blk_alloc ?_ _)); refine blk_put (cs := #[.int .i64 1, .string (⟨#[97]⟩ : ByteArray), .string (⟨#[98]⟩ : ByteArray), .int .i64 0, .int .i64 0]) ?_ 4 _ rfl; (with_reducible repeat (first | refine blk_drewN ?_ _ | refine blk_drew ?_ | refine blk_alloc ?_ _)); refine blk_put (cs := #[.int .i64 1, .string (⟨#[97]⟩ : ByteArray), .string (⟨#[98]⟩ : ByteArray), .int .i64 0, .int .i64 0]) ?_ 3 _ rfl; (with_reducible repeat (first | refine blk_drewN ?_ _ | refine blk_drew ?_ | refine blk_alloc ?_ _)); refine blk_put (cs := #[.int .i64 1, .string (⟨#[97]⟩ : ByteArray), .string (⟨#[]⟩ : ByteArray), .int .i64 0, .int .i64 0]) ?_ 2 _ rfl; (with_reducible repeat (first | refine blk_drewN ?_ _ | refine blk_drew ?_ | refine blk_alloc ?_ _)); refine blk_put (cs := #[.int .i64 1, .string (⟨#[]⟩ : ByteArray), .string (⟨#[]⟩ : ByteArray), .int .i64 0, .int .i64 0]) ?_ 1 _ rfl; (with_reducible repeat (first | refine blk_drewN ?_ _ | refine blk_drew ?_ | refine blk_alloc ?_ _)); refine blk_put (cs := #[.int .i64 0, .string (⟨#[]⟩ : ByteArray), .string (⟨#[]⟩ : ByteArray), .int .i64 0, .int .i64 0]) ?_ 0 _ rfl; (with_reducible repeat (first | refine blk_drewN ?_ _ | refine blk_drew ?_ | refine blk_alloc ?_ _)); exact BK101.out)) (below_size (by repeat (first | (with_reducible first | exact HB.out | apply below_alloc | apply pw_below_drewN | apply below_drew1 | refine below_set ?_ GE101.out) | exact HB.out)))); have n1_ := Aside0.mk (blk_below (g := gb101) (o := .cells #[.int .i64 1, .string (⟨#[97]⟩ : ByteArray), .string (⟨#[98]⟩ : ByteArray), .int .i64 0, .int .i64 0] 41 (0, 0)) (by (with_reducible repeat (first | refine blk_drewN ?_ _ | refine blk_drew ?_ | refine blk_alloc ?_ _)); refine blk_put (cs := #[.int .i64 1, .string (⟨#[97]⟩ : ByteArray), .string (⟨#[98]⟩ : ByteArray), .int .i64 0, .int .i64 0]) ?_ 4 _ rfl; (with_reducible repeat (first | refine blk_drewN ?_ _ | refine blk_drew ?_ | refine blk_alloc ?_ _)); refine blk_put (cs := #[.int .i64 1, .string (⟨#[97]⟩ : ByteArray), .string (⟨#[98]⟩ : ByteArray), .int .i64 0, .int .i64 0]) ?_ 3 _ rfl; (with_reducible repeat (first | refine blk_drewN ?_ _ | refine blk_drew ?_ | refine blk_alloc ?_ _)); refine blk_put (cs := #[.int .i64 1, .string (⟨#[97]⟩ : ByteArray), .string (⟨#[]⟩ : ByteArray), .int .i64 0, .int .i64 0]) ?_ 2 _ rfl; (with_reducible repeat (first | refine blk_drewN ?_ _ | refine blk_drew ?_ | refine blk_alloc ?_ _)); refine blk_put (cs := #[.int .i64 1, .string (⟨#[]⟩ : ByteArray), .string (⟨#[]⟩ : ByteArray), .int .i64 0, .int .i64 0]) ?_ 1 _ rfl; (with_reducible repeat (first | refine blk_drewN ?_ _ | refine blk_drew ?_ | refine blk_alloc ?_ _)); refine blk_put (cs := #[.int .i64 0, .string (⟨#[]⟩ : ByteArray), .string (⟨#[]⟩ : ByteArray), .int .i64 0, .int .i64 0]) ?_ 0 _ rfl; (with_reducible repeat (first | refine blk_drewN ?_ _ | refine blk_drew ?_ | refine blk_alloc ?_ _)); exact BK101.out) hb); have n2_ := Aside0.mk (below_step (by repeat (first | (with_reducible first | exact HB.out | apply below_alloc | apply pw_below_drewN | apply below_drew1 | refine below_set ?_ GE101.out) | exact HB.out)) hb); clear BK101; clear HB; have HO104 := n0_; have BK101 := n1_; have HB := n2_; clear n0_ n1_ n2_; clear hb ho18; obtain ⟨Ao19, co19, eo19⟩ := Kd.R_slice HO104.out; subst eo19) | ((with_reducible refine gate_callee (f := 12) rfl ?_); refine goesL_ (some 17) rfl rfl Tryz.func12 (by kernel_rfl) rfl #[.slice Ao19 y102.length co19] rfl (by (try simp only [List.map_toArray, List.map_cons, List.map_nil]); first | done | rfl | (simp only [List.length_drop, List.length_take]; rfl)) ?_; (with_reducible refine (dict_Build.calls _ _ y102 t105 t106 t107 _ ?side1 ?side2 ?side3 A1.out).mono ?_); (case side1 => repeat (first | exact (Kd.R_reads' HO104.out).2.2 | (with_reducible refine Kd.C_alloc ?_ _) | (with_reducible refine Kd.C_drewN ?_ _) | (with_reducible refine Kd.C_drew ?_))); (case side2 => exact (Kd.R_reads' HO104.out).2.1); (case side3 => exact LaidD.below HLD.out (by repeat (first | (with_reducible first | exact HB.out | apply below_alloc | apply pw_below_drewN | apply below_drew1 | refine below_set ?_ GE101.out) | exact HB.out))); rintro e w20 ⟨v108, rfl, ho0, hb⟩; refine ⟨_, rfl, ?_⟩; have n0_ := Aside0.mk (Kd.R_below (by (with_reducible repeat (first | apply Kd.R_alloc | apply Kd.R_drewN | apply Kd.R_drew)); exact HO104.out) hb); have n1_ := Aside0.mk (Kd.R_lower ho0 (below_size (by repeat (first | (with_reducible first | exact HB.out | apply below_alloc | apply pw_below_drewN | apply below_drew1 | refine below_set ?_ GE101.out) | exact HB.out)))); have n2_ := Aside0.mk (blk_below (g := gb101) (o := .cells #[.int .i64 1, .string (⟨#[97]⟩ : ByteArray), .string (⟨#[98]⟩ : ByteArray), .int .i64 0, .int .i64 0] 41 (0, 0)) (by (with_reducible repeat (first | refine blk_drewN ?_ _ | refine blk_drew ?_ | refine blk_alloc ?_ _)); exact BK101.out) hb); have n3_ := Aside0.mk (below_step (by repeat (first | (with_reducible first | exact HB.out | apply below_alloc | apply pw_below_drewN | apply below_drew1 | refine below_set ?_ GE101.out) | exact HB.out)) hb); clear HO104; clear BK101; clear HB; have HO104 := n0_; have HO109 := n1_; have BK101 := n2_; have HB := n3_; clear n0_ n1_ n2_ n3_; (try clear hb); (try clear hb2); (try clear hk); (try clear hi); (try clear ho0)) | ((with_reducible refine gate_dst (N := 22) rfl ?_); (try (refine gate_guard (by rfl) ?_; dsimp only)); refine Kd.R_lit (Kd.int .i64) _ 3 ?hg (N := 22) ?hd (xs := ([4, 7, 0, 0] : List Int)) (inner := [.int .i64 4, .int .i64 7, .int .i64 0, .int .i64 0]) (ok := fun _ => True) (okp := fun _ => True) ?hr ?hp (fun _ hk => hk) trivial (Below.refl _ _) (Nat.le_refl _) (by simp) ?_; (case hd => rfl); (case hg => rfl); (case hr => first | (go_simp; done) | (go_simp; rfl) | (go_simp; simp only [isEmpty_ne, isEmpty_eq]; done) | (go_simp; simp only [isEmpty_ne, isEmpty_eq]; rfl)); (case hp => exact (Reps.one (show Kd.M (Kd.int .i64) _ _ _ 4 [.int .i64 4] from rfl) (Reps.one (show Kd.M (Kd.int .i64) _ _ _ 7 [.int .i64 7] from rfl) (Reps.one (show Kd.M (Kd.int .i64) _ _ _ 0 [.int .i64 0] from rfl) (Reps.one (show Kd.M (Kd.int .i64) _ _ _ 0 [.int .i64 0] from rfl) (Reps.none _ _)))))); intro v111 w21 ho22 hb hg_ hnew_; clear hg_ hnew_; (first | rw [← Ny110.out] at ho22 | (simp only [Int.reduceToNat] at ho22; rw [← Ny110.out] at ho22)); have n0_ := Aside0.mk (Kd.R_below (by (with_reducible repeat (first | apply Kd.R_alloc | apply Kd.R_drewN | apply Kd.R_drew)); exact HO104.out) hb); have n1_ := Aside0.mk (Kd.R_elder' (by (with_reducible repeat (first | apply Kd.R_alloc | apply Kd.R_drewN | apply Kd.R_drew)); exact HO109.out) (Kd.R_base ho22) hb); have n2_ := Aside0.mk (Kd.R_lower (Kd.R_new' ho22 (Kd.R_lt (by (with_reducible repeat (first | apply Kd.R_alloc | apply Kd.R_drewN | apply Kd.R_drew)); exact HO109.out))) (below_size (by repeat (first | (with_reducible first | exact HB.out | apply below_alloc | apply pw_below_drewN | apply below_drew1 | refine below_set ?_ GE101.out) | exact HB.out)))); have n3_ := Aside0.mk (blk_below (g := gb101) (o := .cells #[.int .i64 1, .string (⟨#[97]⟩ : ByteArray), .string (⟨#[98]⟩ : ByteArray), .int .i64 0, .int .i64 0] 41 (0, 0)) (by (with_reducible repeat (first | refine blk_drewN ?_ _ | refine blk_drew ?_ | refine blk_alloc ?_ _)); exact BK101.out) hb); have n4_ := Aside0.mk (below_step (by repeat (first | (with_reducible first | exact HB.out | apply below_alloc | apply pw_below_drewN | apply below_drew1 | refine below_set ?_ GE101.out) | exact HB.out)) hb); clear HO104; clear HO109; clear BK101; clear HB; have HO104 := n0_; have HO109 := n1_; have HO112 := n2_; have BK101 := n3_; have HB := n4_; clear n0_ n1_ n2_ n3_ n4_; clear hb ho22; obtain ⟨Ao23, co23, eo23⟩ := Kd.R_slice HO112.out; subst eo23) | ((with_reducible refine gate_callee (f := 14) rfl ?_); refine goesL_ (some 23) rfl rfl Tryz.func14 (by kernel_rfl) rfl #[.string (⟨#[]⟩ : ByteArray), .slice Ao23 y110.length co23] rfl (by (try simp only [List.map_toArray, List.map_cons, List.map_nil]); first | done | rfl | (simp only [List.length_drop, List.length_take]; rfl)) ?_; (with_reducible refine (dict_Read.calls (⟨#[]⟩ : ByteArray) _ _ y110 t113 t114 _ ?side1 ?side2 ?side3 A2.out).mono ?_); (case side1 => repeat (first | exact (Kd.R_reads' HO112.out).2.2 | (with_reducible refine Kd.C_alloc ?_ _) | (with_reducible refine Kd.C_drewN ?_ _) | (with_reducible refine Kd.C_drew ?_))); (case side2 => exact (Kd.R_reads' HO112.out).2.1); (case side3 => exact LaidD.below HLD.out (by repeat (first | (with_reducible first | exact HB.out | apply below_alloc | apply pw_below_drewN | apply below_drew1 | refine below_set ?_ GE101.out) | exact HB.out))); rintro e w24 ⟨v115, rfl, ho0, hb⟩; refine ⟨_, rfl, ?_⟩; have n0_ := Aside0.mk (Kd.R_elder' (by (with_reducible repeat (first | apply Kd.R_alloc | apply Kd.R_drewN | apply Kd.R_drew)); exact HO104.out) (Kd.R_base ho0) hb); have n1_ := Aside0.mk (Kd.R_below (by (with_reducible repeat (first | apply Kd.R_alloc | apply Kd.R_drewN | apply Kd.R_drew)); exact HO109.out) hb); have n2_ := Aside0.mk (Kd.R_below (by (with_reducible repeat (first | apply Kd.R_alloc | apply Kd.R_drewN | apply Kd.R_drew)); exact HO112.out) hb); have n3_ := Aside0.mk (Kd.R_lower (Kd.R_newB (Kd.R_new' ho0 (Kd.R_lt (by (with_reducible repeat (first | apply Kd.R_alloc | apply Kd.R_drewN | apply Kd.R_drew)); exact HO104.out))) (g := gb101) (o := .cells #[.int .i64 1, .string (⟨#[97]⟩ : ByteArray), .string (⟨#[98]⟩ : ByteArray), .int .i64 0, .int .i64 0] 41 (0, 0)) (by (with_reducible repeat (first | refine blk_drewN ?_ _ | refine blk_drew ?_ | refine blk_alloc ?_ _)); exact BK101.out)) (below_size (by repeat (first | (with_reducible first | exact HB.out | apply below_alloc | apply pw_below_drewN | apply below_drew1 | refine below_set ?_ GE101.out) | exact HB.out)))); have n4_ := Aside0.mk (blk_below (g := gb101) (o := .cells #[.int .i64 1, .string (⟨#[97]⟩ : ByteArray), .string (⟨#[98]⟩ : ByteArray), .int .i64 0, .int .i64 0] 41 (0, 0)) (by (with_reducible repeat (first | refine blk_drewN ?_ _ | refine blk_drew ?_ | refine blk_alloc ?_ _)); exact BK101.out) hb); have n5_ := Aside0.mk (below_step (by repeat (first | (with_reducible first | exact HB.out | apply below_alloc | apply pw_below_drewN | apply below_drew1 | refine below_set ?_ GE101.out) | exact HB.out)) hb); clear HO104; clear HO109; clear HO112; clear BK101; clear HB; have HO104 := n0_; have HO109 := n1_; have HO112 := n2_; have HO116 := n3_; have BK101 := n4_; have HB := n5_; clear n0_ n1_ n2_ n3_ n4_ n5_; (try clear hb); (try clear hb2); (try clear hk); (try clear hi); (try clear ho0)) | ((with_reducible refine gate_dst (N := 27) rfl ?_); (try (refine gate_guard (by rfl) ?_; dsimp only)); refine Kd.R_lit (Kd.int .i64) _ 3 ?hg (N := 27) ?hd (xs := ([0, 7] : List Int)) (inner := [.int .i64 0, .int .i64 7]) (ok := fun _ => True) (okp := fun _ => True) ?hr ?hp (fun _ hk => hk) trivial (Below.refl _ _) (Nat.le_refl _) (by simp) ?_; (case hd => rfl); (case hg => rfl); (case hr => first | (go_simp; done) | (go_simp; rfl) | (go_simp; simp only [isEmpty_ne, isEmpty_eq]; done) | (go_simp; simp only [isEmpty_ne, isEmpty_eq]; rfl)); (case hp => exact (Reps.one (show Kd.M (Kd.int .i64) _ _ _ 0 [.int .i64 0] from rfl) (Reps.one (show Kd.M (Kd.int .i64) _ _ _ 7 [.int .i64 7] from rfl) (Reps.none _ _)))); intro v118 w25 ho26 hb hg_ hnew_; clear hg_ hnew_; (first | rw [← Ny117.out] at ho26 | (simp only [Int.reduceToNat] at ho26; rw [← Ny117.out] at ho26)); have n0_ := Aside0.mk (Kd.R_below (by (with_reducible repeat (first | apply Kd.R_alloc | apply Kd.R_drewN | apply Kd.R_drew)); exact HO104.out) hb); have n1_ := Aside0.mk (Kd.R_elder' (by (with_reducible repeat (first | apply Kd.R_alloc | apply Kd.R_drewN | apply Kd.R_drew)); exact HO109.out) (Kd.R_base ho26) hb); have n2_ := Aside0.mk (Kd.R_elder' (by (with_reducible repeat (first | apply Kd.R_alloc | apply Kd.R_drewN | apply Kd.R_drew)); exact HO112.out) (Kd.R_base ho26) hb); have n3_ := Aside0.mk (Kd.R_below (by (with_reducible repeat (first | apply Kd.R_alloc | apply Kd.R_drewN | apply Kd.R_drew)); exact HO116.out) hb); have n4_ := Aside0.mk (Kd.R_lower (Kd.R_new' (Kd.R_new' ho26 (Kd.R_lt (by (with_reducible repeat (first | apply Kd.R_alloc | apply Kd.R_drewN | apply Kd.R_drew)); exact HO109.out))) (Kd.R_lt (by (with_reducible repeat (first | apply Kd.R_alloc | apply Kd.R_drewN | apply Kd.R_drew)); exact HO112.out))) (below_size (by repeat (first | (with_reducible first | exact HB.out | apply below_alloc | apply pw_below_drewN | apply below_drew1 | refine below_set ?_ GE101.out) | exact HB.out)))); have n5_ := Aside0.mk (blk_below (g := gb101) (o := .cells #[.int .i64 1, .string (⟨#[97]⟩ : ByteArray), .string (⟨#[98]⟩ : ByteArray), .int .i64 0, .int .i64 0] 41 (0, 0)) (by (with_reducible repeat (first | refine blk_drewN ?_ _ | refine blk_drew ?_ | refine blk_alloc ?_ _)); exact BK101.out) hb); have n6_ := Aside0.mk (below_step (by repeat (first | (with_reducible first | exact HB.out | apply below_alloc | apply pw_below_drewN | apply below_drew1 | refine below_set ?_ GE101.out) | exact HB.out)) hb); clear HO104; clear HO109; clear HO112; clear HO116; clear BK101; clear HB; have HO104 := n0_; have HO109 := n1_; have HO112 := n2_; have HO116 := n3_; have HO119 := n4_; have BK101 := n5_; have HB := n6_; clear n0_ n1_ n2_ n3_ n4_ n5_ n6_; clear hb ho26; obtain ⟨Ao27, co27, eo27⟩ := Kd.R_slice HO119.out; subst eo27) | ((with_reducible refine gate_callee (f := 14) rfl ?_); refine goesL_ (some 28) rfl rfl Tryz.func14 (by kernel_rfl) rfl #[.string (⟨#[]⟩ : ByteArray), .slice Ao27 y117.length co27] rfl (by (try simp only [List.map_toArray, List.map_cons, List.map_nil]); first | done | rfl | (simp only [List.length_drop, List.length_take]; rfl)) ?_; (with_reducible refine (dict_Read.calls (⟨#[]⟩ : ByteArray) _ _ y117 t120 t121 _ ?side1 ?side2 ?side3 A3.out).mono ?_); (case side1 => repeat (first | exact (Kd.R_reads' HO119.out).2.2 | (with_reducible refine Kd.C_alloc ?_ _) | (with_reducible refine Kd.C_drewN ?_ _) | (with_reducible refine Kd.C_drew ?_))); (case side2 => exact (Kd.R_reads' HO119.out).2.1); (case side3 => exact LaidD.below HLD.out (by repeat (first | (with_reducible first | exact HB.out | apply below_alloc | apply pw_below_drewN | apply below_drew1 | refine below_set ?_ GE101.out) | exact HB.out))); rintro e w28 ⟨v122, rfl, ho0, hb⟩; refine ⟨_, rfl, ?_⟩; have n0_ := Aside0.mk (Kd.R_elder' (by (with_reducible repeat (first | apply Kd.R_alloc | apply Kd.R_drewN | apply Kd.R_drew)); exact HO104.out) (Kd.R_base ho0) hb); have n1_ := Aside0.mk (Kd.R_below (by (with_reducible repeat (first | apply Kd.R_alloc | apply Kd.R_drewN | apply Kd.R_drew)); exact HO109.out) hb); have n2_ := Aside0.mk (Kd.R_below (by (with_reducible repeat (first | apply Kd.R_alloc | apply Kd.R_drewN | apply Kd.R_drew)); exact HO112.out) hb); have n3_ := Aside0.mk (Kd.R_elder' (by (with_reducible repeat (first | apply Kd.R_alloc | apply Kd.R_drewN | apply Kd.R_drew)); exact HO116.out) (Kd.R_base ho0) hb); have n4_ := Aside0.mk (Kd.R_below (by (with_reducible repeat (first | apply Kd.R_alloc | apply Kd.R_drewN | apply Kd.R_drew)); exact HO119.out) hb); have n5_ := Aside0.mk (Kd.R_lower (Kd.R_newB (Kd.R_new' (Kd.R_new' ho0 (Kd.R_lt (by (with_reducible repeat (first | apply Kd.R_alloc | apply Kd.R_drewN | apply Kd.R_drew)); exact HO104.out))) (Kd.R_lt (by (with_reducible repeat (first | apply Kd.R_alloc | apply Kd.R_drewN | apply Kd.R_drew)); exact HO116.out))) (g := gb101) (o := .cells #[.int .i64 1, .string (⟨#[97]⟩ : ByteArray), .string (⟨#[98]⟩ : ByteArray), .int .i64 0, .int .i64 0] 41 (0, 0)) (by (with_reducible repeat (first | refine blk_drewN ?_ _ | refine blk_drew ?_ | refine blk_alloc ?_ _)); exact BK101.out)) (below_size (by repeat (first | (with_reducible first | exact HB.out | apply below_alloc | apply pw_below_drewN | apply below_drew1 | refine below_set ?_ GE101.out) | exact HB.out)))); have n6_ := Aside0.mk (blk_below (g := gb101) (o := .cells #[.int .i64 1, .string (⟨#[97]⟩ : ByteArray), .string (⟨#[98]⟩ : ByteArray), .int .i64 0, .int .i64 0] 41 (0, 0)) (by (with_reducible repeat (first | refine blk_drewN ?_ _ | refine blk_drew ?_ | refine blk_alloc ?_ _)); exact BK101.out) hb); have n7_ := Aside0.mk (below_step (by repeat (first | (with_reducible first | exact HB.out | apply below_alloc | apply pw_below_drewN | apply below_drew1 | refine below_set ?_ GE101.out) | exact HB.out)) hb); clear HO104; clear HO109; clear HO112; clear HO116; clear HO119; clear BK101; clear HB; have HO104 := n0_; have HO109 := n1_; have HO112 := n2_; have HO116 := n3_; have HO119 := n4_; have HO123 := n5_; have BK101 := n6_; have HB := n7_; clear n0_ n1_ n2_ n3_ n4_ n5_ n6_ n7_; (try clear hb); (try clear hb2); (try clear hk); (try clear hi); (try clear ho0)) | ((with_reducible refine gate_callee (f := 16) rfl ?_); refine goesL_ (some 33) rfl rfl Tryz.func16 (by kernel_rfl) rfl #[.string t105] rfl (by (try simp only [List.map_toArray, List.map_cons, List.map_nil]); first | done | rfl | (simp only [List.length_drop, List.length_take]; rfl)) ?_; (with_reducible refine (dict_Texts.calls t105 t124 t125 _ ?side1 A4.out).mono ?_); (case side1 => exact LaidD.below HLD.out (by repeat (first | (with_reducible first | exact HB.out | apply below_alloc | apply pw_below_drewN | apply below_drew1 | refine below_set ?_ GE101.out) | exact HB.out))); rintro e w29 ⟨v126, rfl, ho0, hb⟩; refine ⟨_, rfl, ?_⟩; have n0_ := Aside0.mk (Kd.R_below (by (with_reducible repeat (first | apply Kd.R_alloc | apply Kd.R_drewN | apply Kd.R_drew)); exact HO104.out) hb); have n1_ := Aside0.mk (Kd.R_below (by (with_reducible repeat (first | apply Kd.R_alloc | apply Kd.R_drewN | apply Kd.R_drew)); exact HO109.out) hb); have n2_ := Aside0.mk (Kd.R_below (by (with_reducible repeat (first | apply Kd.R_alloc | apply Kd.R_drewN | apply Kd.R_drew)); exact HO112.out) hb); have n3_ := Aside0.mk (Kd.R_below (by (with_reducible repeat (first | apply Kd.R_alloc | apply Kd.R_drewN | apply Kd.R_drew)); exact HO116.out) hb); have n4_ := Aside0.mk (Kd.R_below (by (with_reducible repeat (first | apply Kd.R_alloc | apply Kd.R_drewN | apply Kd.R_drew)); exact HO119.out) hb); have n5_ := Aside0.mk (Kd.R_below (by (with_reducible repeat (first | apply Kd.R_alloc | apply Kd.R_drewN | apply Kd.R_drew)); exact HO123.out) hb); have n6_ := Aside0.mk (Kd.R_lower ho0 (below_size (by repeat (first | (with_reducible first | exact HB.out | apply below_alloc | apply pw_below_drewN | apply below_drew1 | refine below_set ?_ GE101.out) | exact HB.out)))); have n7_ := Aside0.mk (blk_below (g := gb101) (o := .cells #[.int .i64 1, .string (⟨#[97]⟩ : ByteArray), .string (⟨#[98]⟩ : ByteArray), .int .i64 0, .int .i64 0] 41 (0, 0)) (by (with_reducible repeat (first | refine blk_drewN ?_ _ | refine blk_drew ?_ | refine blk_alloc ?_ _)); exact BK101.out) hb); have n8_ := Aside0.mk (below_step (by repeat (first | (with_reducible first | exact HB.out | apply below_alloc | apply pw_below_drewN | apply below_drew1 | refine below_set ?_ GE101.out) | exact HB.out)) hb); clear HO104; clear HO109; clear HO112; clear HO116; clear HO119; clear HO123; clear BK101; clear HB; have HO104 := n0_; have HO109 := n1_; have HO112 := n2_; have HO116 := n3_; have HO119 := n4_; have HO123 := n5_; have HO127 := n6_; have BK101 := n7_; have HB := n8_; clear n0_ n1_ n2_ n3_ n4_ n5_ n6_ n7_ n8_; (try clear hb); (try clear hb2); (try clear hk); (try clear hi); (try clear ho0)) | ((with_reducible refine gate_dst (N := 40) rfl ?_); (try (refine gate_guard (by rfl) ?_; dsimp only)); refine Kd.R_lit (Kd.int .i64) _ 3 ?hg (N := 40) ?hd (xs := ([0, 4, 0, 10, 0, 4] : List Int)) (inner := [.int .i64 0, .int .i64 4, .int .i64 0, .int .i64 10, .int .i64 0, .int .i64 4]) (ok := fun _ => True) (okp := fun _ => True) ?hr ?hp (fun _ hk => hk) trivial (Below.refl _ _) (Nat.le_refl _) (by simp) ?_; (case hd => rfl); (case hg => rfl); (case hr => first | (go_simp; done) | (go_simp; rfl) | (go_simp; simp only [isEmpty_ne, isEmpty_eq]; done) | (go_simp; simp only [isEmpty_ne, isEmpty_eq]; rfl)); (case hp => exact (Reps.one (show Kd.M (Kd.int .i64) _ _ _ 0 [.int .i64 0] from rfl) (Reps.one (show Kd.M (Kd.int .i64) _ _ _ 4 [.int .i64 4] from rfl) (Reps.one (show Kd.M (Kd.int .i64) _ _ _ 0 [.int .i64 0] from rfl) (Reps.one (show Kd.M (Kd.int .i64) _ _ _ 10 [.int .i64 10] from rfl) (Reps.one (show Kd.M (Kd.int .i64) _ _ _ 0 [.int .i64 0] from rfl) (Reps.one (show Kd.M (Kd.int .i64) _ _ _ 4 [.int .i64 4] from rfl) (Reps.none _ _)))))))); intro v129 w30 ho31 hb hg_ hnew_; clear hg_ hnew_; (first | rw [← Ny128.out] at ho31 | (simp only [Int.reduceToNat] at ho31; rw [← Ny128.out] at ho31)); have n0_ := Aside0.mk (Kd.R_below (by (with_reducible repeat (first | apply Kd.R_alloc | apply Kd.R_drewN | apply Kd.R_drew)); exact HO104.out) hb); have n1_ := Aside0.mk (Kd.R_elder' (by (with_reducible repeat (first | apply Kd.R_alloc | apply Kd.R_drewN | apply Kd.R_drew)); exact HO109.out) (Kd.R_base ho31) hb); have n2_ := Aside0.mk (Kd.R_elder' (by (with_reducible repeat (first | apply Kd.R_alloc | apply Kd.R_drewN | apply Kd.R_drew)); exact HO112.out) (Kd.R_base ho31) hb); have n3_ := Aside0.mk (Kd.R_below (by (with_reducible repeat (first | apply Kd.R_alloc | apply Kd.R_drewN | apply Kd.R_drew)); exact HO116.out) hb); have n4_ := Aside0.mk (Kd.R_elder' (by (with_reducible repeat (first | apply Kd.R_alloc | apply Kd.R_drewN | apply Kd.R_drew)); exact HO119.out) (Kd.R_base ho31) hb); have n5_ := Aside0.mk (Kd.R_below (by (with_reducible repeat (first | apply Kd.R_alloc | apply Kd.R_drewN | apply Kd.R_drew)); exact HO123.out) hb); have n6_ := Aside0.mk (Kd.R_below (by (with_reducible repeat (first | apply Kd.R_alloc | apply Kd.R_drewN | apply Kd.R_drew)); exact HO127.out) hb); have n7_ := Aside0.mk (Kd.R_lower (Kd.R_new' (Kd.R_new' (Kd.R_new' ho31 (Kd.R_lt (by (with_reducible repeat (first | apply Kd.R_alloc | apply Kd.R_drewN | apply Kd.R_drew)); exact HO109.out))) (Kd.R_lt (by (with_reducible repeat (first | apply Kd.R_alloc | apply Kd.R_drewN | apply Kd.R_drew)); exact HO112.out))) (Kd.R_lt (by (with_reducible repeat (first | apply Kd.R_alloc | apply Kd.R_drewN | apply Kd.R_drew)); exact HO119.out))) (below_size (by repeat (first | (with_reducible first | exact HB.out | apply below_alloc | apply pw_below_drewN | apply below_drew1 | refine below_set ?_ GE101.out) | exact HB.out)))); have n8_ := Aside0.mk (blk_below (g := gb101) (o := .cells #[.int .i64 1, .string (⟨#[97]⟩ : ByteArray), .string (⟨#[98]⟩ : ByteArray), .int .i64 0, .int .i64 0] 41 (0, 0)) (by (with_reducible repeat (first | refine blk_drewN ?_ _ | refine blk_drew ?_ | refine blk_alloc ?_ _)); exact BK101.out) hb); have n9_ := Aside0.mk (below_step (by repeat (first | (with_reducible first | exact HB.out | apply below_alloc | apply pw_below_drewN | apply below_drew1 | refine below_set ?_ GE101.out) | exact HB.out)) hb); clear HO104; clear HO109; clear HO112; clear HO116; clear HO119; clear HO123; clear HO127; clear BK101; clear HB; have HO104 := n0_; have HO109 := n1_; have HO112 := n2_; have HO116 := n3_; have HO119 := n4_; have HO123 := n5_; have HO127 := n6_; have HO130 := n7_; have BK101 := n8_; have HB := n9_; clear n0_ n1_ n2_ n3_ n4_ n5_ n6_ n7_ n8_ n9_; clear hb ho31; obtain ⟨Ao32, co32, eo32⟩ := Kd.R_slice HO109.out; subst eo32; obtain ⟨Ao33, co33, eo33⟩ := Kd.R_slice HO130.out; subst eo33) | (go_at_call 18; (with_reducible refine (postriderref02_Ints.calls k _ _ t106 _ _ y128 true _ ?side1 ?side2 ?side3 ?side4 A6.out).mono ?_); (case side1 => repeat (first | exact (Kd.R_reads' HO109.out).2.2 | (with_reducible refine Kd.C_alloc ?_ _) | (with_reducible refine Kd.C_drewN ?_ _) | (with_reducible refine Kd.C_drew ?_))); (case side2 => exact (Kd.R_reads' HO109.out).2.1); (case side3 => repeat (first | exact (Kd.R_reads' HO130.out).2.2 | (with_reducible refine Kd.C_alloc ?_ _) | (with_reducible refine Kd.C_drewN ?_ _) | (with_reducible refine Kd.C_drew ?_))); (case side4 => exact (Kd.R_reads' HO130.out).2.1); rintro e w' ⟨rfl, ⟨nd, rfl⟩⟩) | ((with_reducible refine gate_dst (N := 51) rfl ?_); (try (refine gate_guard (by rfl) ?_; dsimp only)); refine Kd.R_lit k41 _ 41 ?hg (N := 51) ?hd (xs := ([(⟨2, (⟨#[]⟩ : ByteArray), (⟨#[]⟩ : ByteArray), 4, 7⟩ : S41), (⟨0, (⟨#[]⟩ : ByteArray), (⟨#[]⟩ : ByteArray), 0, 0⟩ : S41)] : List (S41))) (inner := [.int .i64 2, .string (⟨#[]⟩ : ByteArray), .string (⟨#[]⟩ : ByteArray), .int .i64 4, .int .i64 7, .int .i64 0, .string (⟨#[]⟩ : ByteArray), .string (⟨#[]⟩ : ByteArray), .int .i64 0, .int .i64 0]) (ok := fun _ => True) (okp := fun _ => True) ?hr ?hp (fun _ hk => hk) trivial (Below.refl _ _) (Nat.le_refl _) (by simp) ?_; (case hd => rfl); (case hg => rfl); (case hr => first | (go_simp; done) | (go_simp; rfl) | (go_simp; simp only [isEmpty_ne, isEmpty_eq]; done) | (go_simp; simp only [isEmpty_ne, isEmpty_eq]; rfl)); (case hp => exact (Reps.c5 (show Kd.M k41 _ _ _ (⟨2, (⟨#[]⟩ : ByteArray), (⟨#[]⟩ : ByteArray), 4, 7⟩ : S41) [.int .i64 2, .string (⟨#[]⟩ : ByteArray), .string (⟨#[]⟩ : ByteArray), .int .i64 4, .int .i64 7] from (k41_mkM _ _ _ (⟨2, (⟨#[]⟩ : ByteArray), (⟨#[]⟩ : ByteArray), 4, 7⟩ : S41) )) (Reps.c5 (show Kd.M k41 _ _ _ (⟨0, (⟨#[]⟩ : ByteArray), (⟨#[]⟩ : ByteArray), 0, 0⟩ : S41) [.int .i64 0, .string (⟨#[]⟩ : ByteArray), .string (⟨#[]⟩ : ByteArray), .int .i64 0, .int .i64 0] from (k41_mkM _ _ _ (⟨0, (⟨#[]⟩ : ByteArray), (⟨#[]⟩ : ByteArray), 0, 0⟩ : S41) )) (Reps.none _ _)))); intro v133 w34 ho35 hb hg_ hnew_; clear hg_ hnew_; (first | rw [← Ny132.out] at ho35 | (simp only [Int.reduceToNat] at ho35; rw [← Ny132.out] at ho35)); have n0_ := Aside0.mk (Kd.R_elder' (by (with_reducible repeat (first | apply Kd.R_alloc | apply Kd.R_drewN | apply Kd.R_drew)); exact HO104.out) (Kd.R_base ho35) hb); have n1_ := Aside0.mk (Kd.R_below (by (with_reducible repeat (first | apply Kd.R_alloc | apply Kd.R_drewN | apply Kd.R_drew)); exact HO109.out) hb); have n2_ := Aside0.mk (Kd.R_below (by (with_reducible repeat (first | apply Kd.R_alloc | apply Kd.R_drewN | apply Kd.R_drew)); exact HO112.out) hb); have n3_ := Aside0.mk (Kd.R_elder' (by (with_reducible repeat (first | apply Kd.R_alloc | apply Kd.R_drewN | apply Kd.R_drew)); exact HO116.out) (Kd.R_base ho35) hb); have n4_ := Aside0.mk (Kd.R_below (by (with_reducible repeat (first | apply Kd.R_alloc | apply Kd.R_drewN | apply Kd.R_drew)); exact HO119.out) hb); have n5_ := Aside0.mk (Kd.R_elder' (by (with_reducible repeat (first | apply Kd.R_alloc | apply Kd.R_drewN | apply Kd.R_drew)); exact HO123.out) (Kd.R_base ho35) hb); have n6_ := Aside0.mk (Kd.R_below (by (with_reducible repeat (first | apply Kd.R_alloc | apply Kd.R_drewN | apply Kd.R_drew)); exact HO127.out) hb); have n7_ := Aside0.mk (Kd.R_below (by (with_reducible repeat (first | apply Kd.R_alloc | apply Kd.R_drewN | apply Kd.R_drew)); exact HO130.out) hb); have n8_ := Aside0.mk (Kd.R_lower (Kd.R_newB (Kd.R_new' (Kd.R_new' (Kd.R_new' ho35 (Kd.R_lt (by (with_reducible repeat (first | apply Kd.R_alloc | apply Kd.R_drewN | apply Kd.R_drew)); exact HO104.out))) (Kd.R_lt (by (with_reducible repeat (first | apply Kd.R_alloc | apply Kd.R_drewN | apply Kd.R_drew)); exact HO116.out))) (Kd.R_lt (by (with_reducible repeat (first | apply Kd.R_alloc | apply Kd.R_drewN | apply Kd.R_drew)); exact HO123.out))) (g := gb101) (o := .cells #[.int .i64 1, .string (⟨#[97]⟩ : ByteArray), .string (⟨#[98]⟩ : ByteArray), .int .i64 0, .int .i64 0] 41 (0, 0)) (by (with_reducible repeat (first | refine blk_drewN ?_ _ | refine blk_drew ?_ | refine blk_alloc ?_ _)); exact BK101.out)) (below_size (by repeat (first | (with_reducible first | exact HB.out | apply below_alloc | apply pw_below_drewN | apply below_drew1 | refine below_set ?_ GE101.out) | exact HB.out)))); have n9_ := Aside0.mk (blk_below (g := gb101) (o := .cells #[.int .i64 1, .string (⟨#[97]⟩ : ByteArray), .string (⟨#[98]⟩ : ByteArray), .int .i64 0, .int .i64 0] 41 (0, 0)) (by (with_reducible repeat (first | refine blk_drewN ?_ _ | refine blk_drew ?_ | refine blk_alloc ?_ _)); exact BK101.out) hb); have n10_ := Aside0.mk (below_step (by repeat (first | (with_reducible first | exact HB.out | apply below_alloc | apply pw_below_drewN | apply below_drew1 | refine below_set ?_ GE101.out) | exact HB.out)) hb); clear HO104; clear HO109; clear HO112; clear HO116; clear HO119; clear HO123; clear HO127; clear HO130; clear BK101; clear HB; have HO104 := n0_; have HO109 := n1_; have HO112 := n2_; have HO116 := n3_; have HO119 := n4_; have HO123 := n5_; have HO127 := n6_; have HO130 := n7_; have HO134 := n8_; have BK101 := n9_; have HB := n10_; clear n0_ n1_ n2_ n3_ n4_ n5_ n6_ n7_ n8_ n9_ n10_; clear hb ho35; obtain ⟨Ao36, co36, eo36⟩ := Kd.R_slice HO116.out; subst eo36; obtain ⟨Ao37, co37, eo37⟩ := Kd.R_slice HO134.out; subst eo37) | (go_at_call 19; (with_reducible refine (postriderref06_Same.calls k _ _ t113 _ _ y132 true _ ?side1 ?side2 ?side3 ?side4 A9.out).mono ?_); (case side1 => repeat (first | exact (Kd.R_reads' HO116.out).2.2 | (with_reducible refine Kd.C_alloc ?_ _) | (with_reducible refine Kd.C_drewN ?_ _) | (with_reducible refine Kd.C_drew ?_))); (case side2 => exact (Kd.R_reads' HO116.out).2.1); (case side3 => repeat (first | exact (Kd.R_reads' HO134.out).2.2 | (with_reducible refine Kd.C_alloc ?_ _) | (with_reducible refine Kd.C_drewN ?_ _) | (with_reducible refine Kd.C_drew ?_))); (case side4 => exact (Kd.R_reads' HO134.out).2.1); rintro e w' ⟨rfl, ⟨nd, rfl⟩⟩) | ((with_reducible refine gate_dst (N := 64) rfl ?_); (try (refine gate_guard (by rfl) ?_; dsimp only)); refine Kd.R_lit Kd.string _ 9 ?hg (N := 64) ?hd (xs := ([(⟨#[100, 116, 110]⟩ : ByteArray), (⟨#[47, 47, 97, 47, 98]⟩ : ByteArray), (⟨#[110, 111, 110, 101]⟩ : ByteArray)] : List ByteArray)) (inner := [.string (⟨#[100, 116, 110]⟩ : ByteArray), .string (⟨#[47, 47, 97, 47, 98]⟩ : ByteArray), .string (⟨#[110, 111, 110, 101]⟩ : ByteArray)]) (ok := fun _ => True) (okp := fun _ => True) ?hr ?hp (fun _ hk => hk) trivial (Below.refl _ _) (Nat.le_refl _) (by simp) ?_; (case hd => rfl); (case hg => rfl); (case hr => first | (go_simp; done) | (go_simp; rfl) | (go_simp; simp only [isEmpty_ne, isEmpty_eq]; done) | (go_simp; simp only [isEmpty_ne, isEmpty_eq]; rfl)); (case hp => exact (Reps.one (show Kd.M Kd.string _ _ _ (⟨#[100, 116, 110]⟩ : ByteArray) [.string (⟨#[100, 116, 110]⟩ : ByteArray)] from rfl) (Reps.one (show Kd.M Kd.string _ _ _ (⟨#[47, 47, 97, 47, 98]⟩ : ByteArray) [.string (⟨#[47, 47, 97, 47, 98]⟩ : ByteArray)] from rfl) (Reps.one (show Kd.M Kd.string _ _ _ (⟨#[110, 111, 110, 101]⟩ : ByteArray) [.string (⟨#[110, 111, 110, 101]⟩ : ByteArray)] from rfl) (Reps.none _ _))))); intro v137 w38 ho39 hb hg_ hnew_; clear hg_ hnew_; (first | rw [← Ny136.out] at ho39 | (simp only [Int.reduceToNat] at ho39; rw [← Ny136.out] at ho39)); have n0_ := Aside0.mk (Kd.R_below (by (with_reducible repeat (first | apply Kd.R_alloc | apply Kd.R_drewN | apply Kd.R_drew)); exact HO104.out) hb); have n1_ := Aside0.mk (Kd.R_below (by (with_reducible repeat (first | apply Kd.R_alloc | apply Kd.R_drewN | apply Kd.R_drew)); exact HO109.out) hb); have n2_ := Aside0.mk (Kd.R_below (by (with_reducible repeat (first | apply Kd.R_alloc | apply Kd.R_drewN | apply Kd.R_drew)); exact HO112.out) hb); have n3_ := Aside0.mk (Kd.R_below (by (with_reducible repeat (first | apply Kd.R_alloc | apply Kd.R_drewN | apply Kd.R_drew)); exact HO116.out) hb); have n4_ := Aside0.mk (Kd.R_below (by (with_reducible repeat (first | apply Kd.R_alloc | apply Kd.R_drewN | apply Kd.R_drew)); exact HO119.out) hb); have n5_ := Aside0.mk (Kd.R_below (by (with_reducible repeat (first | apply Kd.R_alloc | apply Kd.R_drewN | apply Kd.R_drew)); exact HO123.out) hb); have n6_ := Aside0.mk (Kd.R_elder' (by (with_reducible repeat (first | apply Kd.R_alloc | apply Kd.R_drewN | apply Kd.R_drew)); exact HO127.out) (Kd.R_base ho39) hb); have n7_ := Aside0.mk (Kd.R_below (by (with_reducible repeat (first | apply Kd.R_alloc | apply Kd.R_drewN | apply Kd.R_drew)); exact HO130.out) hb); have n8_ := Aside0.mk (Kd.R_below (by (with_reducible repeat (first | apply Kd.R_alloc | apply Kd.R_drewN | apply Kd.R_drew)); exact HO134.out) hb); have n9_ := Aside0.mk (Kd.R_lower (Kd.R_new' ho39 (Kd.R_lt (by (with_reducible repeat (first | apply Kd.R_alloc | apply Kd.R_drewN | apply Kd.R_drew)); exact HO127.out))) (below_size (by repeat (first | (with_reducible first | exact HB.out | apply below_alloc | apply pw_below_drewN | apply below_drew1 | refine below_set ?_ GE101.out) | exact HB.out)))); have n10_ := Aside0.mk (blk_below (g := gb101) (o := .cells #[.int .i64 1, .string (⟨#[97]⟩ : ByteArray), .string (⟨#[98]⟩ : ByteArray), .int .i64 0, .int .i64 0] 41 (0, 0)) (by (with_reducible repeat (first | refine blk_drewN ?_ _ | refine blk_drew ?_ | refine blk_alloc ?_ _)); exact BK101.out) hb); have n11_ := Aside0.mk (below_step (by repeat (first | (with_reducible first | exact HB.out | apply below_alloc | apply pw_below_drewN | apply below_drew1 | refine below_set ?_ GE101.out) | exact HB.out)) hb); clear HO104; clear HO109; clear HO112; clear HO116; clear HO119; clear HO123; clear HO127; clear HO130; clear HO134; clear BK101; clear HB; have HO104 := n0_; have HO109 := n1_; have HO112 := n2_; have HO116 := n3_; have HO119 := n4_; have HO123 := n5_; have HO127 := n6_; have HO130 := n7_; have HO134 := n8_; have HO138 := n9_; have BK101 := n10_; have HB := n11_; clear n0_ n1_ n2_ n3_ n4_ n5_ n6_ n7_ n8_ n9_ n10_ n11_; clear hb ho39; obtain ⟨Ao40, co40, eo40⟩ := Kd.R_slice HO127.out; subst eo40; obtain ⟨Ao41, co41, eo41⟩ := Kd.R_slice HO138.out; subst eo41) | (go_at_call 20; (with_reducible refine (postriderref07_SameTexts.calls k _ _ t124 _ _ y136 true _ ?side1 ?side2 ?side3 ?side4 A13.out).mono ?_); (case side1 => repeat (first | exact (Kd.R_reads' HO127.out).2.2 | (with_reducible refine Kd.C_alloc ?_ _) | (with_reducible refine Kd.C_drewN ?_ _) | (with_reducible refine Kd.C_drew ?_))); (case side2 => exact (Kd.R_reads' HO127.out).2.1); (case side3 => repeat (first | exact (Kd.R_reads' HO138.out).2.2 | (with_reducible refine Kd.C_alloc ?_ _) | (with_reducible refine Kd.C_drewN ?_ _) | (with_reducible refine Kd.C_drew ?_))); (case side4 => exact (Kd.R_reads' HO138.out).2.1); rintro e w' ⟨rfl, ⟨nd, rfl⟩⟩))
                all_goals (first | (go_ret; exact ⟨by first | rfl | (simp [errW_none, errW_some] <;> rfl) | (simp [*, errW_none, errW_some] <;> rfl) | (simp_all; done), by repeat (first | (with_reducible first | exact HB.out | apply below_alloc | apply pw_below_drewN | apply below_drew1 | refine below_set ?_ GE101.out) | exact HB.out)⟩) | (exfalso; simp_all; done))
              · replace c14 := Bool.eq_false_iff.mpr c14
                subst c14
                have H1 : (none) = some r := by rw [if_neg (show ¬ (false = true) by decide)] at H; exact H
                clear H
                have H := H1
                clear H1
                exact absurd H (by simp)
            · rw [if_neg c12] at H
              exact absurd H (by simp)
          · rw [if_neg c11] at H
            exact absurd H (by simp)
        · replace c10 := Bool.eq_false_iff.mpr c10
          subst c10
          have H1 : (none) = some r := by rw [if_neg (show ¬ (false = true) by decide)] at H; exact H
          clear H
          have H := H1
          clear H1
          exact absurd H (by simp)
      · rw [if_neg c8] at H
        exact absurd H (by simp)
    · replace c7 := Bool.eq_false_iff.mpr c7
      subst c7
      have H1 : (none) = some r := by rw [if_neg (show ¬ (false = true) by decide)] at H; exact H
      clear H
      have H := H1
      clear H1
      exact absurd H (by simp)
  · rw [if_neg c5] at H
    exact absurd H (by simp)
end Go.Proofs.YtbjbicaffblchaaGreatDoor.SS
end
section
namespace Go.Proofs.YtbjbicaffblchaaGreatDoor.Hand
open Go.RowKit Go.Proofs.YtbjbicaffblchaaGreatDoorW Go.Proofs.YtbjbicaffblchaaGreatDoorW.PrintWords Go.Proofs.YtbjbicaffblchaaGreatDoor.SK Go.Proofs.YtbjbicaffblchaaGreatDoor.SS
theorem Build_is {l : List Nm} (h : ∀ z ∈ l, z.f1.size ≤ 21 ∧ z.f2.size ≤ 21) : dict_Build.f l = some (buildT l) := by
  unfold dict_Build.f
  rw [if_pos]
  unfold okB
  rw [List.all_eq_true]
  intro x hx
  have h1 : x.f1.size ≤ maxLen := Nat.le_trans (h x hx).1 (by decide)
  have h2 : x.f2.size ≤ maxLen := Nat.le_trans (h x hx).2 (by decide)
  simp [h1, h2]
theorem Read_is (s : ByteArray) (p : List Int) (h : s.size ≤ 1000000) : dict_Read.f s p = some (readT s p) := by
  unfold dict_Read.f
  rw [if_pos (by omega)]
theorem Texts_is (s : ByteArray) (h : s.size ≤ 1000000) : dict_Texts.f s = some (textsT s) := by
  unfold dict_Texts.f
  rw [if_pos (by omega)]
abbrev exA : Nm := ⟨1, ⟨#[97]⟩, ⟨#[98]⟩, 0, 0⟩
abbrev exS : ByteArray := ⟨#[100, 116, 110, 0, 47, 47, 97, 47, 98, 0, 110, 111, 110, 101, 0]⟩
theorem ex_build : buildT [exA, zeroNm, exA] = (exS, [0, 4, 0, 10, 0, 4], 0) := by decide +kernel
theorem ex_texts : textsT exS = ([⟨#[100, 116, 110]⟩, ⟨#[47, 47, 97, 47, 98]⟩, ⟨#[110, 111, 110, 101]⟩], 0) := by decide +kernel
theorem ex_read : readT ⟨#[]⟩ [4, 7, 0, 0] = ([⟨2, ⟨#[]⟩, ⟨#[]⟩, 4, 7⟩, zeroNm], 0) := by decide +kernel
theorem ex_read2 : readT ⟨#[]⟩ [0, 7] = ([], 70) := by decide +kernel
theorem shown_true (k : Nat) (hk : 100 < k) : postriderlaw07_shown.f k = some true := by
  unfold postriderlaw07_shown.f
  have hb : dict_Build.f [exA, zeroNm, exA] = some (buildT [exA, zeroNm, exA]) := Build_is (by decide)
  rw [ex_build] at hb
  have h1 := (Read_is ⟨#[]⟩ [4, 7, 0, 0] (by decide)).trans (congrArg some ex_read)
  have h2 := (Read_is ⟨#[]⟩ [0, 7] (by decide)).trans (congrArg some ex_read2)
  have h3 := (Texts_is exS (by decide)).trans (congrArg some ex_texts)
  have e1 := ints_is [0, 4, 0, 10, 0, 4] [0, 4, 0, 10, 0, 4] k (by decide) (by simp; omega)
  have e2 := same_is [⟨2, ⟨#[]⟩, ⟨#[]⟩, 4, 7⟩, zeroNm] [⟨2, ⟨#[]⟩, ⟨#[]⟩, 4, 7⟩, zeroNm] k (by decide) (by simp; omega)
  have e3 := sameTexts_is [⟨#[100, 116, 110]⟩, ⟨#[47, 47, 97, 47, 98]⟩, ⟨#[110, 111, 110, 101]⟩] [⟨#[100, 116, 110]⟩, ⟨#[47, 47, 97, 47, 98]⟩, ⟨#[110, 111, 110, 101]⟩] k (by decide) (by simp; omega)
  rw [decide_eq_true rfl] at e1 e2 e3
  refine (congrArg (fun z => Option.bind z _) hb).trans ?_
  simp only [Option.bind_some]
  refine (congrArg (fun z => Option.bind z _) h1).trans ?_
  simp only [Option.bind_some]
  refine (congrArg (fun z => Option.bind z _) h2).trans ?_
  simp only [Option.bind_some]
  refine (congrArg (fun z => Option.bind z _) h3).trans ?_
  simp only [Option.bind_some]
  rw [if_pos (by rw [ByteArray.toList_eq])]
  refine (congrArg (fun z => Option.bind z _) e1).trans ?_
  simp only [Option.bind_some, if_true]
  refine (congrArg (fun z => Option.bind z _) e2).trans ?_
  simp only [Option.bind_some, if_true]
  refine (congrArg (fun z => Option.bind z _) e3).trans ?_
  simp only [Option.bind_some, if_true]
  rfl
end Go.Proofs.YtbjbicaffblchaaGreatDoor.Hand
end
section
namespace Go.Proofs.YtbjbicaffblchaaGreatDoor.Hand
open Go.RowKit
theorem index_none (c : UInt8) : ∀ p : List UInt8, c ∉ p → Lib.index p [c] = -1
  | [], _ => by simp [Lib.index]
  | b :: p, h => by
    have hb : c ≠ b := fun e => h (e ▸ List.mem_cons_self ..)
    have ih := index_none c p (fun e => h (List.mem_cons_of_mem _ e))
    simp only [Lib.index]
    rw [ih]
    simp [hb, List.isPrefixOf]
theorem split_first (c : UInt8) : ∀ r : List UInt8, c ∈ r → ∃ p q, r = p ++ c :: q ∧ c ∉ p
  | [], h => by cases h
  | b :: r, h => by
    by_cases e : b = c
    · subst e
      exact ⟨[], r, rfl, by simp⟩
    · obtain ⟨p, q, h1, h2⟩ := split_first c r (by rcases List.mem_cons.1 h with h | h; exact absurd h.symm e; exact h)
      refine ⟨b :: p, q, by rw [h1]; rfl, fun h3 => ?_⟩
      rcases List.mem_cons.1 h3 with h3 | h3
      · exact e h3.symm
      · exact h2 h3
theorem cutp_split (r : List UInt8) : (∃ p q, r = p ++ 0 :: q ∧ 0 ∉ p ∧ cutp r = p) ∨ (0 ∉ r ∧ cutp r = r) := by
  by_cases h : (0 : UInt8) ∈ r
  · obtain ⟨p, q, h1, h2⟩ := split_first 0 r h
    refine .inl ⟨p, q, h1, h2, ?_⟩
    unfold cutp
    rw [h1, cut_one 0 p q h2]
  · refine .inr ⟨h, ?_⟩
    unfold cutp Lib.cut
    rw [index_none 0 r h, if_neg (by decide)]
def flatB (L : List ByteArray) : List UInt8 := L.flatMap fun t => t.data.toList ++ [0]
theorem items_join : ∀ (k a : Nat) (r : List UInt8), r.length < k → openT r = false → flatB ((itemsF k a r).map (·.2)) = r := by
  intro k
  induction k with
  | zero => intro a r h; omega
  | succ k ih =>
    intro a r h ho
    rw [itemsF]
    by_cases hr : r = []
    · rw [if_pos hr, hr]; rfl
    · rw [if_neg hr]
      have hlast : r.getLast? = some 0 := by
        unfold openT at ho
        rw [show (r != []) = true by simpa using hr, Bool.true_and] at ho
        simpa using ho
      rcases cutp_split r with ⟨p, q, h1, h2, h3⟩ | ⟨h1, _⟩
      · have hd : r.drop (p.length + 1) = q := by
          rw [h1, List.drop_append]
          simp
        rw [h3, hd]
        have hq : openT q = false := by
          unfold openT
          by_cases e : q = []
          · rw [e]; rfl
          · have : q.getLast? = some 0 := by
              rw [h1, List.getLast?_append] at hlast
              rw [List.getLast?_cons] at hlast
              cases hg : q.getLast? with
              | none => exact absurd (List.getLast?_eq_none_iff.1 hg) e
              | some z => rw [hg] at hlast; simpa using hlast
            rw [this]
            simp
        have := ih (a + p.length + 1) q (by rw [h1] at h; simp at h; omega) hq
        simp only [List.map_cons, flatB, List.flatMap_cons]
        unfold flatB at this
        rw [this, h1]
        simp [txt]
      · exact absurd (List.mem_of_getLast? hlast) h1
end Go.Proofs.YtbjbicaffblchaaGreatDoor.Hand
end
section
namespace Go.Proofs.YtbjbicaffblchaaGreatDoor.Hand
open Go.RowKit Go.Proofs.YtbjbicaffblchaaGreatDoorW Go.Proofs.YtbjbicaffblchaaGreatDoorW.PrintWords Go.Proofs.YtbjbicaffblchaaGreatDoor.SK
abbrev Nm.w (x : Nm) : List UInt8 := x.word.data.toList
abbrev Nm.r (x : Nm) : List UInt8 := x.rest.data.toList
theorem addL_nodup {L : List (List UInt8)} (h : L.Nodup) (t : List UInt8) : (addL L t).Nodup := by
  unfold addL
  split
  · exact h
  · rename_i ht
    rw [List.nodup_append]
    exact ⟨h, by simp, fun a ha b hb => by rw [List.mem_singleton.1 hb]; exact fun e => ht (e ▸ ha)⟩
theorem addL_keep {L : List (List UInt8)} {P : List UInt8 → Prop} (h : ∀ t ∈ L, P t) {t : List UInt8} (ht : P t) : ∀ u ∈ addL L t, P u := by
  unfold addL
  split
  · exact h
  · intro u hu
    rcases List.mem_append.1 hu with hu | hu
    · exact h u hu
    · rw [List.mem_singleton.1 hu]; exact ht
theorem built_false (l : List Nm) : ∀ (L0 : List (List UInt8)) (p0 : List Int), l.foldl (buildF false) (L0, p0) = (L0, p0 ++ l.flatMap fun x => [x.f3, x.f4]) := by
  induction l with
  | nil => intro L0 p0; simp
  | cons x r ih =>
    intro L0 p0
    simp only [List.foldl_cons, List.flatMap_cons]
    rw [show buildF false (L0, p0) x = (L0, p0 ++ [x.f3, x.f4]) from rfl, ih]
    simp
theorem built_true (l : List Nm) : ∀ (L0 : List (List UInt8)) (p0 : List Int), ∃ M, l.foldl (buildF true) (L0, p0) = (L0 ++ M, p0 ++ l.flatMap fun x => [((placeL (L0 ++ M) x.w : Nat) : Int), ((placeL (L0 ++ M) x.r : Nat) : Int)]) ∧ ∀ x ∈ l, x.w ∈ L0 ++ M ∧ x.r ∈ L0 ++ M := by
  induction l with
  | nil => intro L0 p0; exact ⟨[], by simp, fun x hx => by cases hx⟩
  | cons x r ih =>
    intro L0 p0
    have e : buildF true (L0, p0) x = (addL (addL L0 x.w) x.r, p0 ++ [((placeL (addL L0 x.w) x.w : Nat) : Int)] ++ [((placeL (addL (addL L0 x.w) x.r) x.r : Nat) : Int)]) := rfl
    obtain ⟨M1, h1⟩ := addL_pre L0 x.w
    obtain ⟨M2, h2⟩ := addL_pre (addL L0 x.w) x.r
    obtain ⟨M, h3, h4⟩ := ih (addL (addL L0 x.w) x.r) (p0 ++ [((placeL (addL L0 x.w) x.w : Nat) : Int)] ++ [((placeL (addL (addL L0 x.w) x.r) x.r : Nat) : Int)])
    have hw := addL_mem L0 x.w
    have hr := addL_mem (addL L0 x.w) x.r
    have hL : addL (addL L0 x.w) x.r ++ M = L0 ++ (M1 ++ M2 ++ M) := by rw [h2, h1]; simp
    have pw : placeL (addL L0 x.w) x.w = placeL (addL (addL L0 x.w) x.r ++ M) x.w := by rw [h2, List.append_assoc, placeL_app _ hw]
    have pr : placeL (addL (addL L0 x.w) x.r) x.r = placeL (addL (addL L0 x.w) x.r ++ M) x.r := by rw [placeL_app _ hr]
    refine ⟨M1 ++ M2 ++ M, ?_, fun y hy => ?_⟩
    · rw [List.foldl_cons, e, h3, pw, pr, ← hL]
      simp
    · rw [← hL]
      rcases List.mem_cons.1 hy with rfl | hy
      · exact ⟨List.mem_append_left _ (by rw [h2]; exact List.mem_append_left _ hw), List.mem_append_left _ hr⟩
      · exact h4 y hy
theorem built_nodup (dtn : Bool) (l : List Nm) : ∀ (st : List (List UInt8) × List Int), st.1.Nodup → (l.foldl (buildF dtn) st).1.Nodup := by
  induction l with
  | nil => intro st h; exact h
  | cons x r ih =>
    intro st h
    refine ih _ ?_
    cases dtn with
    | false => exact h
    | true => exact addL_nodup (addL_nodup h _) _
theorem built_all {P : List UInt8 → Prop} (dtn : Bool) (l : List Nm) (hl : ∀ x ∈ l, P x.w ∧ P x.r) : ∀ (st : List (List UInt8) × List Int), (∀ t ∈ st.1, P t) → ∀ t ∈ (l.foldl (buildF dtn) st).1, P t := by
  induction l with
  | nil => intro st h; exact h
  | cons x r ih =>
    intro st h
    have hx := hl x List.mem_cons_self
    refine ih (fun y hy => hl y (List.mem_cons_of_mem _ hy)) _ ?_
    cases dtn with
    | false => exact h
    | true => exact addL_keep (addL_keep h hx.1) hx.2
theorem word_zero (n : Int) : (0 : UInt8) ∉ (wordS n).data.toList := by unfold wordS; split <;> decide
theorem rest_zero {x : Nm} (h : x.right = true) : (0 : UInt8) ∉ x.r := by
  show (0 : UInt8) ∉ x.rest.data.toList
  rw [Nm.rest_is h]
  have h' : rightS x.f0 x.f1 x.f2 x.f3 x.f4 = true := h
  rcases right_num h' with e | e | e
  · rw [e]
    show (0 : UInt8) ∉ wNone.data.toList
    decide
  · rw [e] at h' ⊢
    obtain ⟨_, hp, hq, _⟩ := right_dtn h'
    show (0 : UInt8) ∉ (restDtn x.f1 x.f2).data.toList
    rw [restDtn_data]
    have h1 := part_no hp (show okByte ⟨#[45, 46]⟩ 0 = false by decide)
    have h2 := part_no hq (show okByte ⟨#[45, 46, 47]⟩ 0 = false by decide)
    simp only [List.mem_append, List.mem_cons, List.not_mem_nil, or_false, not_or]
    exact ⟨by decide, h1, by decide, h2⟩
  · rw [e] at h' ⊢
    obtain ⟨_, _, h3, _, h4, _⟩ := right_ipn h'
    show (0 : UInt8) ∉ (restIpn x.f3 x.f4).data.toList
    rw [restIpn_data, itoa_dig x.f3 (by omega), itoa_dig x.f4 h4]
    simp only [List.mem_append, List.mem_cons, not_or]
    exact ⟨fun q => by have := (dig_ok _ _ q).1; exact absurd this (by decide), by decide, fun q => by have := (dig_ok _ _ q).1; exact absurd this (by decide)⟩
theorem cutp_one {t : List UInt8} (q : List UInt8) (h : (0 : UInt8) ∉ t) : cutp (t ++ 0 :: q) = t := by
  unfold cutp
  rw [cut_one 0 t q h]
theorem items_step (k a : Nat) {t : List UInt8} (L : List (List UInt8)) (h : (0 : UInt8) ∉ t) : itemsF (k + 1) a (flatT (t :: L)) = ((a : Int), txt t) :: itemsF k (a + t.length + 1) (flatT L) := by
  rw [itemsF, flatT_cons, cutp_one _ h, if_neg (by simp)]
  congr 2
  rw [List.drop_append]
  simp
theorem items_texts : ∀ (L : List (List UInt8)) (k a : Nat), L.length < k → (∀ t ∈ L, (0 : UInt8) ∉ t) → (itemsF k a (flatT L)).map (·.2) = L.map txt
  | [], k, a, h, _ => by
    obtain ⟨k, rfl⟩ : ∃ m, k = m + 1 := ⟨k - 1, by simp at h; omega⟩
    simp [itemsF, flatT]
  | t :: L, k, a, h, hz => by
    obtain ⟨k, rfl⟩ : ∃ m, k = m + 1 := ⟨k - 1, by simp at h; omega⟩
    rw [items_step k a L (hz t List.mem_cons_self), List.map_cons, items_texts L k _ (by simp at h; omega) (fun u hu => hz u (List.mem_cons_of_mem _ hu))]
    rfl
theorem flat_len (L : List (List UInt8)) : L.length ≤ (flatT L).length := by
  induction L with
  | nil => simp
  | cons t L ih => rw [flatT_cons]; simp; omega
theorem half_none : ∀ (k a : Nat) (r : List UInt8) (b : Int) (h : ByteArray), b < a → (itemsF k a r).foldl (fun h x => if x.1 = b then x.2 else h) h = h := by
  intro k
  induction k with
  | zero => intro a r b h _; rfl
  | succ k ih =>
    intro a r b h hb
    rw [itemsF]
    split
    · rfl
    · rw [List.foldl_cons, if_neg (by show ¬ (a : Int) = b; omega), ih _ _ _ _ (by omega)]
theorem half_flat : ∀ (L : List (List UInt8)) (k a : Nat) (t : List UInt8) (h : ByteArray), L.length < k → (∀ t ∈ L, (0 : UInt8) ∉ t) → t ∈ L →
    (itemsF k a (flatT L)).foldl (fun h x => if x.1 = ((a + placeL L t : Nat) : Int) then x.2 else h) h = txt t
  | [], _, _, _, _, _, _, ht => by cases ht
  | x :: L, k, a, t, h, hk, hz, ht => by
    obtain ⟨k, rfl⟩ : ∃ m, k = m + 1 := ⟨k - 1, by simp at hk; omega⟩
    rw [items_step k a L (hz x List.mem_cons_self), List.foldl_cons]
    by_cases e : x = t
    · subst e
      rw [show placeL (x :: L) x = 0 by simp [placeL]]
      rw [if_pos (by simp), half_none _ _ _ _ _ (by omega)]
    · rw [show placeL (x :: L) t = x.length + 1 + placeL L t by simp [placeL, e]]
      rw [if_neg (by show ¬ (a : Int) = _; omega)]
      have := half_flat L k (a + x.length + 1) t h (by simp at hk; omega) (fun u hu => hz u (List.mem_cons_of_mem _ hu)) (by rcases List.mem_cons.1 ht with ht | ht; exact absurd ht.symm e; exact ht)
      rw [show a + x.length + 1 + placeL L t = a + (x.length + 1 + placeL L t) by omega] at this
      exact this
theorem half_of (L : List (List UInt8)) (t : List UInt8) (hz : ∀ t ∈ L, (0 : UInt8) ∉ t) (ht : t ∈ L) : halfOf (items (flatT L)) ((placeL L t : Nat) : Int) = txt t := by
  have := half_flat L ((flatT L).length + 1) 0 t ⟨#[]⟩ (by have := flat_len L; omega) hz ht
  rw [Nat.zero_add] at this
  exact this
theorem place_split : ∀ (L : List (List UInt8)) (t : List UInt8), t ∈ L → ∃ p q, flatT L = p ++ (t ++ 0 :: q) ∧ p.length = placeL L t ∧ (p = [] ∨ p.getLast? = some 0)
  | [], _, h => by cases h
  | x :: L, t, h => by
    by_cases e : x = t
    · subst e
      exact ⟨[], flatT L, by rw [flatT_cons]; rfl, by simp [placeL], .inl rfl⟩
    · obtain ⟨p, q, h1, h2, h3⟩ := place_split L t (by rcases List.mem_cons.1 h with h | h; exact absurd h.symm e; exact h)
      refine ⟨x ++ 0 :: p, q, by rw [flatT_cons, h1]; simp, by simp [placeL, e, h2]; omega, .inr ?_⟩
      rcases h3 with rfl | h3
      · simp
      · rw [List.getLast?_append, List.getLast?_cons, h3]; rfl
structure Built (l : List Nm) (s : ByteArray) (p : List Int) : Prop where
  many : l.length ≤ 30
  right : ∀ x ∈ l, x.right = true
  text : s = txt (flatT (builtS l).1)
  pairs : p = (builtS l).2
theorem built_of {l : List Nm} {s : ByteArray} {p : List Int} {e : Int} (h : buildT l = (s, p, e)) : (e = 0 ∧ Built l s p) ∨ (e ≠ 0 ∧ s = ⟨#[]⟩ ∧ p = []) := by
  unfold buildT at h
  by_cases h30 : 30 < l.length
  · rw [if_pos h30] at h
    simp only [Prod.mk.injEq] at h
    obtain ⟨rfl, rfl, rfl⟩ := h
    exact .inr ⟨by decide, rfl, rfl⟩
  · rw [if_neg h30] at h
    by_cases hr : l.any (fun x => !x.right) = true
    · rw [if_pos hr] at h
      simp only [Prod.mk.injEq] at h
      obtain ⟨rfl, rfl, rfl⟩ := h
      exact .inr ⟨by decide, rfl, rfl⟩
    · rw [if_neg hr] at h
      simp only [Prod.mk.injEq] at h
      obtain ⟨rfl, rfl, rfl⟩ := h
      refine .inl ⟨rfl, by omega, fun x hx => ?_, rfl, rfl⟩
      have := (List.any_eq_false.1 (Bool.eq_false_iff.2 hr)) x hx
      simpa using this
theorem Built.is {l : List Nm} {s : ByteArray} {p : List Int} (h : Built l s p) : buildT l = (s, p, 0) := by
  unfold buildT
  rw [if_neg (by have := h.many; omega), if_neg ?_, h.text, h.pairs]
  intro hr
  obtain ⟨x, hx, hq⟩ := List.any_eq_true.1 hr
  rw [h.right x hx] at hq
  cases hq
theorem txt_list (l : List UInt8) : (txt l).data.toList = l := by simp [txt]
theorem Built.bytes {l : List Nm} {s : ByteArray} {p : List Int} (h : Built l s p) : s.data.toList = flatT (builtS l).1 := by rw [h.text, txt_list]
theorem Built.zero {l : List Nm} {s : ByteArray} {p : List Int} (h : Built l s p) : ∀ t ∈ (builtS l).1, (0 : UInt8) ∉ t :=
  built_all (P := fun t => (0 : UInt8) ∉ t) _ l (fun x hx => ⟨by show (0 : UInt8) ∉ x.word.data.toList; rw [Nm.word_is (h.right x hx)]; exact word_zero _, rest_zero (h.right x hx)⟩) ([], []) (fun t ht => by cases ht)
theorem Built.nodup {l : List Nm} {s : ByteArray} {p : List Int} (_ : Built l s p) : (builtS l).1.Nodup := built_nodup _ l ([], []) (by simp)
theorem Built.small {l : List Nm} {s : ByteArray} {p : List Int} (h : Built l s p) : s.size ≤ 100000 ∧ p.length = 2 * l.length := by
  obtain ⟨_, h2, h3⟩ := buildF_bounds (l.any Nm.dtn) l ([], []) h.right
  have h4 := h.many
  have h5 : s.data.toList.length = s.size := Array.length_toList ..
  rw [h.bytes] at h5
  have e1 : (flatT (builtS l).1).length ≤ (flatT []).length + 2002 * l.length := h2
  have e2 : (builtS l).2.length = ([] : List Int).length + 2 * l.length := h3
  rw [flatT_nil] at e1
  rw [h.pairs]
  simp only [List.length_nil] at e1 e2
  omega
theorem Built.plain {l : List Nm} {s : ByteArray} {p : List Int} (h : Built l s p) (hd : l.any Nm.dtn = false) : s = ⟨#[]⟩ ∧ p = l.flatMap fun x => [x.f3, x.f4] := by
  have e : builtS l = ([], l.flatMap fun x => [x.f3, x.f4]) := by
    unfold builtS
    rw [hd, built_false]
    rfl
  rw [h.text, h.pairs, e]
  exact ⟨rfl, rfl⟩
theorem Built.full {l : List Nm} {s : ByteArray} {p : List Int} (h : Built l s p) (hd : l.any Nm.dtn = true) :
    (p = l.flatMap fun x => [((placeL (builtS l).1 x.w : Nat) : Int), ((placeL (builtS l).1 x.r : Nat) : Int)]) ∧ (∀ x ∈ l, x.w ∈ (builtS l).1 ∧ x.r ∈ (builtS l).1) ∧ ¬ s.toList = [] := by
  obtain ⟨M, h1, h2⟩ := built_true l [] []
  have e : builtS l = ([] ++ M, [] ++ l.flatMap fun x => [((placeL ([] ++ M) x.w : Nat) : Int), ((placeL ([] ++ M) x.r : Nat) : Int)]) := by
    unfold builtS
    rw [hd, h1]
  rw [List.nil_append] at h2
  rw [List.nil_append, List.nil_append] at e
  have e1 : (builtS l).1 = M := by rw [e]
  rw [e1]
  refine ⟨by rw [h.pairs, e], h2, fun q => ?_⟩
  obtain ⟨x, hx, _⟩ := List.any_eq_true.1 hd
  rw [ByteArray.toList_eq, h.bytes, e1] at q
  have := placeL_le (h2 x hx).1
  rw [q] at this
  simp at this
end Go.Proofs.YtbjbicaffblchaaGreatDoor.Hand
end
section
namespace Go.Proofs.YtbjbicaffblchaaGreatDoor.SLDictPlaces
open Go.Proofs.YtbjbicaffblchaaGreatDoor.Hand
open Go.Proofs.YtbjbicaffblchaaGreatDoor.SA
open Go.Proofs.YtbjbicaffblchaaGreatDoor.SK
open Go.Proofs.YtbjbicaffblchaaGreatDoor.SS
open Go.RowKit Go.Proofs.YtbjbicaffblchaaGreatDoorW.PrintWords Go.Proofs.YtbjbicaffblchaaGreatDoorW.PrintLast Go.Proofs.YtbjbicaffblchaaGreatDoorW.PrintMore
attribute [local go_sem] max2_int min2_int max_two min_two max_three min_three max_four min_four
set_option linter.unusedVariables false
set_option linter.unusedSimpArgs false
def errW : Option Int → Value
  | none => .nilIface
  | some c => .iface 0 (.int .i64 c)
theorem errW_none : errW none = .nilIface := rfl
theorem errW_some (c : Int) : errW (some c) = .iface 0 (.int .i64 c) := rfl
end Go.Proofs.YtbjbicaffblchaaGreatDoor.SLDictPlaces
end
section
namespace Go.Proofs.YtbjbicaffblchaaGreatDoor.SLDictPlaces
open Go.Proofs.YtbjbicaffblchaaGreatDoor.Hand
open Go.Proofs.YtbjbicaffblchaaGreatDoor.SA
open Go.Proofs.YtbjbicaffblchaaGreatDoor.SK
open Go.Proofs.YtbjbicaffblchaaGreatDoor.SS
open Go.RowKit Go.Proofs.YtbjbicaffblchaaGreatDoorW.PrintWords Go.Proofs.YtbjbicaffblchaaGreatDoorW.PrintLast Go.Proofs.YtbjbicaffblchaaGreatDoorW.PrintMore
attribute [local go_sem] max2_int min2_int max_two min_two max_three min_three max_four min_four
set_option linter.unusedVariables false
set_option linter.unusedSimpArgs false
def postriderlaw07_DictPlaces.j0 : Nat → List (S41) → Int → Bool → ByteArray → List Int → Int → Bool → Option (Bool)
  | 0, _, _, _, _, _, _, _ => none
  | k + 1, x0, x1, x5, x6, x7, x8, x40 => if x40 = true then (if x5 = true then (if x8 = 0 then (some true) else (some (x6.toList == ([] : List UInt8)))) else (none)) else (if 0 ≤ x1 then (if x1 < (x0.length : Int) then ((eid_HalvesD.f ((rd_T41 x0 x1).f0) ((rd_T41 x0 x1).f1) ((rd_T41 x0 x1).f2) ((rd_T41 x0 x1).f3) ((rd_T41 x0 x1).f4)).bind fun bt111 => (if x6.toList = ([] : List UInt8) then (if x5 = true then (if bt111.2.2 = 0 then (if 0 ≤ (wrap64 (2 * x1)) then (if (wrap64 (2 * x1)) < (x7.length : Int) then (if (rd x7 (wrap64 (2 * x1))) = ((rd_T41 x0 x1).f3) then (if 0 ≤ (wrap64 ((wrap64 (2 * x1)) + 1)) then (if (wrap64 ((wrap64 (2 * x1)) + 1)) < (x7.length : Int) then (some ((rd x7 (wrap64 ((wrap64 (2 * x1)) + 1))) == ((rd_T41 x0 x1).f4))) else (none)) else (none)) else (none)) else (none)) else (none)) else (none)) else (none)) else (if x5 = true then (if bt111.2.2 = 0 then (if 0 ≤ (wrap64 (2 * x1)) then (if (wrap64 (2 * x1)) < (x7.length : Int) then ((postriderlaw07_stands.f x6 (rd x7 (wrap64 (2 * x1))) bt111.1).bind fun t119 => (if t119 = true then (if 0 ≤ (wrap64 ((wrap64 (2 * x1)) + 1)) then (if (wrap64 ((wrap64 (2 * x1)) + 1)) < (x7.length : Int) then ((postriderlaw07_stands.f x6 (rd x7 (wrap64 ((wrap64 (2 * x1)) + 1))) bt111.2.1).bind fun t121 => (some t121)) else (none)) else (none)) else (none))) else (none)) else (none)) else (none)) else (none)))) else (none)) else (none))
def postriderlaw07_DictPlaces.f (k : Nat) (l0 : List (S41)) (a1 : Int) : Option (Bool) := (postriderlaw07_shown.f k).bind fun t101 => ((postriderlaw07_Few.f k l0).bind fun t102 => ((dict_Build.f t102).bind fun bt105 => (if bt105.2.2 = 0 then (if a1 < 0 then (postriderlaw07_DictPlaces.j0 k t102 a1 t101 bt105.1 bt105.2.1 bt105.2.2 true) else (if a1 ≥ (t102.length : Int) then (postriderlaw07_DictPlaces.j0 k t102 a1 t101 bt105.1 bt105.2.1 bt105.2.2 true) else (postriderlaw07_DictPlaces.j0 k t102 a1 t101 bt105.1 bt105.2.1 bt105.2.2 ((bt105.2.1.length : Int) != (wrap64 (2 * (t102.length : Int))))))) else (postriderlaw07_DictPlaces.j0 k t102 a1 t101 bt105.1 bt105.2.1 bt105.2.2 true))))
theorem postriderlaw07_DictPlaces.mono_l : ∀ k, (∀ y0 y1 y2 y3 y4 y5 y6, LeO (postriderlaw07_DictPlaces.j0 k y0 y1 y2 y3 y4 y5 y6) (postriderlaw07_DictPlaces.j0 (k + 1) y0 y1 y2 y3 y4 y5 y6))
  | 0 => fun _ _ _ _ _ _ _ r h => by simp [postriderlaw07_DictPlaces.j0] at h
  | k + 1 => by
    have ih0 := postriderlaw07_DictPlaces.mono_l k
    · intro y0 y1 y2 y3 y4 y5 y6
      unfold postriderlaw07_DictPlaces.j0
      repeat' first
      | (with_reducible exact ih0 _ _ _ _ _ _ _)
      | (with_reducible exact postriderlaw07_Few.mono _ _)
      | (with_reducible exact postriderlaw07_shown.mono _)
      | (with_reducible exact LeO.refl _)
      | (with_reducible exact LeO.none _)
      | (with_reducible refine LeO.ite ?_ ?_)
      | (with_reducible refine LeO.bind ?_ (fun _ => ?_))
      | exact ih0 _ _ _ _ _ _ _
      | exact postriderlaw07_Few.mono _ _
      | exact postriderlaw07_shown.mono _
      | exact LeO.none _
      | refine LeO.ite ?_ ?_
      | refine LeO.bind ?_ (fun _ => ?_)
theorem postriderlaw07_DictPlaces.mono : ∀ a0 a1 k, LeO (postriderlaw07_DictPlaces.f k a0 a1) (postriderlaw07_DictPlaces.f (k + 1) a0 a1) := by
  intro a0 a1 k
  have ih0 := postriderlaw07_DictPlaces.mono_l k
  unfold postriderlaw07_DictPlaces.f
  repeat' first
      | (with_reducible exact ih0 _ _ _ _ _ _ _)
      | (with_reducible exact postriderlaw07_Few.mono _ _)
      | (with_reducible exact postriderlaw07_shown.mono _)
      | (with_reducible exact LeO.refl _)
      | (with_reducible exact LeO.none _)
      | (with_reducible refine LeO.ite ?_ ?_)
      | (with_reducible refine LeO.bind ?_ (fun _ => ?_))
      | exact ih0 _ _ _ _ _ _ _
      | exact postriderlaw07_Few.mono _ _
      | exact postriderlaw07_shown.mono _
      | exact LeO.none _
      | refine LeO.ite ?_ ?_
      | refine LeO.bind ?_ (fun _ => ?_)
set_option maxHeartbeats 8000000 in
set_option maxRecDepth 100000 in
theorem postriderlaw07_DictPlaces.calls (k : Nat) (A0 : Option Addr) (c0 : Nat) (l0 : List (S41)) (a1 : Int) (r : Bool) (w : World) (hr0 : Kd.C k41 w A0 l0.length l0) (hc0 : l0.length ≤ c0) (hLd : LaidD w) (h : postriderlaw07_DictPlaces.f k l0 a1 = some r) :
    Calls Tryz.prog 6 #[.slice A0 l0.length c0, .int .i64 a1] w fun e w' => e = .returned (.bool r) ∧ Below w.heap.size w w' := by
  have hu41 := Tryz.underlying41
  have HLD := Aside0.mk hLd
  clear hLd
  have HR0 := Aside0.mk hr0
  have HC0 := Aside0.mk hc0
  clear hr0 hc0
  have HB := Aside0.mk (Below.refl w.heap.size w)
  have H : ((postriderlaw07_shown.f k).bind fun t101 => ((postriderlaw07_Few.f k l0).bind fun t102 => ((dict_Build.f t102).bind fun bt105 => (if bt105.2.2 = 0 then (if a1 < 0 then (postriderlaw07_DictPlaces.j0 k t102 a1 t101 bt105.1 bt105.2.1 bt105.2.2 true) else (if a1 ≥ (t102.length : Int) then (postriderlaw07_DictPlaces.j0 k t102 a1 t101 bt105.1 bt105.2.1 bt105.2.2 true) else (postriderlaw07_DictPlaces.j0 k t102 a1 t101 bt105.1 bt105.2.1 bt105.2.2 ((bt105.2.1.length : Int) != (wrap64 (2 * (t102.length : Int))))))) else (postriderlaw07_DictPlaces.j0 k t102 a1 t101 bt105.1 bt105.2.1 bt105.2.2 true))))) = some r := h
  clear h
  replace H := Option.bind_eq_some_iff.mp H
  obtain ⟨t101, A30, H⟩ := H
  replace H : ((postriderlaw07_Few.f k l0).bind fun t102 => ((dict_Build.f t102).bind fun bt105 => (if bt105.2.2 = 0 then (if a1 < 0 then (postriderlaw07_DictPlaces.j0 k t102 a1 t101 bt105.1 bt105.2.1 bt105.2.2 true) else (if a1 ≥ (t102.length : Int) then (postriderlaw07_DictPlaces.j0 k t102 a1 t101 bt105.1 bt105.2.1 bt105.2.2 true) else (postriderlaw07_DictPlaces.j0 k t102 a1 t101 bt105.1 bt105.2.1 bt105.2.2 ((bt105.2.1.length : Int) != (wrap64 (2 * (t102.length : Int))))))) else (postriderlaw07_DictPlaces.j0 k t102 a1 t101 bt105.1 bt105.2.1 bt105.2.2 true)))) = some r := H
  have A3 := Aside0.mk A30
  clear A30
  replace H := Option.bind_eq_some_iff.mp H
  obtain ⟨t102, A40, H⟩ := H
  replace H : ((dict_Build.f t102).bind fun bt105 => (if bt105.2.2 = 0 then (if a1 < 0 then (postriderlaw07_DictPlaces.j0 k t102 a1 t101 bt105.1 bt105.2.1 bt105.2.2 true) else (if a1 ≥ (t102.length : Int) then (postriderlaw07_DictPlaces.j0 k t102 a1 t101 bt105.1 bt105.2.1 bt105.2.2 true) else (postriderlaw07_DictPlaces.j0 k t102 a1 t101 bt105.1 bt105.2.1 bt105.2.2 ((bt105.2.1.length : Int) != (wrap64 (2 * (t102.length : Int))))))) else (postriderlaw07_DictPlaces.j0 k t102 a1 t101 bt105.1 bt105.2.1 bt105.2.2 true))) = some r := H
  have A4 := Aside0.mk A40
  clear A40
  replace H := Option.bind_eq_some_iff.mp H
  obtain ⟨⟨t105, t106, t107⟩, A50, H⟩ := H
  replace H : (if t107 = 0 then (if a1 < 0 then (postriderlaw07_DictPlaces.j0 k t102 a1 t101 t105 t106 t107 true) else (if a1 ≥ (t102.length : Int) then (postriderlaw07_DictPlaces.j0 k t102 a1 t101 t105 t106 t107 true) else (postriderlaw07_DictPlaces.j0 k t102 a1 t101 t105 t106 t107 ((t106.length : Int) != (wrap64 (2 * (t102.length : Int))))))) else (postriderlaw07_DictPlaces.j0 k t102 a1 t101 t105 t106 t107 true)) = some r := H
  have A5 := Aside0.mk A50
  clear A50
  have HC6 := Aside0.mk H
  clear H
  go_enter Tryz.func6, Tryz.ntmps6
  go_upto_region 4 with (first | (go_at_call 8; (with_reducible refine (postriderlaw07_shown.calls k  t101 _ ?side1 A3.out).mono ?_); (case side1 => exact LaidD.below HLD.out (by repeat (first | (with_reducible first | exact HB.out | apply below_alloc | apply pw_below_drewN | apply below_drew1) | exact HB.out))); rintro e w7 ⟨rfl, hb⟩; have n0_ := Aside0.mk (below_step (by repeat (first | (with_reducible first | exact HB.out | apply below_alloc | apply pw_below_drewN | apply below_drew1) | exact HB.out)) hb); clear HB; have HB := n0_; clear n0_; (try clear hb); (try clear hb2); (try clear hk); (try clear hi)) | (go_at_call 9; (with_reducible refine (postriderlaw07_Few.calls k _ _ l0 t102 _ ?side1 ?side2 A4.out).mono ?_); (case side1 => repeat (first | exact (Kd.C_below HR0.out HB.out) | (with_reducible refine Kd.C_alloc ?_ _) | (with_reducible refine Kd.C_drewN ?_ _) | (with_reducible refine Kd.C_drew ?_))); (case side2 => exact HC0.out); rintro e w8 ⟨v103, rfl, ho0, hb⟩; have n0_ := Aside0.mk (Kd.R_lower ho0 (below_size (by repeat (first | (with_reducible first | exact HB.out | apply below_alloc | apply pw_below_drewN | apply below_drew1) | exact HB.out)))); have n1_ := Aside0.mk (below_step (by repeat (first | (with_reducible first | exact HB.out | apply below_alloc | apply pw_below_drewN | apply below_drew1) | exact HB.out)) hb); clear HB; have HO104 := n0_; have HB := n1_; clear n0_ n1_; (try clear hb); (try clear hb2); (try clear hk); (try clear hi); (try clear ho0); obtain ⟨Ao9, co9, eo9⟩ := Kd.R_slice HO104.out; subst eo9) | (go_at_call 12; (with_reducible refine (dict_Build.calls _ _ t102 t105 t106 t107 _ ?side1 ?side2 ?side3 A5.out).mono ?_); (case side1 => repeat (first | exact (Kd.R_reads' HO104.out).2.2 | (with_reducible refine Kd.C_alloc ?_ _) | (with_reducible refine Kd.C_drewN ?_ _) | (with_reducible refine Kd.C_drew ?_))); (case side2 => exact (Kd.R_reads' HO104.out).2.1); (case side3 => exact LaidD.below HLD.out (by repeat (first | (with_reducible first | exact HB.out | apply below_alloc | apply pw_below_drewN | apply below_drew1) | exact HB.out))); rintro e w10 ⟨v108, rfl, ho0, hb⟩; have n0_ := Aside0.mk (Kd.R_below (by (with_reducible repeat (first | apply Kd.R_alloc | apply Kd.R_drewN | apply Kd.R_drew)); exact HO104.out) hb); have n1_ := Aside0.mk (Kd.R_lower ho0 (below_size (by repeat (first | (with_reducible first | exact HB.out | apply below_alloc | apply pw_below_drewN | apply below_drew1) | exact HB.out)))); have n2_ := Aside0.mk (below_step (by repeat (first | (with_reducible first | exact HB.out | apply below_alloc | apply pw_below_drewN | apply below_drew1) | exact HB.out)) hb); clear HO104; clear HB; have HO104 := n0_; have HO109 := n1_; have HB := n2_; clear n0_ n1_ n2_; (try clear hb); (try clear hb2); (try clear hk); (try clear hi); (try clear ho0)))
  repeat (go_quiet (first | (go_at_call 8; (with_reducible refine (postriderlaw07_shown.calls k  t101 _ ?side1 A3.out).mono ?_); (case side1 => exact LaidD.below HLD.out (by repeat (first | (with_reducible first | exact HB.out | apply below_alloc | apply pw_below_drewN | apply below_drew1) | exact HB.out))); rintro e w7 ⟨rfl, hb⟩; have n0_ := Aside0.mk (below_step (by repeat (first | (with_reducible first | exact HB.out | apply below_alloc | apply pw_below_drewN | apply below_drew1) | exact HB.out)) hb); clear HB; have HB := n0_; clear n0_; (try clear hb); (try clear hb2); (try clear hk); (try clear hi)) | (go_at_call 9; (with_reducible refine (postriderlaw07_Few.calls k _ _ l0 t102 _ ?side1 ?side2 A4.out).mono ?_); (case side1 => repeat (first | exact (Kd.C_below HR0.out HB.out) | (with_reducible refine Kd.C_alloc ?_ _) | (with_reducible refine Kd.C_drewN ?_ _) | (with_reducible refine Kd.C_drew ?_))); (case side2 => exact HC0.out); rintro e w8 ⟨v103, rfl, ho0, hb⟩; have n0_ := Aside0.mk (Kd.R_lower ho0 (below_size (by repeat (first | (with_reducible first | exact HB.out | apply below_alloc | apply pw_below_drewN | apply below_drew1) | exact HB.out)))); have n1_ := Aside0.mk (below_step (by repeat (first | (with_reducible first | exact HB.out | apply below_alloc | apply pw_below_drewN | apply below_drew1) | exact HB.out)) hb); clear HB; have HO104 := n0_; have HB := n1_; clear n0_ n1_; (try clear hb); (try clear hb2); (try clear hk); (try clear hi); (try clear ho0); obtain ⟨Ao9, co9, eo9⟩ := Kd.R_slice HO104.out; subst eo9) | (go_at_call 12; (with_reducible refine (dict_Build.calls _ _ t102 t105 t106 t107 _ ?side1 ?side2 ?side3 A5.out).mono ?_); (case side1 => repeat (first | exact (Kd.R_reads' HO104.out).2.2 | (with_reducible refine Kd.C_alloc ?_ _) | (with_reducible refine Kd.C_drewN ?_ _) | (with_reducible refine Kd.C_drew ?_))); (case side2 => exact (Kd.R_reads' HO104.out).2.1); (case side3 => exact LaidD.below HLD.out (by repeat (first | (with_reducible first | exact HB.out | apply below_alloc | apply pw_below_drewN | apply below_drew1) | exact HB.out))); rintro e w10 ⟨v108, rfl, ho0, hb⟩; have n0_ := Aside0.mk (Kd.R_below (by (with_reducible repeat (first | apply Kd.R_alloc | apply Kd.R_drewN | apply Kd.R_drew)); exact HO104.out) hb); have n1_ := Aside0.mk (Kd.R_lower ho0 (below_size (by repeat (first | (with_reducible first | exact HB.out | apply below_alloc | apply pw_below_drewN | apply below_drew1) | exact HB.out)))); have n2_ := Aside0.mk (below_step (by repeat (first | (with_reducible first | exact HB.out | apply below_alloc | apply pw_below_drewN | apply below_drew1) | exact HB.out)) hb); clear HO104; clear HB; have HO104 := n0_; have HO109 := n1_; have HB := n2_; clear n0_ n1_ n2_; (try clear hb); (try clear hb2); (try clear hk); (try clear hi); (try clear ho0))); go_upto_region 4 with (first | (go_at_call 8; (with_reducible refine (postriderlaw07_shown.calls k  t101 _ ?side1 A3.out).mono ?_); (case side1 => exact LaidD.below HLD.out (by repeat (first | (with_reducible first | exact HB.out | apply below_alloc | apply pw_below_drewN | apply below_drew1) | exact HB.out))); rintro e w7 ⟨rfl, hb⟩; have n0_ := Aside0.mk (below_step (by repeat (first | (with_reducible first | exact HB.out | apply below_alloc | apply pw_below_drewN | apply below_drew1) | exact HB.out)) hb); clear HB; have HB := n0_; clear n0_; (try clear hb); (try clear hb2); (try clear hk); (try clear hi)) | (go_at_call 9; (with_reducible refine (postriderlaw07_Few.calls k _ _ l0 t102 _ ?side1 ?side2 A4.out).mono ?_); (case side1 => repeat (first | exact (Kd.C_below HR0.out HB.out) | (with_reducible refine Kd.C_alloc ?_ _) | (with_reducible refine Kd.C_drewN ?_ _) | (with_reducible refine Kd.C_drew ?_))); (case side2 => exact HC0.out); rintro e w8 ⟨v103, rfl, ho0, hb⟩; have n0_ := Aside0.mk (Kd.R_lower ho0 (below_size (by repeat (first | (with_reducible first | exact HB.out | apply below_alloc | apply pw_below_drewN | apply below_drew1) | exact HB.out)))); have n1_ := Aside0.mk (below_step (by repeat (first | (with_reducible first | exact HB.out | apply below_alloc | apply pw_below_drewN | apply below_drew1) | exact HB.out)) hb); clear HB; have HO104 := n0_; have HB := n1_; clear n0_ n1_; (try clear hb); (try clear hb2); (try clear hk); (try clear hi); (try clear ho0); obtain ⟨Ao9, co9, eo9⟩ := Kd.R_slice HO104.out; subst eo9) | (go_at_call 12; (with_reducible refine (dict_Build.calls _ _ t102 t105 t106 t107 _ ?side1 ?side2 ?side3 A5.out).mono ?_); (case side1 => repeat (first | exact (Kd.R_reads' HO104.out).2.2 | (with_reducible refine Kd.C_alloc ?_ _) | (with_reducible refine Kd.C_drewN ?_ _) | (with_reducible refine Kd.C_drew ?_))); (case side2 => exact (Kd.R_reads' HO104.out).2.1); (case side3 => exact LaidD.below HLD.out (by repeat (first | (with_reducible first | exact HB.out | apply below_alloc | apply pw_below_drewN | apply below_drew1) | exact HB.out))); rintro e w10 ⟨v108, rfl, ho0, hb⟩; have n0_ := Aside0.mk (Kd.R_below (by (with_reducible repeat (first | apply Kd.R_alloc | apply Kd.R_drewN | apply Kd.R_drew)); exact HO104.out) hb); have n1_ := Aside0.mk (Kd.R_lower ho0 (below_size (by repeat (first | (with_reducible first | exact HB.out | apply below_alloc | apply pw_below_drewN | apply below_drew1) | exact HB.out)))); have n2_ := Aside0.mk (below_step (by repeat (first | (with_reducible first | exact HB.out | apply below_alloc | apply pw_below_drewN | apply below_drew1) | exact HB.out)) hb); clear HO104; clear HB; have HO104 := n0_; have HO109 := n1_; have HB := n2_; clear n0_ n1_ n2_; (try clear hb); (try clear hb2); (try clear hk); (try clear hi); (try clear ho0))))
  (try simp only [Act.put, List.setIfInBounds_toArray, List.set_cons_zero, List.set_cons_succ])
  go_cut [40] (fun v40 wc => ∃ (kq : Nat) (x40_5 : Bool), v40 = .bool x40_5 ∧ Aside0 (postriderlaw07_DictPlaces.j0 kq t102 a1 t101 t105 t106 t107 x40_5 = some r) ∧ Aside0 (kq ≤ k) ∧ Aside0 (Kd.R k41 41 wc w.heap.size (fun _ => True) (.slice Ao9 t102.length co9) t102) ∧ Aside0 (Kd.R (Kd.int .i64) 3 wc w.heap.size (fun _ => True) v108 t106) ∧ Aside0 (Below w.heap.size w wc))
  case first =>
    have H := HC6.out
    clear HC6
    by_cases c11 : t107 = 0
    · rw [if_pos c11] at H
      have c11b0 : (t107 == 0) = true := beq_iff_eq.mpr c11
      have c11b1 : (t107 != 0) = false := bne_eq_false_iff_eq.mpr c11
      clear c11
      (first | rw [c11b0] | (simp only [i64_w, i32_w]; rw [c11b0]) | skip)
      by_cases c12 : a1 < 0
      · rw [if_pos c12] at H
        have c12b0 : decide (a1 < 0) = true := decide_eq_true c12
        clear c12
        have H' := Aside0.mk H
        clear H
        go_wp2
        repeat (go_quiet (fail); try go_wp2)
        go_meet
        case rel => exact ⟨_, (true), (by first | rfl | (simp; done) | (simp [*]; done)), H', ⟨by first | omega | exact Nat.le_refl _⟩, ⟨by (with_reducible repeat (first | apply Kd.R_alloc | apply Kd.R_drewN | apply Kd.R_drew)); exact HO104.out⟩, ⟨by (with_reducible repeat (first | apply Kd.R_alloc | apply Kd.R_drewN | apply Kd.R_drew)); exact HO109.out⟩, ⟨by repeat (first | (with_reducible first | exact HB.out | apply below_alloc | apply pw_below_drewN | apply below_drew1) | exact HB.out)⟩⟩
      · rw [if_neg c12] at H
        have c12b0 : decide (a1 < 0) = false := decide_eq_false c12
        clear c12
        by_cases c13 : a1 ≥ (t102.length : Int)
        · rw [if_pos c13] at H
          have c13b0 : decide ((t102.length : Int) ≤ a1) = true := decide_eq_true c13
          clear c13
          have H' := Aside0.mk H
          clear H
          go_wp2
          repeat (go_quiet (fail); try go_wp2)
          go_meet
          case rel => exact ⟨_, (true), (by first | rfl | (simp; done) | (simp [*]; done)), H', ⟨by first | omega | exact Nat.le_refl _⟩, ⟨by (with_reducible repeat (first | apply Kd.R_alloc | apply Kd.R_drewN | apply Kd.R_drew)); exact HO104.out⟩, ⟨by (with_reducible repeat (first | apply Kd.R_alloc | apply Kd.R_drewN | apply Kd.R_drew)); exact HO109.out⟩, ⟨by repeat (first | (with_reducible first | exact HB.out | apply below_alloc | apply pw_below_drewN | apply below_drew1) | exact HB.out)⟩⟩
        · rw [if_neg c13] at H
          have c13b0 : decide ((t102.length : Int) ≤ a1) = false := decide_eq_false c13
          clear c13
          have H' := Aside0.mk H
          clear H
          obtain ⟨Ao14, co14, eo14⟩ := Kd.R_slice HO109.out
          subst eo14
          go_wp2
          repeat (go_quiet (fail); try go_wp2)
          go_meet
          case rel => exact ⟨_, (((t106.length : Int) != (wrap64 (2 * (t102.length : Int))))), (by first | rfl | (simp; done) | (simp [*]; done)), H', ⟨by first | omega | exact Nat.le_refl _⟩, ⟨by (with_reducible repeat (first | apply Kd.R_alloc | apply Kd.R_drewN | apply Kd.R_drew)); exact HO104.out⟩, ⟨by (with_reducible repeat (first | apply Kd.R_alloc | apply Kd.R_drewN | apply Kd.R_drew)); exact HO109.out⟩, ⟨by repeat (first | (with_reducible first | exact HB.out | apply below_alloc | apply pw_below_drewN | apply below_drew1) | exact HB.out)⟩⟩
    · rw [if_neg c11] at H
      have c11b0 : (t107 == 0) = false := beq_eq_false_iff_ne.mpr c11
      have c11b1 : (t107 != 0) = true := bne_iff_ne.mpr c11
      (first | rw [c11b0] | (simp only [i64_w, i32_w]; rw [c11b0]) | skip)
      have H' := Aside0.mk H
      clear H
      go_wp2
      repeat (go_quiet (fail); try go_wp2)
      go_meet
      case rel => exact ⟨_, (true), (by first | rfl | (simp; done) | (simp [*]; done)), H', ⟨by first | omega | exact Nat.le_refl _⟩, ⟨by (with_reducible repeat (first | apply Kd.R_alloc | apply Kd.R_drewN | apply Kd.R_drew)); exact HO104.out⟩, ⟨by (with_reducible repeat (first | apply Kd.R_alloc | apply Kd.R_drewN | apply Kd.R_drew)); exact HO109.out⟩, ⟨by repeat (first | (with_reducible first | exact HB.out | apply below_alloc | apply pw_below_drewN | apply below_drew1) | exact HB.out)⟩⟩
  case rest =>
    clear HC6
    try clear c1
    try clear p2
    try clear c6
    try clear p6
    try clear c11
    try clear c11b0
    try clear c11b1
    try clear c12
    try clear c12b0
    try clear c13
    try clear c13b0
    obtain ⟨kq, x40_5, rfl, HA, HJ5, HO_0, HO_7, HB⟩ := hcut
    cases kq with
    | zero => exact absurd HA.out (by simp [postriderlaw07_DictPlaces.j0])
    | succ kj5 =>
      have H := HA.out
      clear HA
      simp only [postriderlaw07_DictPlaces.j0] at H
      by_cases c15 : x40_5 = true
      · subst c15
        have H1 : (if t101 = true then (if t107 = 0 then (some true) else (some (t105.toList == ([] : List UInt8)))) else (none)) = some r := by rw [if_pos rfl] at H; exact H
        clear H
        have H := H1
        clear H1
        by_cases c16 : t101 = true
        · subst c16
          have H1 : (if t107 = 0 then (some true) else (some (t105.toList == ([] : List UInt8)))) = some r := by rw [if_pos rfl] at H; exact H
          clear H
          have H := H1
          clear H1
          by_cases c17 : t107 = 0
          · rw [if_pos c17] at H
            have c17b0 : (t107 == 0) = true := beq_iff_eq.mpr c17
            have c17b1 : (t107 != 0) = false := bne_eq_false_iff_eq.mpr c17
            clear c17
            obtain rfl := Option.some.inj H
            go_wp2
            repeat (go_quiet (fail); try go_wp2)
            all_goals (first | (go_ret; exact ⟨by first | rfl | (simp [errW_none, errW_some] <;> rfl) | (simp [*, errW_none, errW_some] <;> rfl) | (simp_all; done), by repeat (first | (with_reducible first | exact HB.out | apply below_alloc | apply pw_below_drewN | apply below_drew1) | exact HB.out)⟩) | (exfalso; simp_all; done))
          · rw [if_neg c17] at H
            have c17b0 : (t107 == 0) = false := beq_eq_false_iff_ne.mpr c17
            have c17b1 : (t107 != 0) = true := bne_iff_ne.mpr c17
            obtain rfl := Option.some.inj H
            go_wp2
            repeat (go_quiet (fail); try go_wp2)
            all_goals (first | (go_ret; exact ⟨by first | rfl | (simp [errW_none, errW_some] <;> rfl) | (simp [*, errW_none, errW_some] <;> rfl) | (simp_all; done), by repeat (first | (with_reducible first | exact HB.out | apply below_alloc | apply pw_below_drewN | apply below_drew1) | exact HB.out)⟩) | (exfalso; simp_all; done))
        · replace c16 := Bool.eq_false_iff.mpr c16
          subst c16
          have H1 : (none) = some r := by rw [if_neg (show ¬ (false = true) by decide)] at H; exact H
          clear H
          have H := H1
          clear H1
          exact absurd H (by simp)
      · replace c15 := Bool.eq_false_iff.mpr c15
        subst c15
        have H1 : (if 0 ≤ a1 then (if a1 < (t102.length : Int) then ((eid_HalvesD.f ((rd_T41 t102 a1).f0) ((rd_T41 t102 a1).f1) ((rd_T41 t102 a1).f2) ((rd_T41 t102 a1).f3) ((rd_T41 t102 a1).f4)).bind fun bt111 => (if t105.toList = ([] : List UInt8) then (if t101 = true then (if bt111.2.2 = 0 then (if 0 ≤ (wrap64 (2 * a1)) then (if (wrap64 (2 * a1)) < (t106.length : Int) then (if (rd t106 (wrap64 (2 * a1))) = ((rd_T41 t102 a1).f3) then (if 0 ≤ (wrap64 ((wrap64 (2 * a1)) + 1)) then (if (wrap64 ((wrap64 (2 * a1)) + 1)) < (t106.length : Int) then (some ((rd t106 (wrap64 ((wrap64 (2 * a1)) + 1))) == ((rd_T41 t102 a1).f4))) else (none)) else (none)) else (none)) else (none)) else (none)) else (none)) else (none)) else (if t101 = true then (if bt111.2.2 = 0 then (if 0 ≤ (wrap64 (2 * a1)) then (if (wrap64 (2 * a1)) < (t106.length : Int) then ((postriderlaw07_stands.f t105 (rd t106 (wrap64 (2 * a1))) bt111.1).bind fun t119 => (if t119 = true then (if 0 ≤ (wrap64 ((wrap64 (2 * a1)) + 1)) then (if (wrap64 ((wrap64 (2 * a1)) + 1)) < (t106.length : Int) then ((postriderlaw07_stands.f t105 (rd t106 (wrap64 ((wrap64 (2 * a1)) + 1))) bt111.2.1).bind fun t121 => (some t121)) else (none)) else (none)) else (none))) else (none)) else (none)) else (none)) else (none)))) else (none)) else (none)) = some r := by rw [if_neg (show ¬ (false = true) by decide)] at H; exact H
        clear H
        have H := H1
        clear H1
        by_cases c18 : 0 ≤ a1
        · rw [if_pos c18] at H
          have c18b0 : decide (0 ≤ a1) = true := decide_eq_true c18
          clear c18
          by_cases c19 : a1 < (t102.length : Int)
          · rw [if_pos c19] at H
            have c19b0 : decide (a1 < (t102.length : Int)) = true := decide_eq_true c19
            clear c19
            replace H := Option.bind_eq_some_iff.mp H
            obtain ⟨⟨t111, t112, t113⟩, A200, H⟩ := H
            replace H : (if t105.toList = ([] : List UInt8) then (if t101 = true then (if t113 = 0 then (if 0 ≤ (wrap64 (2 * a1)) then (if (wrap64 (2 * a1)) < (t106.length : Int) then (if (rd t106 (wrap64 (2 * a1))) = ((rd_T41 t102 a1).f3) then (if 0 ≤ (wrap64 ((wrap64 (2 * a1)) + 1)) then (if (wrap64 ((wrap64 (2 * a1)) + 1)) < (t106.length : Int) then (some ((rd t106 (wrap64 ((wrap64 (2 * a1)) + 1))) == ((rd_T41 t102 a1).f4))) else (none)) else (none)) else (none)) else (none)) else (none)) else (none)) else (none)) else (if t101 = true then (if t113 = 0 then (if 0 ≤ (wrap64 (2 * a1)) then (if (wrap64 (2 * a1)) < (t106.length : Int) then ((postriderlaw07_stands.f t105 (rd t106 (wrap64 (2 * a1))) t111).bind fun t119 => (if t119 = true then (if 0 ≤ (wrap64 ((wrap64 (2 * a1)) + 1)) then (if (wrap64 ((wrap64 (2 * a1)) + 1)) < (t106.length : Int) then ((postriderlaw07_stands.f t105 (rd t106 (wrap64 ((wrap64 (2 * a1)) + 1))) t112).bind fun t121 => (some t121)) else (none)) else (none)) else (none))) else (none)) else (none)) else (none)) else (none))) = some r := H
            have A20 := Aside0.mk A200
            clear A200
            by_cases c21 : t105.toList = ([] : List UInt8)
            · rw [if_pos c21] at H
              have c21b0 : (t105.toList == ([] : List UInt8)) = true := beq_iff_eq.mpr c21
              have c21b1 : (t105.toList != ([] : List UInt8)) = false := bne_eq_false_iff_eq.mpr c21
              clear c21
              by_cases c22 : t101 = true
              · subst c22
                have H1 : (if t113 = 0 then (if 0 ≤ (wrap64 (2 * a1)) then (if (wrap64 (2 * a1)) < (t106.length : Int) then (if (rd t106 (wrap64 (2 * a1))) = ((rd_T41 t102 a1).f3) then (if 0 ≤ (wrap64 ((wrap64 (2 * a1)) + 1)) then (if (wrap64 ((wrap64 (2 * a1)) + 1)) < (t106.length : Int) then (some ((rd t106 (wrap64 ((wrap64 (2 * a1)) + 1))) == ((rd_T41 t102 a1).f4))) else (none)) else (none)) else (none)) else (none)) else (none)) else (none)) = some r := by rw [if_pos rfl] at H; exact H
                clear H
                have H := H1
                clear H1
                by_cases c23 : t113 = 0
                · rw [if_pos c23] at H
                  have c23b0 : (t113 == 0) = true := beq_iff_eq.mpr c23
                  have c23b1 : (t113 != 0) = false := bne_eq_false_iff_eq.mpr c23
                  clear c23
                  obtain ⟨ji24, hji24⟩ : ∃ j_ : Int, (wrap64 (2 * a1)) = j_ := ⟨_, rfl⟩
                  replace H : (if 0 ≤ (ji24) then (if (ji24) < (t106.length : Int) then (if (rd t106 (ji24)) = ((rd_T41 t102 a1).f3) then (if 0 ≤ (wrap64 ((ji24) + 1)) then (if (wrap64 ((ji24) + 1)) < (t106.length : Int) then (some ((rd t106 (wrap64 ((ji24) + 1))) == ((rd_T41 t102 a1).f4))) else (none)) else (none)) else (none)) else (none)) else (none)) = some r := by first | (rw [hji24] at H; exact H) | (simp only [hji24] at H ⊢; exact H)
                  (try rw [hji24] at A20)
                  have hji24w : (IntKind.i64.wrap (2 * a1)) = ji24 := (i64_w _).trans hji24
                  by_cases c25 : 0 ≤ (ji24)
                  · rw [if_pos c25] at H
                    have c25b0 : decide (0 ≤ (ji24)) = true := decide_eq_true c25
                    clear c25
                    by_cases c26 : (ji24) < (t106.length : Int)
                    · rw [if_pos c26] at H
                      have c26b0 : decide ((ji24) < (t106.length : Int)) = true := decide_eq_true c26
                      clear c26
                      by_cases c27 : (rd t106 (ji24)) = ((rd_T41 t102 a1).f3)
                      · rw [if_pos c27] at H
                        have c27b0 : ((rd t106 (ji24)) == ((rd_T41 t102 a1).f3)) = true := beq_iff_eq.mpr c27
                        have c27b1 : ((rd t106 (ji24)) != ((rd_T41 t102 a1).f3)) = false := bne_eq_false_iff_eq.mpr c27
                        clear c27
                        obtain ⟨ji28, hji28⟩ : ∃ j_ : Int, (wrap64 ((ji24) + 1)) = j_ := ⟨_, rfl⟩
                        replace H : (if 0 ≤ (ji28) then (if (ji28) < (t106.length : Int) then (some ((rd t106 (ji28)) == ((rd_T41 t102 a1).f4))) else (none)) else (none)) = some r := by first | (rw [hji28] at H; exact H) | (simp only [hji28] at H ⊢; exact H)
                        (try rw [hji28] at A20)
                        have hji28w : (IntKind.i64.wrap ((ji24) + 1)) = ji28 := (i64_w _).trans hji28
                        by_cases c29 : 0 ≤ (ji28)
                        · rw [if_pos c29] at H
                          have c29b0 : decide (0 ≤ (ji28)) = true := decide_eq_true c29
                          clear c29
                          by_cases c30 : (ji28) < (t106.length : Int)
                          · rw [if_pos c30] at H
                            have c30b0 : decide ((ji28) < (t106.length : Int)) = true := decide_eq_true c30
                            clear c30
                            obtain rfl := Option.some.inj H
                            have p110 : 0 ≤ (a1 : Int) := of_decide_eq_true (by first | (with_reducible assumption) | assumption)
                            have q110 : a1 < (t102.length : Int) := of_decide_eq_true (by first | (with_reducible assumption) | assumption)
                            obtain ⟨ad110, e110, hx110_0, hx110_1, hx110_2, hx110_3, hx110_4⟩ := at_T41 (Kd.R_reads' HO_0.out).2.2 a1 p110 q110
                            cases e110
                            replace p110 := eq_true p110
                            replace q110 := eq_true q110
                            go_wp2_with (first | (go_at_call 22; (with_reducible refine (eid_HalvesD.calls ((rd_T41 t102 a1).f0) ((rd_T41 t102 a1).f1) ((rd_T41 t102 a1).f2) ((rd_T41 t102 a1).f3) ((rd_T41 t102 a1).f4) t111 t112 t113 _ ?side1 A20.out).mono ?_); (case side1 => exact LaidD.below HLD.out (by repeat (first | (with_reducible first | exact HB.out | apply below_alloc | apply pw_below_drewN | apply below_drew1) | exact HB.out))); rintro e w31 ⟨rfl, hb⟩; have n0_ := Aside0.mk (Kd.R_below (by (with_reducible repeat (first | apply Kd.R_alloc | apply Kd.R_drewN | apply Kd.R_drew)); exact HO_0.out) hb); have n1_ := Aside0.mk (Kd.R_below (by (with_reducible repeat (first | apply Kd.R_alloc | apply Kd.R_drewN | apply Kd.R_drew)); exact HO_7.out) hb); have n2_ := Aside0.mk (below_step (by repeat (first | (with_reducible first | exact HB.out | apply below_alloc | apply pw_below_drewN | apply below_drew1) | exact HB.out)) hb); clear HO_0; clear HO_7; clear HB; have HO_0 := n0_; have HO_7 := n1_; have HB := n2_; clear n0_ n1_ n2_; (try clear hb); (try clear hb2); (try clear hk); (try clear hi); obtain ⟨Ao32, co32, eo32⟩ := Kd.R_slice HO_7.out; subst eo32; have p114 : 0 ≤ ((ji24) : Int) := of_decide_eq_true (by first | (with_reducible assumption) | assumption); have q114 : (ji24) < (t106.length : Int) := of_decide_eq_true (by first | (with_reducible assumption) | assumption); obtain ⟨ad114, e114, hx114_0⟩ := Kd.at_int (Kd.R_reads' HO_7.out).2.2 (ji24) p114 q114; cases e114; replace p114 := eq_true p114; replace q114 := eq_true q114; have p115 : 0 ≤ (a1 : Int) := of_decide_eq_true (by first | (with_reducible assumption) | assumption); have q115 : a1 < (t102.length : Int) := of_decide_eq_true (by first | (with_reducible assumption) | assumption); obtain ⟨ad115, e115, hx115_0, hx115_1, hx115_2, hx115_3, hx115_4⟩ := at_T41 (Kd.R_reads' HO_0.out).2.2 a1 p115 q115; obtain rfl : ad110 = ad115 := (by injection e115); replace p115 := eq_true p115; replace q115 := eq_true q115; have p116 : 0 ≤ ((ji28) : Int) := of_decide_eq_true (by first | (with_reducible assumption) | assumption); have q116 : (ji28) < (t106.length : Int) := of_decide_eq_true (by first | (with_reducible assumption) | assumption); obtain ⟨ad116, e116, hx116_0⟩ := Kd.at_int (Kd.R_reads' HO_7.out).2.2 (ji28) p116 q116; obtain rfl : ad114 = ad116 := (by injection e116); replace p116 := eq_true p116; replace q116 := eq_true q116; have p117 : 0 ≤ (a1 : Int) := of_decide_eq_true (by first | (with_reducible assumption) | assumption); have q117 : a1 < (t102.length : Int) := of_decide_eq_true (by first | (with_reducible assumption) | assumption); obtain ⟨ad117, e117, hx117_0, hx117_1, hx117_2, hx117_3, hx117_4⟩ := at_T41 (Kd.R_reads' HO_0.out).2.2 a1 p117 q117; obtain rfl : ad110 = ad117 := (by injection e117); replace p117 := eq_true p117; replace q117 := eq_true q117))
                            repeat (go_quiet (first | (go_at_call 22; (with_reducible refine (eid_HalvesD.calls ((rd_T41 t102 a1).f0) ((rd_T41 t102 a1).f1) ((rd_T41 t102 a1).f2) ((rd_T41 t102 a1).f3) ((rd_T41 t102 a1).f4) t111 t112 t113 _ ?side1 A20.out).mono ?_); (case side1 => exact LaidD.below HLD.out (by repeat (first | (with_reducible first | exact HB.out | apply below_alloc | apply pw_below_drewN | apply below_drew1) | exact HB.out))); rintro e w31 ⟨rfl, hb⟩; have n0_ := Aside0.mk (Kd.R_below (by (with_reducible repeat (first | apply Kd.R_alloc | apply Kd.R_drewN | apply Kd.R_drew)); exact HO_0.out) hb); have n1_ := Aside0.mk (Kd.R_below (by (with_reducible repeat (first | apply Kd.R_alloc | apply Kd.R_drewN | apply Kd.R_drew)); exact HO_7.out) hb); have n2_ := Aside0.mk (below_step (by repeat (first | (with_reducible first | exact HB.out | apply below_alloc | apply pw_below_drewN | apply below_drew1) | exact HB.out)) hb); clear HO_0; clear HO_7; clear HB; have HO_0 := n0_; have HO_7 := n1_; have HB := n2_; clear n0_ n1_ n2_; (try clear hb); (try clear hb2); (try clear hk); (try clear hi); obtain ⟨Ao32, co32, eo32⟩ := Kd.R_slice HO_7.out; subst eo32; have p114 : 0 ≤ ((ji24) : Int) := of_decide_eq_true (by first | (with_reducible assumption) | assumption); have q114 : (ji24) < (t106.length : Int) := of_decide_eq_true (by first | (with_reducible assumption) | assumption); obtain ⟨ad114, e114, hx114_0⟩ := Kd.at_int (Kd.R_reads' HO_7.out).2.2 (ji24) p114 q114; cases e114; replace p114 := eq_true p114; replace q114 := eq_true q114; have p115 : 0 ≤ (a1 : Int) := of_decide_eq_true (by first | (with_reducible assumption) | assumption); have q115 : a1 < (t102.length : Int) := of_decide_eq_true (by first | (with_reducible assumption) | assumption); obtain ⟨ad115, e115, hx115_0, hx115_1, hx115_2, hx115_3, hx115_4⟩ := at_T41 (Kd.R_reads' HO_0.out).2.2 a1 p115 q115; obtain rfl : ad110 = ad115 := (by injection e115); replace p115 := eq_true p115; replace q115 := eq_true q115; have p116 : 0 ≤ ((ji28) : Int) := of_decide_eq_true (by first | (with_reducible assumption) | assumption); have q116 : (ji28) < (t106.length : Int) := of_decide_eq_true (by first | (with_reducible assumption) | assumption); obtain ⟨ad116, e116, hx116_0⟩ := Kd.at_int (Kd.R_reads' HO_7.out).2.2 (ji28) p116 q116; obtain rfl : ad114 = ad116 := (by injection e116); replace p116 := eq_true p116; replace q116 := eq_true q116; have p117 : 0 ≤ (a1 : Int) := of_decide_eq_true (by first | (with_reducible assumption) | assumption); have q117 : a1 < (t102.length : Int) := of_decide_eq_true (by first | (with_reducible assumption) | assumption); obtain ⟨ad117, e117, hx117_0, hx117_1, hx117_2, hx117_3, hx117_4⟩ := at_T41 (Kd.R_reads' HO_0.out).2.2 a1 p117 q117; obtain rfl : ad110 = ad117 := (by injection e117); replace p117 := eq_true p117; replace q117 := eq_true q117)); try go_wp2_with (first | (go_at_call 22; (with_reducible refine (eid_HalvesD.calls ((rd_T41 t102 a1).f0) ((rd_T41 t102 a1).f1) ((rd_T41 t102 a1).f2) ((rd_T41 t102 a1).f3) ((rd_T41 t102 a1).f4) t111 t112 t113 _ ?side1 A20.out).mono ?_); (case side1 => exact LaidD.below HLD.out (by repeat (first | (with_reducible first | exact HB.out | apply below_alloc | apply pw_below_drewN | apply below_drew1) | exact HB.out))); rintro e w31 ⟨rfl, hb⟩; have n0_ := Aside0.mk (Kd.R_below (by (with_reducible repeat (first | apply Kd.R_alloc | apply Kd.R_drewN | apply Kd.R_drew)); exact HO_0.out) hb); have n1_ := Aside0.mk (Kd.R_below (by (with_reducible repeat (first | apply Kd.R_alloc | apply Kd.R_drewN | apply Kd.R_drew)); exact HO_7.out) hb); have n2_ := Aside0.mk (below_step (by repeat (first | (with_reducible first | exact HB.out | apply below_alloc | apply pw_below_drewN | apply below_drew1) | exact HB.out)) hb); clear HO_0; clear HO_7; clear HB; have HO_0 := n0_; have HO_7 := n1_; have HB := n2_; clear n0_ n1_ n2_; (try clear hb); (try clear hb2); (try clear hk); (try clear hi); obtain ⟨Ao32, co32, eo32⟩ := Kd.R_slice HO_7.out; subst eo32; have p114 : 0 ≤ ((ji24) : Int) := of_decide_eq_true (by first | (with_reducible assumption) | assumption); have q114 : (ji24) < (t106.length : Int) := of_decide_eq_true (by first | (with_reducible assumption) | assumption); obtain ⟨ad114, e114, hx114_0⟩ := Kd.at_int (Kd.R_reads' HO_7.out).2.2 (ji24) p114 q114; cases e114; replace p114 := eq_true p114; replace q114 := eq_true q114; have p115 : 0 ≤ (a1 : Int) := of_decide_eq_true (by first | (with_reducible assumption) | assumption); have q115 : a1 < (t102.length : Int) := of_decide_eq_true (by first | (with_reducible assumption) | assumption); obtain ⟨ad115, e115, hx115_0, hx115_1, hx115_2, hx115_3, hx115_4⟩ := at_T41 (Kd.R_reads' HO_0.out).2.2 a1 p115 q115; obtain rfl : ad110 = ad115 := (by injection e115); replace p115 := eq_true p115; replace q115 := eq_true q115; have p116 : 0 ≤ ((ji28) : Int) := of_decide_eq_true (by first | (with_reducible assumption) | assumption); have q116 : (ji28) < (t106.length : Int) := of_decide_eq_true (by first | (with_reducible assumption) | assumption); obtain ⟨ad116, e116, hx116_0⟩ := Kd.at_int (Kd.R_reads' HO_7.out).2.2 (ji28) p116 q116; obtain rfl : ad114 = ad116 := (by injection e116); replace p116 := eq_true p116; replace q116 := eq_true q116; have p117 : 0 ≤ (a1 : Int) := of_decide_eq_true (by first | (with_reducible assumption) | assumption); have q117 : a1 < (t102.length : Int) := of_decide_eq_true (by first | (with_reducible assumption) | assumption); obtain ⟨ad117, e117, hx117_0, hx117_1, hx117_2, hx117_3, hx117_4⟩ := at_T41 (Kd.R_reads' HO_0.out).2.2 a1 p117 q117; obtain rfl : ad110 = ad117 := (by injection e117); replace p117 := eq_true p117; replace q117 := eq_true q117)))
                            all_goals (first | (go_ret; exact ⟨by first | rfl | (simp [errW_none, errW_some] <;> rfl) | (simp only [← hji24, ← hji28]; first | rfl | (simp [errW_none, errW_some] <;> rfl)) | (simp [*, errW_none, errW_some] <;> rfl) | (simp_all; done), by repeat (first | (with_reducible first | exact HB.out | apply below_alloc | apply pw_below_drewN | apply below_drew1) | exact HB.out)⟩) | (exfalso; simp_all; done))
                          · rw [if_neg c30] at H
                            exact absurd H (by simp)
                        · rw [if_neg c29] at H
                          exact absurd H (by simp)
                      · rw [if_neg c27] at H
                        exact absurd H (by simp)
                    · rw [if_neg c26] at H
                      exact absurd H (by simp)
                  · rw [if_neg c25] at H
                    exact absurd H (by simp)
                · rw [if_neg c23] at H
                  exact absurd H (by simp)
              · replace c22 := Bool.eq_false_iff.mpr c22
                subst c22
                have H1 : (none) = some r := by rw [if_neg (show ¬ (false = true) by decide)] at H; exact H
                clear H
                have H := H1
                clear H1
                exact absurd H (by simp)
            · rw [if_neg c21] at H
              have c21b0 : (t105.toList == ([] : List UInt8)) = false := beq_eq_false_iff_ne.mpr c21
              have c21b1 : (t105.toList != ([] : List UInt8)) = true := bne_iff_ne.mpr c21
              by_cases c33 : t101 = true
              · subst c33
                have H1 : (if t113 = 0 then (if 0 ≤ (wrap64 (2 * a1)) then (if (wrap64 (2 * a1)) < (t106.length : Int) then ((postriderlaw07_stands.f t105 (rd t106 (wrap64 (2 * a1))) t111).bind fun t119 => (if t119 = true then (if 0 ≤ (wrap64 ((wrap64 (2 * a1)) + 1)) then (if (wrap64 ((wrap64 (2 * a1)) + 1)) < (t106.length : Int) then ((postriderlaw07_stands.f t105 (rd t106 (wrap64 ((wrap64 (2 * a1)) + 1))) t112).bind fun t121 => (some t121)) else (none)) else (none)) else (none))) else (none)) else (none)) else (none)) = some r := by rw [if_pos rfl] at H; exact H
                clear H
                have H := H1
                clear H1
                by_cases c34 : t113 = 0
                · rw [if_pos c34] at H
                  have c34b0 : (t113 == 0) = true := beq_iff_eq.mpr c34
                  have c34b1 : (t113 != 0) = false := bne_eq_false_iff_eq.mpr c34
                  clear c34
                  obtain ⟨ji35, hji35⟩ : ∃ j_ : Int, (wrap64 (2 * a1)) = j_ := ⟨_, rfl⟩
                  replace H : (if 0 ≤ (ji35) then (if (ji35) < (t106.length : Int) then ((postriderlaw07_stands.f t105 (rd t106 (ji35)) t111).bind fun t119 => (if t119 = true then (if 0 ≤ (wrap64 ((ji35) + 1)) then (if (wrap64 ((ji35) + 1)) < (t106.length : Int) then ((postriderlaw07_stands.f t105 (rd t106 (wrap64 ((ji35) + 1))) t112).bind fun t121 => (some t121)) else (none)) else (none)) else (none))) else (none)) else (none)) = some r := by first | (rw [hji35] at H; exact H) | (simp only [hji35] at H ⊢; exact H)
                  (try rw [hji35] at A20)
                  have hji35w : (IntKind.i64.wrap (2 * a1)) = ji35 := (i64_w _).trans hji35
                  by_cases c36 : 0 ≤ (ji35)
                  · rw [if_pos c36] at H
                    have c36b0 : decide (0 ≤ (ji35)) = true := decide_eq_true c36
                    clear c36
                    by_cases c37 : (ji35) < (t106.length : Int)
                    · rw [if_pos c37] at H
                      have c37b0 : decide ((ji35) < (t106.length : Int)) = true := decide_eq_true c37
                      clear c37
                      replace H := Option.bind_eq_some_iff.mp H
                      obtain ⟨t119, A380, H⟩ := H
                      replace H : (if t119 = true then (if 0 ≤ (wrap64 ((ji35) + 1)) then (if (wrap64 ((ji35) + 1)) < (t106.length : Int) then ((postriderlaw07_stands.f t105 (rd t106 (wrap64 ((ji35) + 1))) t112).bind fun t121 => (some t121)) else (none)) else (none)) else (none)) = some r := H
                      have A38 := Aside0.mk A380
                      clear A380
                      by_cases c39 : t119 = true
                      · subst c39
                        have H1 : (if 0 ≤ (wrap64 ((ji35) + 1)) then (if (wrap64 ((ji35) + 1)) < (t106.length : Int) then ((postriderlaw07_stands.f t105 (rd t106 (wrap64 ((ji35) + 1))) t112).bind fun t121 => (some t121)) else (none)) else (none)) = some r := by rw [if_pos rfl] at H; exact H
                        clear H
                        have H := H1
                        clear H1
                        obtain ⟨ji40, hji40⟩ : ∃ j_ : Int, (wrap64 ((ji35) + 1)) = j_ := ⟨_, rfl⟩
                        replace H : (if 0 ≤ (ji40) then (if (ji40) < (t106.length : Int) then ((postriderlaw07_stands.f t105 (rd t106 (ji40)) t112).bind fun t121 => (some t121)) else (none)) else (none)) = some r := by first | (rw [hji40] at H; exact H) | (simp only [hji40] at H ⊢; exact H)
                        (try rw [hji40] at A20)
                        (try rw [hji40] at A38)
                        have hji40w : (IntKind.i64.wrap ((ji35) + 1)) = ji40 := (i64_w _).trans hji40
                        by_cases c41 : 0 ≤ (ji40)
                        · rw [if_pos c41] at H
                          have c41b0 : decide (0 ≤ (ji40)) = true := decide_eq_true c41
                          clear c41
                          by_cases c42 : (ji40) < (t106.length : Int)
                          · rw [if_pos c42] at H
                            have c42b0 : decide ((ji40) < (t106.length : Int)) = true := decide_eq_true c42
                            clear c42
                            replace H := Option.bind_eq_some_iff.mp H
                            obtain ⟨t121, A430, H⟩ := H
                            replace H : (some t121) = some r := H
                            have A43 := Aside0.mk A430
                            clear A430
                            obtain rfl := Option.some.inj H
                            have p110 : 0 ≤ (a1 : Int) := of_decide_eq_true (by first | (with_reducible assumption) | assumption)
                            have q110 : a1 < (t102.length : Int) := of_decide_eq_true (by first | (with_reducible assumption) | assumption)
                            obtain ⟨ad110, e110, hx110_0, hx110_1, hx110_2, hx110_3, hx110_4⟩ := at_T41 (Kd.R_reads' HO_0.out).2.2 a1 p110 q110
                            cases e110
                            replace p110 := eq_true p110
                            replace q110 := eq_true q110
                            go_wp2_with (first | (go_at_call 22; (with_reducible refine (eid_HalvesD.calls ((rd_T41 t102 a1).f0) ((rd_T41 t102 a1).f1) ((rd_T41 t102 a1).f2) ((rd_T41 t102 a1).f3) ((rd_T41 t102 a1).f4) t111 t112 t113 _ ?side1 A20.out).mono ?_); (case side1 => exact LaidD.below HLD.out (by repeat (first | (with_reducible first | exact HB.out | apply below_alloc | apply pw_below_drewN | apply below_drew1) | exact HB.out))); rintro e w44 ⟨rfl, hb⟩; have n0_ := Aside0.mk (Kd.R_below (by (with_reducible repeat (first | apply Kd.R_alloc | apply Kd.R_drewN | apply Kd.R_drew)); exact HO_0.out) hb); have n1_ := Aside0.mk (Kd.R_below (by (with_reducible repeat (first | apply Kd.R_alloc | apply Kd.R_drewN | apply Kd.R_drew)); exact HO_7.out) hb); have n2_ := Aside0.mk (below_step (by repeat (first | (with_reducible first | exact HB.out | apply below_alloc | apply pw_below_drewN | apply below_drew1) | exact HB.out)) hb); clear HO_0; clear HO_7; clear HB; have HO_0 := n0_; have HO_7 := n1_; have HB := n2_; clear n0_ n1_ n2_; (try clear hb); (try clear hb2); (try clear hk); (try clear hi); obtain ⟨Ao45, co45, eo45⟩ := Kd.R_slice HO_7.out; subst eo45; have p118 : 0 ≤ ((ji35) : Int) := of_decide_eq_true (by first | (with_reducible assumption) | assumption); have q118 : (ji35) < (t106.length : Int) := of_decide_eq_true (by first | (with_reducible assumption) | assumption); obtain ⟨ad118, e118, hx118_0⟩ := Kd.at_int (Kd.R_reads' HO_7.out).2.2 (ji35) p118 q118; cases e118; replace p118 := eq_true p118; replace q118 := eq_true q118) | (go_at_call 23; (with_reducible refine (postriderlaw07_stands.calls t105 (rd t106 (ji35)) t111 true _ A38.out).mono ?_); rintro e w' ⟨rfl, ⟨nd, rfl⟩⟩; (try first | exact ⟨rfl, _, World.drewN_drewN _ _ _⟩ | exact ⟨rfl, _, Eq.trans (World.drewN_drewN _ _ _) (congrArg (World.drewN _) (Nat.add_assoc _ _ _))⟩); have p120 : 0 ≤ ((ji40) : Int) := of_decide_eq_true (by first | (with_reducible assumption) | assumption); have q120 : (ji40) < (t106.length : Int) := of_decide_eq_true (by first | (with_reducible assumption) | assumption); obtain ⟨ad120, e120, hx120_0⟩ := Kd.at_int (Kd.R_reads' HO_7.out).2.2 (ji40) p120 q120; obtain rfl : ad118 = ad120 := (by injection e120); replace p120 := eq_true p120; replace q120 := eq_true q120) | (go_at_call 23; (with_reducible refine (postriderlaw07_stands.calls t105 (rd t106 (ji40)) t112 t121 _ A43.out).mono ?_); rintro e w' ⟨rfl, ⟨nd, rfl⟩⟩; (try first | exact ⟨rfl, _, World.drewN_drewN _ _ _⟩ | exact ⟨rfl, _, Eq.trans (World.drewN_drewN _ _ _) (congrArg (World.drewN _) (Nat.add_assoc _ _ _))⟩)))
                            repeat (go_quiet (first | (go_at_call 22; (with_reducible refine (eid_HalvesD.calls ((rd_T41 t102 a1).f0) ((rd_T41 t102 a1).f1) ((rd_T41 t102 a1).f2) ((rd_T41 t102 a1).f3) ((rd_T41 t102 a1).f4) t111 t112 t113 _ ?side1 A20.out).mono ?_); (case side1 => exact LaidD.below HLD.out (by repeat (first | (with_reducible first | exact HB.out | apply below_alloc | apply pw_below_drewN | apply below_drew1) | exact HB.out))); rintro e w44 ⟨rfl, hb⟩; have n0_ := Aside0.mk (Kd.R_below (by (with_reducible repeat (first | apply Kd.R_alloc | apply Kd.R_drewN | apply Kd.R_drew)); exact HO_0.out) hb); have n1_ := Aside0.mk (Kd.R_below (by (with_reducible repeat (first | apply Kd.R_alloc | apply Kd.R_drewN | apply Kd.R_drew)); exact HO_7.out) hb); have n2_ := Aside0.mk (below_step (by repeat (first | (with_reducible first | exact HB.out | apply below_alloc | apply pw_below_drewN | apply below_drew1) | exact HB.out)) hb); clear HO_0; clear HO_7; clear HB; have HO_0 := n0_; have HO_7 := n1_; have HB := n2_; clear n0_ n1_ n2_; (try clear hb); (try clear hb2); (try clear hk); (try clear hi); obtain ⟨Ao45, co45, eo45⟩ := Kd.R_slice HO_7.out; subst eo45; have p118 : 0 ≤ ((ji35) : Int) := of_decide_eq_true (by first | (with_reducible assumption) | assumption); have q118 : (ji35) < (t106.length : Int) := of_decide_eq_true (by first | (with_reducible assumption) | assumption); obtain ⟨ad118, e118, hx118_0⟩ := Kd.at_int (Kd.R_reads' HO_7.out).2.2 (ji35) p118 q118; cases e118; replace p118 := eq_true p118; replace q118 := eq_true q118) | (go_at_call 23; (with_reducible refine (postriderlaw07_stands.calls t105 (rd t106 (ji35)) t111 true _ A38.out).mono ?_); rintro e w' ⟨rfl, ⟨nd, rfl⟩⟩; (try first | exact ⟨rfl, _, World.drewN_drewN _ _ _⟩ | exact ⟨rfl, _, Eq.trans (World.drewN_drewN _ _ _) (congrArg (World.drewN _) (Nat.add_assoc _ _ _))⟩); have p120 : 0 ≤ ((ji40) : Int) := of_decide_eq_true (by first | (with_reducible assumption) | assumption); have q120 : (ji40) < (t106.length : Int) := of_decide_eq_true (by first | (with_reducible assumption) | assumption); obtain ⟨ad120, e120, hx120_0⟩ := Kd.at_int (Kd.R_reads' HO_7.out).2.2 (ji40) p120 q120; obtain rfl : ad118 = ad120 := (by injection e120); replace p120 := eq_true p120; replace q120 := eq_true q120) | (go_at_call 23; (with_reducible refine (postriderlaw07_stands.calls t105 (rd t106 (ji40)) t112 t121 _ A43.out).mono ?_); rintro e w' ⟨rfl, ⟨nd, rfl⟩⟩; (try first | exact ⟨rfl, _, World.drewN_drewN _ _ _⟩ | exact ⟨rfl, _, Eq.trans (World.drewN_drewN _ _ _) (congrArg (World.drewN _) (Nat.add_assoc _ _ _))⟩))); try go_wp2_with (first | (go_at_call 22; (with_reducible refine (eid_HalvesD.calls ((rd_T41 t102 a1).f0) ((rd_T41 t102 a1).f1) ((rd_T41 t102 a1).f2) ((rd_T41 t102 a1).f3) ((rd_T41 t102 a1).f4) t111 t112 t113 _ ?side1 A20.out).mono ?_); (case side1 => exact LaidD.below HLD.out (by repeat (first | (with_reducible first | exact HB.out | apply below_alloc | apply pw_below_drewN | apply below_drew1) | exact HB.out))); rintro e w44 ⟨rfl, hb⟩; have n0_ := Aside0.mk (Kd.R_below (by (with_reducible repeat (first | apply Kd.R_alloc | apply Kd.R_drewN | apply Kd.R_drew)); exact HO_0.out) hb); have n1_ := Aside0.mk (Kd.R_below (by (with_reducible repeat (first | apply Kd.R_alloc | apply Kd.R_drewN | apply Kd.R_drew)); exact HO_7.out) hb); have n2_ := Aside0.mk (below_step (by repeat (first | (with_reducible first | exact HB.out | apply below_alloc | apply pw_below_drewN | apply below_drew1) | exact HB.out)) hb); clear HO_0; clear HO_7; clear HB; have HO_0 := n0_; have HO_7 := n1_; have HB := n2_; clear n0_ n1_ n2_; (try clear hb); (try clear hb2); (try clear hk); (try clear hi); obtain ⟨Ao45, co45, eo45⟩ := Kd.R_slice HO_7.out; subst eo45; have p118 : 0 ≤ ((ji35) : Int) := of_decide_eq_true (by first | (with_reducible assumption) | assumption); have q118 : (ji35) < (t106.length : Int) := of_decide_eq_true (by first | (with_reducible assumption) | assumption); obtain ⟨ad118, e118, hx118_0⟩ := Kd.at_int (Kd.R_reads' HO_7.out).2.2 (ji35) p118 q118; cases e118; replace p118 := eq_true p118; replace q118 := eq_true q118) | (go_at_call 23; (with_reducible refine (postriderlaw07_stands.calls t105 (rd t106 (ji35)) t111 true _ A38.out).mono ?_); rintro e w' ⟨rfl, ⟨nd, rfl⟩⟩; (try first | exact ⟨rfl, _, World.drewN_drewN _ _ _⟩ | exact ⟨rfl, _, Eq.trans (World.drewN_drewN _ _ _) (congrArg (World.drewN _) (Nat.add_assoc _ _ _))⟩); have p120 : 0 ≤ ((ji40) : Int) := of_decide_eq_true (by first | (with_reducible assumption) | assumption); have q120 : (ji40) < (t106.length : Int) := of_decide_eq_true (by first | (with_reducible assumption) | assumption); obtain ⟨ad120, e120, hx120_0⟩ := Kd.at_int (Kd.R_reads' HO_7.out).2.2 (ji40) p120 q120; obtain rfl : ad118 = ad120 := (by injection e120); replace p120 := eq_true p120; replace q120 := eq_true q120) | (go_at_call 23; (with_reducible refine (postriderlaw07_stands.calls t105 (rd t106 (ji40)) t112 t121 _ A43.out).mono ?_); rintro e w' ⟨rfl, ⟨nd, rfl⟩⟩; (try first | exact ⟨rfl, _, World.drewN_drewN _ _ _⟩ | exact ⟨rfl, _, Eq.trans (World.drewN_drewN _ _ _) (congrArg (World.drewN _) (Nat.add_assoc _ _ _))⟩))))
                            all_goals (first | (go_ret; exact ⟨by first | rfl | (simp [errW_none, errW_some] <;> rfl) | (simp only [← hji35, ← hji40]; first | rfl | (simp [errW_none, errW_some] <;> rfl)) | (simp [*, errW_none, errW_some] <;> rfl) | (simp_all; done), by repeat (first | (with_reducible first | exact HB.out | apply below_alloc | apply pw_below_drewN | apply below_drew1) | exact HB.out)⟩) | (exfalso; simp_all; done))
                          · rw [if_neg c42] at H
                            exact absurd H (by simp)
                        · rw [if_neg c41] at H
                          exact absurd H (by simp)
                      · replace c39 := Bool.eq_false_iff.mpr c39
                        subst c39
                        have H1 : (none) = some r := by rw [if_neg (show ¬ (false = true) by decide)] at H; exact H
                        clear H
                        have H := H1
                        clear H1
                        exact absurd H (by simp)
                    · rw [if_neg c37] at H
                      exact absurd H (by simp)
                  · rw [if_neg c36] at H
                    exact absurd H (by simp)
                · rw [if_neg c34] at H
                  exact absurd H (by simp)
              · replace c33 := Bool.eq_false_iff.mpr c33
                subst c33
                have H1 : (none) = some r := by rw [if_neg (show ¬ (false = true) by decide)] at H; exact H
                clear H
                have H := H1
                clear H1
                exact absurd H (by simp)
          · rw [if_neg c19] at H
            exact absurd H (by simp)
        · rw [if_neg c18] at H
          exact absurd H (by simp)
end Go.Proofs.YtbjbicaffblchaaGreatDoor.SLDictPlaces
end
section
namespace Go.Proofs.YtbjbicaffblchaaGreatDoor.Hand
open Go.RowKit Go.Proofs.YtbjbicaffblchaaGreatDoorW Go.Proofs.YtbjbicaffblchaaGreatDoorW.PrintWords Go.Proofs.YtbjbicaffblchaaGreatDoor.SK Go.Proofs.YtbjbicaffblchaaGreatDoor.SS Go.Proofs.YtbjbicaffblchaaGreatDoor.SLDictPlaces
theorem bt_at {s : ByteArray} {i : Nat} {c : UInt8} (h : s.data.toList[i]? = some c) : bt s (i : Int) = (c.toNat : Int) := by
  have hl : i < s.data.toList.length := by
    rcases Nat.lt_or_ge i s.data.toList.length with h1 | h1
    · exact h1
    · rw [List.getElem?_eq_none h1] at h; cases h
  have hl2 : s.data.toList.length = s.size := Array.length_toList ..
  have hi : ((i : Int)).toNat < s.size := by rw [Int.toNat_natCast]; omega
  unfold bt
  rw [dif_pos hi]
  rw [List.getElem?_eq_getElem hl] at h
  have h3 := Option.some.inj h
  rw [← h3]
  congr 2
theorem stands_of (s : ByteArray) (p t q : List UInt8) (hs : s.size ≤ 1000000) (h : s.data.toList = p ++ (t ++ 0 :: q)) (hp : p = [] ∨ p.getLast? = some 0) :
    postriderlaw07_stands.f s (p.length : Int) (txt t) = some true := by
  have hl : s.data.toList.length = s.size := Array.length_toList ..
  have hlen : p.length + (t.length + (1 + q.length)) = s.size := by
    rw [← hl, h]
    simp
    omega
  have ht : (txt t).size = t.length := txt_size t
  have hw : wrap64 ((p.length : Int) + ((txt t).size : Int)) = ((p.length + t.length : Nat) : Int) := by
    rw [ht]
    unfold wrap64
    omega
  have hz : bt s ((p.length + t.length : Nat) : Int) = 0 := by
    rw [bt_at (c := 0)]
    · rfl
    · rw [h, ← List.append_assoc, List.getElem?_append_right (by simp)]
      simp
  have hx : (s.extract ((p.length : Int)).toNat (((p.length + t.length : Nat) : Int)).toNat).toList = (txt t).toList := by
    rw [Int.toNat_natCast, Int.toNat_natCast, ByteArray.toList_eq, ByteArray.toList_eq, ByteArray.data_extract, Array.toList_extract, h, List.extract_eq_take_drop, List.drop_append, txt_list]
    simp
  unfold postriderlaw07_stands.f
  rw [hw, if_neg (by omega), if_neg (by omega)]
  have tail : (if 0 ≤ (p.length : Int) then (if (p.length : Int) ≤ ((p.length + t.length : Nat) : Int) then (if ((p.length + t.length : Nat) : Int) ≤ (s.size : Int) then (if (s.extract ((p.length : Int)).toNat (((p.length + t.length : Nat) : Int)).toNat).toList = (txt t).toList then (if 0 ≤ ((p.length + t.length : Nat) : Int) then (if ((p.length + t.length : Nat) : Int) < (s.size : Int) then (some ((bt s ((p.length + t.length : Nat) : Int)) == 0)) else (none)) else (none)) else (some false)) else (none)) else (none)) else (none)) = some true := by
    rw [if_pos (by omega), if_pos (by omega), if_pos (by omega), if_pos hx, if_pos (by omega), if_pos (by omega), hz]
    rfl
  rcases hp with rfl | hp
  · rw [if_neg (by simp)]
    exact tail
  · have hpne : p ≠ [] := fun e => by rw [e] at hp; cases hp
    have hp1 : 1 ≤ p.length := List.length_pos_iff.2 hpne
    have hw1 : wrap64 ((p.length : Int) - 1) = ((p.length - 1 : Nat) : Int) := by unfold wrap64; omega
    have hb : bt s ((p.length - 1 : Nat) : Int) = 0 := by
      rw [bt_at (c := 0)]
      · rfl
      · rw [List.getLast?_eq_getElem?] at hp
        rw [h, List.getElem?_append_left (by omega), hp]
    rw [if_pos (by omega), hw1, if_pos (by omega), if_pos (by omega), if_pos hb]
    exact tail
theorem pair_at {α : Type} (f g : α → Int) : ∀ (l : List α) (i : Nat) (x : α), l[i]? = some x → rd (l.flatMap fun x => [f x, g x]) ((2 * i : Nat) : Int) = f x ∧ rd (l.flatMap fun x => [f x, g x]) ((2 * i + 1 : Nat) : Int) = g x
  | [], i, x, h => by simp at h
  | y :: l, 0, x, h => by
    simp at h
    subst h
    exact ⟨rfl, rfl⟩
  | y :: l, i + 1, x, h => by
    have := pair_at f g l i x (by simpa using h)
    unfold rd at this ⊢
    rw [Int.toNat_natCast] at this ⊢
    rw [Int.toNat_natCast] at this ⊢
    rw [show 2 * (i + 1) = (2 * i) + 2 by omega]
    exact this
theorem dictPlaces_true (l0 : List Nm) (a : Int) : postriderlaw07_DictPlaces.f 2000 l0 a = some true := by
  obtain ⟨l, hl, hl1, hl2⟩ := few_is l0 2000 (by decide)
  unfold postriderlaw07_DictPlaces.f
  rw [shown_true 2000 (by decide), hl]
  simp only [Option.bind_some]
  rw [Build_is hl2]
  simp only [Option.bind_some]
  obtain ⟨s, p, e, hb⟩ : ∃ s p e, buildT l = (s, p, e) := ⟨_, _, _, rfl⟩
  rw [hb]
  have bad : ∀ k : Nat, (e = 0 ∨ s = ⟨#[]⟩) → postriderlaw07_DictPlaces.j0 (k + 1) l a true s p e true = some true := by
    intro k h
    simp only [postriderlaw07_DictPlaces.j0, if_true]
    by_cases he : e = 0
    · rw [if_pos he]
    · rw [if_neg he]
      rcases h with h | rfl
      · exact absurd h he
      · simp [ByteArray.toList_eq]
  rcases built_of hb with ⟨rfl, hB⟩ | ⟨he, rfl, rfl⟩
  · simp only [if_true]
    by_cases h0 : a < 0
    · rw [if_pos h0]
      exact bad 1999 (.inl rfl)
    rw [if_neg h0]
    by_cases h1 : a ≥ (l.length : Int)
    · rw [if_pos h1]
      exact bad 1999 (.inl rfl)
    rw [if_neg h1]
    have hpl := hB.small.2
    have hss := hB.small.1
    have hm := hB.many
    have hne : ((p.length : Int) != wrap64 (2 * (l.length : Int))) = false := by
      have : wrap64 (2 * (l.length : Int)) = 2 * (l.length : Int) := by unfold wrap64; omega
      rw [this, hpl]
      simp
    rw [hne]
    obtain ⟨i, rfl⟩ : ∃ i : Nat, a = (i : Int) := ⟨a.toNat, by omega⟩
    have hi : i < l.length := by omega
    obtain ⟨x, hx⟩ : ∃ x, l[i]? = some x := ⟨_, List.getElem?_eq_getElem hi⟩
    have hrd : rd_T41 l (i : Int) = x := by
      unfold rd_T41
      rw [Int.toNat_natCast, List.getD_eq_getElem?_getD, hx]
      rfl
    have hxm := List.mem_of_getElem? hx
    have hxr := hB.right x hxm
    have hxs := hl2 x hxm
    have hH : eid_HalvesD.f x.f0 x.f1 x.f2 x.f3 x.f4 = some (Nm.word x, Nm.rest x, 0) := by
      unfold eid_HalvesD.f
      rw [Halves_is _ _ _ _ _ (Nat.le_trans hxs.1 (by decide)) (Nat.le_trans hxs.2 (by decide)), Nm.halves hxr]
    have hw1 : wrap64 (2 * (i : Int)) = ((2 * i : Nat) : Int) := by unfold wrap64; omega
    have hw2 : wrap64 (((2 * i : Nat) : Int) + 1) = ((2 * i + 1 : Nat) : Int) := by unfold wrap64; omega
    have key : ∀ k : Nat, postriderlaw07_DictPlaces.j0 (k + 1) l (i : Int) true s p 0 false = some true := by
      intro k
      simp only [postriderlaw07_DictPlaces.j0, Bool.false_eq_true, if_false, if_true]
      rw [if_pos (by omega), if_pos (by omega), hrd, hH]
      simp only [Option.bind_some, if_true]
      rw [hw1, hw2]
      cases hd : l.any Nm.dtn with
      | false =>
        obtain ⟨rfl, rfl⟩ := hB.plain hd
        obtain ⟨p1, p2⟩ := pair_at (fun x : Nm => x.f3) (fun x => x.f4) l i x hx
        rw [if_pos (by rw [ByteArray.toList_eq]), if_pos (by omega), if_pos (by omega), p1, if_pos rfl, if_pos (by omega), if_pos (by omega), p2]
        simp
      | true =>
        obtain ⟨q1, q2, q3⟩ := hB.full hd
        obtain ⟨p1, p2⟩ := pair_at (fun x : Nm => ((placeL (builtS l).1 x.w : Nat) : Int)) (fun x => ((placeL (builtS l).1 x.r : Nat) : Int)) l i x hx
        rw [← q1] at p1 p2
        have st : ∀ t, t ∈ (builtS l).1 → postriderlaw07_stands.f s ((placeL (builtS l).1 t : Nat) : Int) (txt t) = some true := fun t ht => by
          obtain ⟨u, v, h1, h2, h3⟩ := place_split _ t ht
          rw [← h2]
          exact stands_of s u t v (by omega) (hB.bytes.trans h1) h3
        have s1 := st _ (q2 x hxm).1
        have s2 := st _ (q2 x hxm).2
        rw [txt_data] at s1 s2
        rw [if_neg q3, if_pos (by omega), if_pos (by omega), p1, s1]
        simp only [Option.bind_some, if_true]
        rw [if_pos (by omega), if_pos (by omega), p2, s2]
        rfl
    exact key 1999
  · simp only [if_neg he]
    exact bad 1999 (.inr rfl)
end Go.Proofs.YtbjbicaffblchaaGreatDoor.Hand
end

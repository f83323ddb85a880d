import Derived.Test.YtbjbicaffblchaaGreatDoorZDictTexts3
import Derived.ArgAppend
import Derived.Below
import Derived.BigQuiet
import Derived.Deep.AppendLies
import Derived.Deep.CutBlock
import Derived.Deep.DeepCutAuto
import Derived.Deep.Draws
import Derived.Deep.LoopGhost
import Derived.Deep.OwnRows
import Derived.Deep.QuietTactic
import Derived.Deep.RegionHeld3
import Derived.KernelRfl
import Derived.Laws.BitsLemmas
import Derived.Laws.BytesArg
import Derived.Laws.IdiomCopy
import Derived.Laws.MakeOwn
import Derived.Laws.OwnMore
import Derived.Laws.Rows
import Derived.Laws.Slices
import Derived.Lib.AppendStr
import Derived.Lib.ConvBytes
import Derived.Maps.AppendAt
import Derived.OrdersHeld
import Derived.OwnWalk
import Derived.RowKit
import Derived.RowKit3
import Derived.Tactics
import Derived.Test.YtbjbicaffblchaaGreatDoorProg
import Derived.WalkKit
import Derived.WideLaws
section
namespace Go.Proofs.YtbjbicaffblchaaGreatDoor.Hand
open Go.RowKit Go.Proofs.YtbjbicaffblchaaGreatDoorW Go.Proofs.YtbjbicaffblchaaGreatDoorW.PrintWords Go.Proofs.YtbjbicaffblchaaGreatDoor.SK Go.Proofs.YtbjbicaffblchaaGreatDoor.SA
theorem drop_eq_iff {α : Type} (d : α) {x y : List α} {i : Nat} (hx : i < x.length) (hy : i < y.length) : (x.drop i = y.drop i) ↔ (x.getD i d = y.getD i d ∧ x.drop (i + 1) = y.drop (i + 1)) := by
  rw [List.drop_eq_getElem_cons hx, List.drop_eq_getElem_cons hy, List.cons.injEq]
  simp [List.getD_eq_getElem?_getD, hx, hy]
theorem wrap_up (i : Nat) (h : i ≤ 1000000000) : wrap64 ((i : Int) + 1) = ((i + 1 : Nat) : Int) := by unfold wrap64; omega
section
variable {x y : List Int}
theorem ints_from (hl : x.length = y.length) (hb : x.length ≤ 1000000) : ∀ (d k i : Nat), x.length - i = d → i ≤ x.length → d < k → postriderref02_Ints.l0 k x y (i : Int) = some (decide (x.drop i = y.drop i)) := by
  intro d
  induction d with
  | zero =>
    intro k i hd hi hk
    obtain ⟨k, rfl⟩ : ∃ m, k = m + 1 := ⟨k - 1, by omega⟩
    simp only [postriderref02_Ints.l0]
    rw [if_neg (by omega), List.drop_eq_nil_of_le (by omega), List.drop_eq_nil_of_le (by omega)]
    simp
  | succ d ih =>
    intro k i hd hi hk
    obtain ⟨k, rfl⟩ : ∃ m, k = m + 1 := ⟨k - 1, by omega⟩
    simp only [postriderref02_Ints.l0]
    rw [if_pos (by omega), if_pos (by omega), if_pos (by omega), wrap_up i (by omega), ih k (i + 1) (by omega) (by omega) (by omega)]
    have h := drop_eq_iff (0 : Int) (x := x) (y := y) (i := i) (by omega) (by omega)
    unfold rd
    rw [Int.toNat_natCast]
    by_cases e : x.getD i 0 = y.getD i 0
    · rw [if_pos e]
      congr 1
      rw [decide_eq_decide, h]
      exact ⟨fun q => ⟨e, q⟩, fun q => q.2⟩
    · rw [if_neg e]
      congr 1
      rw [eq_comm, decide_eq_false_iff_not, h]
      exact fun q => e q.1
theorem ints_is (x y : List Int) (k : Nat) (hb : x.length ≤ 1000000) (hk : x.length < k) : postriderref02_Ints.f k x y = some (decide (x = y)) := by
  unfold postriderref02_Ints.f
  by_cases hl : x.length = y.length
  · rw [if_pos (by omega)]
    have := ints_from hl hb x.length k 0 (by omega) (by omega) hk
    simpa using this
  · rw [if_neg (by omega)]
    congr 1
    rw [eq_comm, decide_eq_false_iff_not]
    exact fun e => hl (by rw [e])
theorem eq_from (hl : x.length = y.length) (hb : x.length ≤ 1000000) : ∀ (d k i : Nat), x.length - i = d → i ≤ x.length → d < k → slices_Equal_int_int.l0 k x y (x.length : Int) (i : Int) = some (decide (x.drop i = y.drop i)) := by
  intro d
  induction d with
  | zero =>
    intro k i hd hi hk
    obtain ⟨k, rfl⟩ : ∃ m, k = m + 1 := ⟨k - 1, by omega⟩
    simp only [slices_Equal_int_int.l0]
    rw [if_neg (by omega), List.drop_eq_nil_of_le (by omega), List.drop_eq_nil_of_le (by omega)]
    simp
  | succ d ih =>
    intro k i hd hi hk
    obtain ⟨k, rfl⟩ : ∃ m, k = m + 1 := ⟨k - 1, by omega⟩
    simp only [slices_Equal_int_int.l0]
    have h := drop_eq_iff (0 : Int) (x := x) (y := y) (i := i) (by omega) (by omega)
    rw [if_pos (by omega), if_pos (by omega), if_pos (by omega), if_pos (by omega), wrap_up i (by omega), ih k (i + 1) (by omega) (by omega) (by omega)]
    unfold rd
    rw [Int.toNat_natCast]
    by_cases e : x.getD i 0 = y.getD i 0
    · rw [if_pos e]
      congr 1
      rw [decide_eq_decide, h]
      exact ⟨fun q => ⟨e, q⟩, fun q => q.2⟩
    · rw [if_neg e]
      congr 1
      rw [eq_comm, decide_eq_false_iff_not, h]
      exact fun q => e q.1
theorem equal_is (x y : List Int) (k : Nat) (hb : x.length ≤ 1000000) (hk : x.length < k) : slices_Equal_int_int.f k x y = some (decide (x = y)) := by
  unfold slices_Equal_int_int.f
  by_cases hl : x.length = y.length
  · rw [if_pos (by omega)]
    have := eq_from hl hb x.length k 0 (by omega) (by omega) hk
    simpa using this
  · rw [if_neg (by omega)]
    congr 1
    rw [eq_comm, decide_eq_false_iff_not]
    exact fun e => hl (by rw [e])
end
theorem ba_iff {a b : ByteArray} : a.toList = b.toList ↔ a = b := ⟨ba_ext, fun h => by rw [h]⟩
theorem texts_from {x y : List ByteArray} (hl : x.length = y.length) (hb : x.length ≤ 1000000) : ∀ (d k i : Nat), x.length - i = d → i ≤ x.length → d < k → postriderref07_SameTexts.l0 k x y (i : Int) = some (decide (x.drop i = y.drop i)) := by
  intro d
  induction d with
  | zero =>
    intro k i hd hi hk
    obtain ⟨k, rfl⟩ : ∃ m, k = m + 1 := ⟨k - 1, by omega⟩
    simp only [postriderref07_SameTexts.l0]
    rw [if_neg (by omega), List.drop_eq_nil_of_le (by omega), List.drop_eq_nil_of_le (by omega)]
    simp
  | succ d ih =>
    intro k i hd hi hk
    obtain ⟨k, rfl⟩ : ∃ m, k = m + 1 := ⟨k - 1, by omega⟩
    simp only [postriderref07_SameTexts.l0]
    rw [if_pos (by omega), if_pos (by omega), if_pos (by omega), wrap_up i (by omega), ih k (i + 1) (by omega) (by omega) (by omega)]
    have h := drop_eq_iff ByteArray.empty (x := x) (y := y) (i := i) (by omega) (by omega)
    unfold rdOf
    rw [Int.toNat_natCast]
    by_cases e : x.getD i ByteArray.empty = y.getD i ByteArray.empty
    · rw [if_pos (by rw [e])]
      congr 1
      rw [decide_eq_decide, h]
      exact ⟨fun q => ⟨e, q⟩, fun q => q.2⟩
    · rw [if_neg (fun q => e (ba_ext q))]
      congr 1
      rw [eq_comm, decide_eq_false_iff_not, h]
      exact fun q => e q.1
theorem sameTexts_is (x y : List ByteArray) (k : Nat) (hb : x.length ≤ 1000000) (hk : x.length < k) : postriderref07_SameTexts.f k x y = some (decide (x = y)) := by
  unfold postriderref07_SameTexts.f
  by_cases hl : x.length = y.length
  · rw [if_pos (by omega)]
    have := texts_from hl hb x.length k 0 (by omega) (by omega) hk
    simpa using this
  · rw [if_neg (by omega)]
    congr 1
    rw [eq_comm, decide_eq_false_iff_not]
    exact fun e => hl (by rw [e])
theorem nm_eq {a b : S41} : a = b ↔ a.f0 = b.f0 ∧ a.f1.toList = b.f1.toList ∧ a.f2.toList = b.f2.toList ∧ a.f3 = b.f3 ∧ a.f4 = b.f4 := by
  obtain ⟨a0, a1, a2, a3, a4⟩ := a
  obtain ⟨b0, b1, b2, b3, b4⟩ := b
  simp only [S41.mk.injEq, ba_iff]
instance : DecidableEq S41 := fun a b => decidable_of_iff _ nm_eq.symm
theorem same_from {x y : List S41} (hl : x.length = y.length) (hb : x.length ≤ 1000000) : ∀ (d k i : Nat), x.length - i = d → i ≤ x.length → d < k → postriderref06_Same.l0 k x y (i : Int) = some (decide (x.drop i = y.drop i)) := by
  intro d
  induction d with
  | zero =>
    intro k i hd hi hk
    obtain ⟨k, rfl⟩ : ∃ m, k = m + 1 := ⟨k - 1, by omega⟩
    simp only [postriderref06_Same.l0]
    rw [if_neg (by omega), List.drop_eq_nil_of_le (by omega), List.drop_eq_nil_of_le (by omega)]
    simp
  | succ d ih =>
    intro k i hd hi hk
    obtain ⟨k, rfl⟩ : ∃ m, k = m + 1 := ⟨k - 1, by omega⟩
    simp only [postriderref06_Same.l0]
    rw [if_pos (by omega), if_pos (by omega), if_pos (by omega), wrap_up i (by omega), ih k (i + 1) (by omega) (by omega) (by omega)]
    have h := drop_eq_iff z41 (x := x) (y := y) (i := i) (by omega) (by omega)
    unfold rd_T41
    rw [Int.toNat_natCast]
    generalize x.getD i z41 = a at *
    generalize y.getD i z41 = b at *
    by_cases e : a = b
    · subst e
      rw [if_neg (by simp)]
      congr 1
      rw [decide_eq_decide, h]
      simp
    · rw [if_pos ?_]
      · congr 1
        rw [eq_comm, decide_eq_false_iff_not, h]
        exact fun q => e q.1
      · rw [nm_eq] at e
        rw [← Bool.not_eq_false]
        intro q
        simp only [Bool.or_eq_false_iff, Bool.not_eq_false', beq_iff_eq] at q
        exact e ⟨q.1, q.2.1, q.2.2.1, q.2.2.2.1, q.2.2.2.2⟩
theorem same_is (x y : List S41) (k : Nat) (hb : x.length ≤ 1000000) (hk : x.length < k) : postriderref06_Same.f k x y = some (decide (x = y)) := by
  unfold postriderref06_Same.f
  by_cases hl : x.length = y.length
  · rw [if_pos (by omega)]
    have := same_from hl hb x.length k 0 (by omega) (by omega) hk
    simpa using this
  · rw [if_neg (by omega)]
    congr 1
    rw [eq_comm, decide_eq_false_iff_not]
    exact fun e => hl (by rw [e])
theorem few_from (x : List S41) : ∀ (d k i : Nat) (acc : List S41), 32 - i = d → d < k → i ≤ 32 → acc.length = i → (∀ z ∈ acc, z.f1.size ≤ 21 ∧ z.f2.size ≤ 21) →
    ∃ l, postriderlaw07_Few.l0 k x acc (i : Int) = some l ∧ l.length ≤ 32 ∧ ∀ z ∈ l, z.f1.size ≤ 21 ∧ z.f2.size ≤ 21 := by
  intro d
  induction d with
  | zero =>
    intro k i acc hd hk hi hl ha
    obtain ⟨k, rfl⟩ : ∃ m, k = m + 1 := ⟨k - 1, by omega⟩
    refine ⟨acc, ?_, by omega, ha⟩
    simp only [postriderlaw07_Few.l0]
    by_cases h : (i : Int) < (x.length : Int)
    · rw [if_pos h, if_neg (by omega)]
    · rw [if_neg h]
  | succ d ih =>
    intro k i acc hd hk hi hl ha
    obtain ⟨k, rfl⟩ : ∃ m, k = m + 1 := ⟨k - 1, by omega⟩
    simp only [postriderlaw07_Few.l0]
    by_cases h : (i : Int) < (x.length : Int)
    · obtain ⟨b1, b2, hc, s1, s2⟩ := Cut_is (rd_T41 x (i : Int)).f0 (rd_T41 x (i : Int)).f1 (rd_T41 x (i : Int)).f2 (rd_T41 x (i : Int)).f3 (rd_T41 x (i : Int)).f4
      rw [if_pos h, if_pos (by omega), if_pos (by omega), hc]
      simp only [Option.bind_some]
      rw [if_pos (by omega), wrap_up i (by omega)]
      refine ih k (i + 1) _ (by omega) (by omega) (by omega) (by simp [hl]) (fun z hz => ?_)
      rcases List.mem_append.1 hz with hz | hz
      · exact ha z hz
      · rw [List.mem_singleton.1 hz]; exact ⟨s1, s2⟩
    · refine ⟨acc, ?_, by omega, ha⟩
      rw [if_neg h]
theorem few_is (x : List S41) (k : Nat) (hk : 32 < k) : ∃ l, postriderlaw07_Few.f k x = some l ∧ l.length ≤ 32 ∧ ∀ z ∈ l, z.f1.size ≤ 21 ∧ z.f2.size ≤ 21 := by
  unfold postriderlaw07_Few.f
  exact few_from x 32 k 0 [] (by omega) hk (by omega) rfl (fun z hz => by cases hz)
theorem cut7_is (a : ByteArray) : ∃ b : ByteArray, postriderlaw07_cut.f a = some b ∧ b.size ≤ 900 := by
  obtain ⟨h1, h2, h3⟩ := mn_len a.size 900 (by decide)
  unfold postriderlaw07_cut.f
  rw [if_pos h1, if_pos h2]
  refine ⟨_, rfl, ?_⟩
  rw [ByteArray.size_extract]; omega
theorem few7_is (l : List Int) : ∃ r : List Int, postriderlaw07_few.f l = some r ∧ r.length ≤ 63 := by
  obtain ⟨h1, h2, h3⟩ := mn_len l.length 63 (by decide)
  unfold postriderlaw07_few.f
  rw [if_pos h1, if_pos h2]
  refine ⟨_, rfl, ?_⟩
  rw [List.length_take]; omega
end Go.Proofs.YtbjbicaffblchaaGreatDoor.Hand
end
section
namespace Go.Proofs.YtbjbicaffblchaaGreatDoor.Hand
open Go.RowKit Go.Proofs.YtbjbicaffblchaaGreatDoorW Go.Proofs.YtbjbicaffblchaaGreatDoorW.PrintWords Go.Proofs.YtbjbicaffblchaaGreatDoor.SK
def namesT (s : ByteArray) : List Int → Option (List Nm)
  | a :: b :: r => if (nameT s a b).2 = true then (namesT s r).map ((nameT s a b).1 :: ·) else none
  | _ => some []
def readT (s : ByteArray) (pairs : List Int) : List Nm × Int :=
  if pairs.length % 2 = 0 ∧ pairs.length ≤ 60 then
    match namesT s pairs with
    | none => ([], 70)
    | some l => if buildT l = (s, pairs, 0) then (l, 0) else ([], 70)
  else ([], 70)
def dict_Read.f (s : ByteArray) (pairs : List Int) : Option (List Nm × Int) := if s.size < 4294967281 then some (readT s pairs) else none
theorem join_ok (x y : ByteArray) (h : y.size < 4294967281) : (eidNm (joinT x y)).ok := by
  unfold joinT
  cases hj : joinS x y with
  | none => exact ⟨by decide, by decide⟩
  | some z =>
    have hm : z ∈ cands x y 3 := List.mem_of_find?_eq_some hj
    obtain ⟨h1, h2⟩ := cands_size x y z hm
    exact ⟨by show z.n.size ≤ maxLen; unfold maxLen; omega, by show z.v.size ≤ maxLen; unfold maxLen; omega⟩
theorem name_ok (s : ByteArray) (a b : Int) (h : s.size < 4294967281) : (nameT s a b).1.ok := by
  unfold nameT
  split
  · dsimp only
    split <;> exact ⟨Nat.zero_le _, Nat.zero_le _⟩
  · refine join_ok _ _ ?_
    have := halfOf_size (items s.data.toList) b s.data.toList.length (fun x hx => itemsF_size _ _ _ x hx)
    have h3 : s.data.toList.length = s.size := Array.length_toList ..
    omega
theorem names_ok (s : ByteArray) (h : s.size < 4294967281) : ∀ (n : Nat) (p : List Int) (l : List Nm), p.length ≤ n → namesT s p = some l → ∀ x ∈ l, x.ok := by
  intro n
  induction n using Nat.strongRecOn with
  | _ n ih =>
    intro p l hn hl
    match p, hl with
    | [], hl => simp [namesT] at hl; subst hl; intro x hx; cases hx
    | [_], hl => simp [namesT] at hl; subst hl; intro x hx; cases hx
    | a :: b :: r, hl =>
      rw [namesT] at hl
      split at hl
      · obtain ⟨l', h1, h2⟩ := Option.map_eq_some_iff.1 hl
        subst h2
        intro x hx
        rcases List.mem_cons.1 hx with rfl | hx
        · exact name_ok s a b h
        · exact ih r.length (by simp only [List.length_cons] at hn; omega) r l' (Nat.le_refl _) h1 x hx
      · cases hl
theorem name_calls (s : ByteArray) (a b : Int) (w : World) (am ae ad : Addr) (hE : LaidAt w am ae ad) (hLd : Laid w) (hs : s.size < 4294967281) :
    Calls Tryz.prog 30 #[.string s, .int .i64 a, .int .i64 b] w fun e w' => e = .returned (.tuple #[(nameT s a b).1.v, nameE (nameT s a b).2 ad]) ∧ Below w.heap.size w w' := by
  by_cases h : s.toList = []
  · exact name_empty s a b w ad h
  · exact name_full s a b w am ae ad hE hLd h hs
set_option maxRecDepth 100000 in
set_option maxHeartbeats 4000000 in
theorem dict_Read.calls (a0 : ByteArray) (A1 : Option Addr) (c1 : Nat) (l1 : List Int) (r1 : List Nm) (r2 : Int) (w : World) (hr1 : Kd.C (Kd.int .i64) w A1 l1.length l1) (hc1 : l1.length ≤ c1) (hLd : LaidD w) (h : dict_Read.f a0 l1 = some (r1, r2)) :
    Calls Tryz.prog 14 #[.string a0, .slice A1 l1.length c1] w fun e w' => ∃ v1_ : Value, e = .returned (.tuple #[v1_, .int .i64 r2]) ∧ Kd.R kNm 41 w' w.heap.size (fun _ => True) v1_ r1 ∧ Below w.heap.size w w' := by
  unfold dict_Read.f at h
  split at h
  case isFalse => cases h
  rename_i hs
  replace h := Option.some.inj h
  obtain ⟨hLd, am, ae, ad, hE⟩ := hLd
  have HL := Lib.hid hLd
  have HE := Lib.hid hE
  have HR := Lib.hid hr1
  have hr1' := hc1
  obtain ⟨_, _, ⟨gd, _⟩, _⟩ := hE
  clear hLd hr1
  have hu := Tryz.underlying41
  have hu2 := Tryz.underlying61
  have hdict := fun A n c W hW => either_eids_dict A n c W am ae ad hW
  unfold errV at hdict
  have hnil := either_eids_dict none 0 0 w am ae ad HE.out
  unfold errV at hnil
  unfold readT at h
  by_cases hmod : (l1.length : Int) % 2 = 0
  case neg =>
    rw [if_neg (by omega)] at h
    simp only [Prod.mk.injEq] at h
    obtain ⟨rfl, rfl⟩ := h
    go_enter Tryz.func14, Tryz.ntmps14
    go_wp2_with (go_at_call 29; refine hnil.mono ?_; rintro e w2 ⟨rfl, rfl⟩)
    go_ret2
    exact ⟨_, rfl, Kd.R_nil _ _ _ _ _, Below.refl _ _⟩
  by_cases h60 : 60 < (l1.length : Int)
  case pos =>
    rw [if_neg (by omega)] at h
    simp only [Prod.mk.injEq] at h
    obtain ⟨rfl, rfl⟩ := h
    go_enter Tryz.func14, Tryz.ntmps14
    go_wp2_with (go_at_call 29; refine hnil.mono ?_; rintro e w2 ⟨rfl, rfl⟩)
    go_ret2
    exact ⟨_, rfl, Kd.R_nil _ _ _ _ _, Below.refl _ _⟩
  rw [if_pos (by omega)] at h
  have HH := Lib.hid h
  have HG := Lib.hid (World.block_lt_of_cell? w _ gd)
  clear h hnil gd
  have h60n : l1.length ≤ 60 := by omega
  have hmodn : l1.length % 2 = 0 := by omega
  go_enter Tryz.func14, Tryz.ntmps14
  go_wp2_with (fail)
  go_loopg [6, 7] (l1.length + 1) (fun gg s6 s7 wr => ∃ (A : Option Addr) (m c i : Nat) (lk : List Nm), s6 = .slice A m c ∧ s7 = .int .i64 (i : Int) ∧ i ≤ l1.length ∧ l1.length + 1 - i ≤ gg ∧ Hid (i % 2 = 0) ∧ Hid (lk.length ≤ i) ∧ Hid (namesT a0 l1 = (namesT a0 (l1.drop i)).map (lk ++ ·)) ∧ Hid (Kd.R kNm 41 wr w.heap.size (fun _ => True) (.slice A m c) lk) ∧ Hid (Below w.heap.size w wr))
  case atStart => exact ⟨none, 0, 0, 0, [], rfl, rfl, Nat.zero_le _, by omega, Lib.hid rfl, Lib.hid (Nat.le_refl _), Lib.hid (by cases hq : namesT a0 l1 <;> simp [hq]), Lib.hid (Kd.R_nil _ _ _ _ _), Lib.hid (Below.refl _ _)⟩
  case round =>
    obtain ⟨A, m, c, i, lk, rfl, rfl, hi, hg, HM, HLK, HN, HRR, HB⟩ := hrel
    by_cases hlt : i < l1.length
    · have hlt2 : i + 1 < l1.length := by have := HM.out; omega
      have z1 : (i : Int) < (l1.length : Int) := by omega
      have z2 : (i : Int) + 1 < (l1.length : Int) := by omega
      have z0 : (0 : Int) ≤ (i : Int) := by omega
      obtain ⟨_, _, hrd⟩ := Kd.reads_of_C (d := (0 : Int)) HR.out
      obtain ⟨ad1, hA, hcell⟩ := hrd (by omega)
      subst hA
      have y1 := (HB.out.cell (World.block_lt_of_cell? w _ (hcell i hlt))).trans (hcell i hlt)
      have y2 := (HB.out.cell (World.block_lt_of_cell? w _ (hcell (i + 1) hlt2))).trans (hcell (i + 1) hlt2)
      have hdr : l1.drop i = l1.getD i 0 :: l1.getD (i + 1) 0 :: l1.drop (i + 2) := by
        rw [List.drop_eq_getElem_cons hlt, List.drop_eq_getElem_cons hlt2]
        simp [List.getD_eq_getElem?_getD, hlt, hlt2]
      have HDR := Lib.hid hdr
      have hca := hcell i hlt
      have hcb : w.cell? ⟨ad1.block, ad1.off + (i + 1), none⟩ = _ := hcell (i + 1) hlt2
      replace y2 : wr.cell? ⟨ad1.block, ad1.off + (i + 1), none⟩ = _ := y2
      generalize l1.getD i 0 = a at *
      generalize l1.getD (i + 1) 0 = b at *
      have HCALL := Lib.hid (fun W (hb : Below w.heap.size w W) => name_calls a0 a b W am ae ad (HE.out.below hb) (HL.out.below hb) hs)
      have HY : Hid (∀ W, Below w.heap.size w W → W.cell? (ad1.add i) = some (.int .i64 a) ∧ W.cell? ⟨ad1.block, ad1.off + (i + 1), none⟩ = some (.int .i64 b)) := Lib.hid (fun W hb => ⟨(hb.cell (World.block_lt_of_cell? w _ hca)).trans hca, (hb.cell (World.block_lt_of_cell? w _ hcb)).trans hcb⟩)
      have HB1 : Hid (Below w.heap.size w wr.drew) := Lib.hid (HB.out.trans ((below_drewN wr 1).mono HB.out.size))
      have HB2 : Hid (Below w.heap.size w (wr.alloc (.cells #[.int .i64 0, .string ⟨#[]⟩, .string ⟨#[]⟩, .int .i64 0, .int .i64 0] 41)).drew) := Lib.hid ((HB.out.alloc HB.out.size (.cells #[.int .i64 0, .string ⟨#[]⟩, .string ⟨#[]⟩, .int .i64 0, .int .i64 0] 41)).trans ((below_drewN _ 1).mono (by have := HB.out.size; simp; omega)))
      have ZB : Hid ((wr.alloc (.cells #[.int .i64 0, .string ⟨#[]⟩, .string ⟨#[]⟩, .int .i64 0, .int .i64 0] 41)).drew.heap[wr.heap.size]? = some (.cells #[.int .i64 0, .string ⟨#[]⟩, .string ⟨#[]⟩, .int .i64 0, .int .i64 0] 41)) := Lib.hid (World.alloc_heap_new _ _)
      have hwr : IntKind.i64.wrap ((i : Int) + 1) = (i : Int) + 1 := by rw [IntKind.wrap_i64]; omega
      have z3 : (0 : Int) ≤ (i : Int) + 1 := by omega
      have HBW1 : Hid (Below wr.heap.size wr wr.drew) := Lib.hid (below_drewN wr 1)
      have HBW2 : Hid (Below wr.heap.size wr (wr.alloc (.cells #[.int .i64 0, .string ⟨#[]⟩, .string ⟨#[]⟩, .int .i64 0, .int .i64 0] 41)).drew) := Lib.hid ((b_alloc (Below.refl _ _) _).trans ((below_drewN _ 1).mono (by simp)))
      have HRW : Hid (Kd.R kNm 41 wr w.heap.size (fun k => k < wr.heap.size) (.slice A m c) lk) := Lib.hid (Kd.R_mono (Kd.R_bound HRR.out) (fun k hk => hk.2.2.1))
      have yn1 := World.new_ne wr (ad1.add i) y1
      have yn2 := World.new_ne wr ⟨ad1.block, ad1.off + (i + 1), none⟩ y2
      clear hrd hcell hdr hca hcb
      obtain ⟨x, ok, hnm⟩ : ∃ x ok, nameT a0 a b = (x, ok) := ⟨_, _, rfl⟩
      have hcall := HCALL.out
      rw [hnm] at hcall
      have HNM := Lib.hid hnm
      clear hnm HCALL
      cases ok with
      | false =>
        have hres : namesT a0 l1 = none := by
          rw [HN.out, HDR.out, namesT, HNM.out]
          rfl
        have hh := HH.out
        rw [hres] at hh
        simp only [Prod.mk.injEq] at hh
        obtain ⟨rfl, rfl⟩ := hh
        unfold nameE errV at hcall
        simp only [Bool.false_eq_true, if_false] at hcall
        clear hres
        go_wp2_with (fail)
        go_region_held3 (fun w' => w'.cell? (ad1.add i) = some (.int .i64 a) ∧ w'.cell? ⟨ad1.block, ad1.off + (i + 1), none⟩ = some (.int .i64 b)) (go_keep) (first | (go_at_call 30; refine (hcall _ ?hW).mono ?_; (case hW => first | exact HB1.out | exact HB2.out); rintro e w5 ⟨rfl, hb5⟩; have hB5 : Below w.heap.size w w5 := (by first | exact HB1.out.trans (hb5.mono HB1.out.size) | exact HB2.out.trans (hb5.mono HB2.out.size)); obtain ⟨k1, k2⟩ := HY.out w5 hB5; have HB5 := Lib.hid hB5; have HK5 := Lib.hid hb5; clear hB5; (first | (have zb := (hb5.block wr.heap.size (by simp)).trans ZB.out; have zz0 := cell_blk zb 0; have zz1 := cell_blk zb 1; have zz2 := cell_blk zb 2; have zz3 := cell_blk zb 3; have zz4 := cell_blk zb 4; have zf := fun j => frozen_blk zb j; simp at zz0 zz1 zz2 zz3 zz4; have ZB5 := Lib.hid zb; clear zb) | skip); have HR5 := Lib.hid (Kd.R_below HRW.out (by first | exact HBW1.out.trans (hb5.mono HBW1.out.size) | exact HBW2.out.trans (hb5.mono HBW2.out.size))); clear hb5))
        · skip
          obtain ⟨tb, htb⟩ : ∃ tb, tb = w5.heap.size := ⟨_, rfl⟩
          obtain ⟨w6, hw6⟩ : ∃ w6, w6 = w5.alloc (.cells (Nm.cells x) 41) := ⟨_, rfl⟩
          have hy6 : w6.heap[tb]? = some (.cells (Nm.cells x) 41) := by rw [hw6, htb]; exact World.alloc_heap_new _ _
          have hB6 : Below w.heap.size w w6 := by rw [hw6]; exact HB5.out.alloc HB5.out.size _
          have hR6 : Kd.R kNm 41 w6 w.heap.size (fun _ => True) (.slice A m c) lk := by rw [hw6]; exact Kd.R_mono (Kd.R_below HR5.out (b_alloc (Below.refl _ _) _)) (fun _ _ => trivial)
          rw [← htb]
          change Exit.then _ _ _ _ (w5.alloc (.cells (Nm.cells x) 41))
          rw [← hw6]
          clear htb hw6
          have HY6 := Lib.hid hy6
          have HB6 := Lib.hid hB6
          have HR6 := Lib.hid hR6
          clear hy6 hB6 hR6 k1 k2 yn1 yn2 y1 y2 hcall
          go_wp2_with (go_at_call 29; go_loud (refine (hdict A m c w6 (HE.out.below HB6.out)).mono ?_); rintro e w7 ⟨rfl, rfl⟩)
          go_ret2
          exact ⟨_, rfl, Kd.R_nil _ _ _ _ _, HB6.out⟩
        · skip
          obtain ⟨tb, htb⟩ : ∃ tb, tb = wr.heap.size := ⟨_, rfl⟩
          obtain ⟨w6, hw6⟩ : ∃ w6, w6 = (((((w5.setCell ⟨wr.heap.size, 0, none⟩ (.int .i64 x.f0)).setCell ⟨wr.heap.size, 1, none⟩ (.string x.f1)).setCell ⟨wr.heap.size, 2, none⟩ (.string x.f2)).setCell ⟨wr.heap.size, 3, none⟩ (.int .i64 x.f3)).setCell ⟨wr.heap.size, 4, none⟩ (.int .i64 x.f4)) := ⟨_, rfl⟩
          have hy6 : w6.heap[tb]? = some (.cells (Nm.cells x) 41) := by rw [hw6, htb]; exact setNm (y := zeroNm) ZB5.out
          have hB6 : Below w.heap.size w w6 := by
            rw [hw6]
            iterate 5 refine Below.setCell ?_ (show w.heap.size ≤ wr.heap.size from HB.out.size) _
            exact HB5.out
          have hR6 : Kd.R kNm 41 w6 w.heap.size (fun _ => True) (.slice A m c) lk := by
            rw [hw6]
            refine Kd.R_mono (ok := fun k => k < wr.heap.size) ?_ (fun _ _ => trivial)
            iterate 5 refine Kd.R_far ?_ (fun k hk => by show k ≠ wr.heap.size; omega) _
            exact HR5.out
          rw [← hw6, ← htb]
          clear htb hw6 zz0 zz1 zz2 zz3 zz4 zf
          have HY6 := Lib.hid hy6
          have HB6 := Lib.hid hB6
          have HR6 := Lib.hid hR6
          clear hy6 hB6 hR6 k1 k2 yn1 yn2 y1 y2 hcall
          go_wp2_with (go_at_call 29; go_loud (refine (hdict A m c w6 (HE.out.below HB6.out)).mono ?_); rintro e w7 ⟨rfl, rfl⟩)
          go_ret2
          exact ⟨_, rfl, Kd.R_nil _ _ _ _ _, HB6.out⟩
      | true =>
        unfold nameE at hcall
        simp only [if_true] at hcall
        go_wp2_with (fail)
        go_region_held3 (fun w' => w'.cell? (ad1.add i) = some (.int .i64 a) ∧ w'.cell? ⟨ad1.block, ad1.off + (i + 1), none⟩ = some (.int .i64 b)) (go_keep) (first | (go_at_call 30; refine (hcall _ ?hW).mono ?_; (case hW => first | exact HB1.out | exact HB2.out); rintro e w5 ⟨rfl, hb5⟩; have hB5 : Below w.heap.size w w5 := (by first | exact HB1.out.trans (hb5.mono HB1.out.size) | exact HB2.out.trans (hb5.mono HB2.out.size)); obtain ⟨k1, k2⟩ := HY.out w5 hB5; have HB5 := Lib.hid hB5; have HK5 := Lib.hid hb5; clear hB5; (first | (have zb := (hb5.block wr.heap.size (by simp)).trans ZB.out; have zz0 := cell_blk zb 0; have zz1 := cell_blk zb 1; have zz2 := cell_blk zb 2; have zz3 := cell_blk zb 3; have zz4 := cell_blk zb 4; have zf := fun j => frozen_blk zb j; simp at zz0 zz1 zz2 zz3 zz4; have ZB5 := Lib.hid zb; clear zb) | skip); have HR5 := Lib.hid (Kd.R_below HRW.out (by first | exact HBW1.out.trans (hb5.mono HBW1.out.size) | exact HBW2.out.trans (hb5.mono HBW2.out.size))); clear hb5))
        · skip
          obtain ⟨tb, htb⟩ : ∃ tb, tb = w5.heap.size := ⟨_, rfl⟩
          obtain ⟨w6, hw6⟩ : ∃ w6, w6 = w5.alloc (.cells (Nm.cells x) 41) := ⟨_, rfl⟩
          have hy6 : w6.heap[tb]? = some (.cells (Nm.cells x) 41) := by rw [hw6, htb]; exact World.alloc_heap_new _ _
          have hB6 : Below w.heap.size w w6 := by rw [hw6]; exact HB5.out.alloc HB5.out.size _
          have hR6 : Kd.R kNm 41 w6 w.heap.size (fun _ => True) (.slice A m c) lk := by rw [hw6]; exact Kd.R_mono (Kd.R_below HR5.out (b_alloc (Below.refl _ _) _)) (fun _ _ => trivial)
          rw [← htb]
          change Exit.then _ _ _ _ (w5.alloc (.cells (Nm.cells x) 41))
          rw [← hw6]
          clear htb hw6
          have HY6 := Lib.hid hy6
          have HB6 := Lib.hid hB6
          have HR6 := Lib.hid hR6
          have l0 := cell_blk hy6 0
          have l1' := cell_blk hy6 1
          have l2 := cell_blk hy6 2
          have l3 := cell_blk hy6 3
          have l4 := cell_blk hy6 4
          simp [Nm.cells] at l0 l1' l2 l3 l4
          clear hy6 hB6 hR6 k1 k2 yn1 yn2 y1 y2 hcall
          go_wp2_with ((with_reducible refine gate_builtin (b := .append) (xs := #[.tmp 53, .tmp 55]) rfl ?_); at_builtin; go_loud (refine Kd.R_append kNm (w0 := w) w.heap.size rfl (.tmp 53) (.tmp 55) 22 41 (.agg #[(.int .i64 0), (.string ⟨#[]⟩), (.string ⟨#[]⟩), (.int .i64 0), (.int .i64 0)]) 56 rfl Tryz.underlying22 info41 rfl (by decide) (by decide) (.slice A m c) lk x [.int .i64 x.f0, .string x.f1, .string x.f2, .int .i64 x.f3, .int .i64 x.f4] (fun _ => True) (fun _ => False) rfl rfl (k41_mkM _ _ _ x) (fun _ hk => hk.elim) (fun _ _ => trivial) HR6.out HB6.out HB6.out.size (by have := HLK.out; omega) ?_); intro v1 w9 ho9 hb9 hg9 hat9; clear hg9 hat9; obtain ⟨A9, c9, e9⟩ := Kd.R_slice ho9; obtain ⟨m9, hm9⟩ : ∃ m9, m9 = (lk ++ [x]).length := ⟨_, rfl⟩; rw [← hm9] at e9; subst e9; have HO9 := Lib.hid ho9; have HB9 := Lib.hid hb9; clear ho9 hb9 hm9)
          go_roundg (l1.length + 1 - (i + 2))
          case measure => omega
          case rel => exact ⟨A9, m9, c9, i + 2, lk ++ [x], rfl, by go_num, by omega, by omega, Lib.hid (by have := HM.out; omega), Lib.hid (by have := HLK.out; simp; omega), Lib.hid (by rw [HN.out, HDR.out, namesT, HNM.out, if_pos rfl, Option.map_map]; congr 1; funext z; simp), HO9, HB9⟩
        · skip
          obtain ⟨tb, htb⟩ : ∃ tb, tb = wr.heap.size := ⟨_, rfl⟩
          obtain ⟨w6, hw6⟩ : ∃ w6, w6 = (((((w5.setCell ⟨wr.heap.size, 0, none⟩ (.int .i64 x.f0)).setCell ⟨wr.heap.size, 1, none⟩ (.string x.f1)).setCell ⟨wr.heap.size, 2, none⟩ (.string x.f2)).setCell ⟨wr.heap.size, 3, none⟩ (.int .i64 x.f3)).setCell ⟨wr.heap.size, 4, none⟩ (.int .i64 x.f4)) := ⟨_, rfl⟩
          have hy6 : w6.heap[tb]? = some (.cells (Nm.cells x) 41) := by rw [hw6, htb]; exact setNm (y := zeroNm) ZB5.out
          have hB6 : Below w.heap.size w w6 := by
            rw [hw6]
            iterate 5 refine Below.setCell ?_ (show w.heap.size ≤ wr.heap.size from HB.out.size) _
            exact HB5.out
          have hR6 : Kd.R kNm 41 w6 w.heap.size (fun _ => True) (.slice A m c) lk := by
            rw [hw6]
            refine Kd.R_mono (ok := fun k => k < wr.heap.size) ?_ (fun _ _ => trivial)
            iterate 5 refine Kd.R_far ?_ (fun k hk => by show k ≠ wr.heap.size; omega) _
            exact HR5.out
          rw [← hw6, ← htb]
          clear htb hw6 zz0 zz1 zz2 zz3 zz4 zf
          have HY6 := Lib.hid hy6
          have HB6 := Lib.hid hB6
          have HR6 := Lib.hid hR6
          have l0 := cell_blk hy6 0
          have l1' := cell_blk hy6 1
          have l2 := cell_blk hy6 2
          have l3 := cell_blk hy6 3
          have l4 := cell_blk hy6 4
          simp [Nm.cells] at l0 l1' l2 l3 l4
          clear hy6 hB6 hR6 k1 k2 yn1 yn2 y1 y2 hcall
          go_wp2_with ((with_reducible refine gate_builtin (b := .append) (xs := #[.tmp 53, .tmp 55]) rfl ?_); at_builtin; go_loud (refine Kd.R_append kNm (w0 := w) w.heap.size rfl (.tmp 53) (.tmp 55) 22 41 (.agg #[(.int .i64 0), (.string ⟨#[]⟩), (.string ⟨#[]⟩), (.int .i64 0), (.int .i64 0)]) 56 rfl Tryz.underlying22 info41 rfl (by decide) (by decide) (.slice A m c) lk x [.int .i64 x.f0, .string x.f1, .string x.f2, .int .i64 x.f3, .int .i64 x.f4] (fun _ => True) (fun _ => False) rfl rfl (k41_mkM _ _ _ x) (fun _ hk => hk.elim) (fun _ _ => trivial) HR6.out HB6.out HB6.out.size (by have := HLK.out; omega) ?_); intro v1 w9 ho9 hb9 hg9 hat9; clear hg9 hat9; obtain ⟨A9, c9, e9⟩ := Kd.R_slice ho9; obtain ⟨m9, hm9⟩ : ∃ m9, m9 = (lk ++ [x]).length := ⟨_, rfl⟩; rw [← hm9] at e9; subst e9; have HO9 := Lib.hid ho9; have HB9 := Lib.hid hb9; clear ho9 hb9 hm9)
          go_roundg (l1.length + 1 - (i + 2))
          case measure => omega
          case rel => exact ⟨A9, m9, c9, i + 2, lk ++ [x], rfl, by go_num, by omega, by omega, Lib.hid (by have := HM.out; omega), Lib.hid (by have := HLK.out; simp; omega), Lib.hid (by rw [HN.out, HDR.out, namesT, HNM.out, if_pos rfl, Option.map_map]; congr 1; funext z; simp), HO9, HB9⟩
    · have z1 : ¬ (i : Int) < (l1.length : Int) := by omega
      have hk : i = l1.length := by omega
      subst hk
      have hres : namesT a0 l1 = some lk := by
        rw [HN.out, List.drop_length]
        simp [namesT]
      have hh := HH.out
      rw [hres] at hh
      simp only at hh
      have hoks := names_ok a0 hs l1.length l1 lk (Nat.le_refl _) hres
      obtain ⟨A', c', he, hlc, hC⟩ := Kd.R_reads HRR.out
      injection he with e1 e2 e3
      subst e1 e2 e3
      have hb := built_calls A c lk wr am ae ad (HE.out.below HB.out) (HL.out.below HB.out) hC hoks hC.2.1
      have hdict' := fun W hW => hdict A lk.length c W hW
      have hnil' := fun W hW => either_eids_nil A lk.length c W am ae ad hW
      have HHH := Lib.hid hh
      have HHR := Lib.hid hr1'
      have HRR2 := Lib.hid (Kd.R_mono (Kd.R_bound HRR.out) (ok' := fun k => k < wr.heap.size) (fun k hk => hk.2.2.1))
      clear hdict hres hh hoks hC hlc HN HM hu HRR
      unfold buildT at HHH
      by_cases h30 : 30 < lk.length
      · simp only [if_pos h30] at hb HHH
        rw [if_neg (by simp)] at HHH
        have hh := HHH.out
        simp only [Prod.mk.injEq] at hh
        obtain ⟨rfl, rfl⟩ := hh
        unfold errV at hb
        go_wp2_with (first | (go_at_call 24; refine hb.mono ?_; rintro e w1 ⟨hb1, rfl⟩; have gd1 := ((HE.out.below HB.out).below hb1).dict.1) | (go_at_call 29; refine (hdict' _ ((HE.out.below HB.out).below hb1)).mono ?_; rintro e w2 ⟨rfl, rfl⟩))
        go_ret2
        exact ⟨_, rfl, Kd.R_nil _ _ _ _ _, HB.out.trans (hb1.mono HB.out.size)⟩
      · simp only [if_neg h30] at hb HHH
        by_cases hr : lk.any (fun x => !x.right) = true
        · simp only [if_pos hr] at hb HHH
          rw [if_neg (by simp)] at HHH
          have hh := HHH.out
          simp only [Prod.mk.injEq] at hh
          obtain ⟨rfl, rfl⟩ := hh
          unfold errV at hb
          go_wp2_with (first | (go_at_call 24; refine hb.mono ?_; rintro e w1 ⟨hb1, rfl⟩; have gd1 := ((HE.out.below HB.out).below hb1).dict.1) | (go_at_call 29; refine (hdict' _ ((HE.out.below HB.out).below hb1)).mono ?_; rintro e w2 ⟨rfl, rfl⟩))
          go_ret2
          exact ⟨_, rfl, Kd.R_nil _ _ _ _ _, HB.out.trans (hb1.mono HB.out.size)⟩
        · simp only [if_neg hr] at hb HHH
          have OPEN : ∀ w1 bb, Below wr.heap.size wr w1 → BSt w1 wr.heap.size bb (builtS lk).1 (builtS lk).2 → ∃ Ao mo co Ap cp,
              w1.cell? ⟨bb, 1, none⟩ = some (.slice Ao mo co) ∧ w1.cell? ⟨bb, 2, none⟩ = some (.slice Ap (builtS lk).2.length cp) ∧ (convert 59 9 (.slice Ao mo co)).run Tryz.prog w1 = .ok (.string (txt (flatT (builtS lk).1))) w1 ∧
              Calls Tryz.prog 31 #[.slice Ap (builtS lk).2.length cp, .slice A1 l1.length c1] w1 fun e w' => e = .returned (.bool (decide ((builtS lk).2 = l1))) ∧ Drawn0 w1 w' := by
            intro w1 bb hb1 hS
            obtain ⟨mb, n, D, vo, vp, hbp, _, _⟩ := hS
            obtain ⟨Ao, mo, co, rfl, _⟩ := row_slice hbp.row
            have hRp : Kd.R (Kd.int .i64) tInt w1 wr.heap.size (fun _ => True) vp (builtS lk).2 := Kd.R_of_own hbp.prs (fun _ _ => trivial)
            obtain ⟨Ap, cp, rfl, hcp, hCp⟩ := Kd.R_reads hRp
            have hlen : (builtS lk).2.length ≤ 1000000 := by
              have hall : ∀ x ∈ lk, x.right = true := fun x hx => by
                have hr' : lk.any (fun x => !x.right) = false := Bool.eq_false_iff.2 hr
                have := (List.any_eq_false.1 hr') x hx
                simpa using this
              have := (buildF_bounds (lk.any Nm.dtn) lk ([], []) hall).2.2
              show (lk.foldl (buildF (lk.any Nm.dtn)) ([], [])).2.length ≤ _
              rw [this]
              simp
              omega
            refine ⟨Ao, mo, co, Ap, cp, ?_, ?_, ?_, ?_⟩
            · have := cell_blk hbp.blk 1; simpa using this
            · have := cell_blk hbp.blk 2; simpa using this
            · rw [← str_txt]; exact own_string Tryz.underlying59 Tryz.underlying5 Tryz.underlying9 hbp.row
            · exact slices_Equal_int_int.calls ((builtS lk).2.length + 1) Ap cp (builtS lk).2 A1 c1 l1 _ w1 hCp hcp (Kd.C_below HR.out (HB.out.trans (hb1.mono HB.out.size))) HHR.out (equal_is _ _ _ hlen (Nat.lt_succ_self _))
          have HOP := Lib.hid OPEN
          clear OPEN
          generalize builtS lk = st at *
          by_cases ht : txt (flatT st.1) = a0
          · have htl : (txt (flatT st.1)).toList = a0.toList := by rw [ht]
            by_cases hp : st.2 = l1
            · have HRES := HHH.out
              rw [if_pos (by rw [ht, hp])] at HRES
              simp only [Prod.mk.injEq] at HRES
              obtain ⟨rfl, rfl⟩ := HRES
              rw [decide_eq_true hp] at HOP
              clear hp ht HHH
              go_wp2_with (first | (go_at_call 24; refine hb.mono ?_; rintro e w1 ⟨hb1, bb, rfl, hS⟩; obtain ⟨Ao, mo, co, Ap, cp, x1, x2, x3, x4⟩ := HOP.out w1 bb hb1 hS; clear hS) | (go_at_call 31; refine x4.mono ?_; rintro e w2 ⟨rfl, hd2⟩; obtain ⟨nd, rfl⟩ := hd2.out) | (go_at_call 29; refine (hnil' _ (((HE.out.below HB.out).below hb1).below (below_drewN _ _))).mono ?_; rintro e w2 ⟨rfl, rfl⟩))
              go_ret2
              exact ⟨_, rfl, Kd.R_mono (Kd.R_below HRR2.out (hb1.trans ((below_drewN w1 nd).mono hb1.size))) (fun _ _ => trivial), HB.out.trans ((hb1.trans ((below_drewN w1 nd).mono hb1.size)).mono HB.out.size)⟩
            · have HRES := HHH.out
              rw [if_neg (by intro q; simp only [Prod.mk.injEq] at q; exact hp q.2.1)] at HRES
              simp only [Prod.mk.injEq] at HRES
              obtain ⟨rfl, rfl⟩ := HRES
              rw [decide_eq_false hp] at HOP
              clear hp ht HHH
              go_wp2_with (first | (go_at_call 24; refine hb.mono ?_; rintro e w1 ⟨hb1, bb, rfl, hS⟩; obtain ⟨Ao, mo, co, Ap, cp, x1, x2, x3, x4⟩ := HOP.out w1 bb hb1 hS; clear hS; have gd1 := ((HE.out.below HB.out).below hb1).dict.1) | (go_at_call 31; refine x4.mono ?_; rintro e w2 ⟨rfl, hd2⟩; obtain ⟨nd, rfl⟩ := hd2.out) | (go_at_call 29; refine (hdict' _ (((HE.out.below HB.out).below hb1).below (below_drewN _ _))).mono ?_; rintro e w2 ⟨rfl, rfl⟩))
              go_ret2
              exact ⟨_, rfl, Kd.R_nil _ _ _ _ _, HB.out.trans ((hb1.trans ((below_drewN w1 nd).mono hb1.size)).mono HB.out.size)⟩
          · have htl : ¬ (txt (flatT st.1)).toList = a0.toList := fun e => ht (ba_ext e)
            have HRES := HHH.out
            rw [if_neg (by intro q; simp only [Prod.mk.injEq] at q; exact ht q.1)] at HRES
            simp only [Prod.mk.injEq] at HRES
            obtain ⟨rfl, rfl⟩ := HRES
            clear ht HHH
            go_wp2_with (first | (go_at_call 24; refine hb.mono ?_; rintro e w1 ⟨hb1, bb, rfl, hS⟩; obtain ⟨Ao, mo, co, Ap, cp, x1, x2, x3, x4⟩ := HOP.out w1 bb hb1 hS; clear hS; have gd1 := ((HE.out.below HB.out).below hb1).dict.1) | (go_at_call 29; refine (hdict' _ ((HE.out.below HB.out).below hb1)).mono ?_; rintro e w2 ⟨rfl, rfl⟩))
            go_ret2
            exact ⟨_, rfl, Kd.R_nil _ _ _ _ _, HB.out.trans (hb1.mono HB.out.size)⟩
end Go.Proofs.YtbjbicaffblchaaGreatDoor.Hand
end
section
namespace Go.Proofs.YtbjbicaffblchaaGreatDoor.Hand
open Go.RowKit Go.Proofs.YtbjbicaffblchaaGreatDoorW Go.Proofs.YtbjbicaffblchaaGreatDoorW.PrintWords Go.Proofs.YtbjbicaffblchaaGreatDoor.SK
def eid_HalvesD.f (n : Int) (a1 a2 : ByteArray) (a3 a4 : Int) : Option (ByteArray × ByteArray × Int) := eid_Halves.f n a1 a2 a3 a4
theorem eid_HalvesD.calls (n : Int) (a1 a2 : ByteArray) (a3 a4 : Int) (r1 r2 : ByteArray) (r3 : Int) (w : World) (hLd : LaidD w) (h : eid_HalvesD.f n a1 a2 a3 a4 = some (r1, r2, r3)) :
    Calls Tryz.prog 22 #[.agg #[.int .i64 n, .string a1, .string a2, .int .i64 a3, .int .i64 a4]] w fun e w' => e = .returned (.tuple #[.string r1, .string r2, .int .i64 r3]) ∧ Below w.heap.size w w' :=
  eid_Halves.calls n a1 a2 a3 a4 r1 r2 r3 w hLd.laid h
end Go.Proofs.YtbjbicaffblchaaGreatDoor.Hand
end
section
namespace Go.Proofs.YtbjbicaffblchaaGreatDoor.SS
open Go.Proofs.YtbjbicaffblchaaGreatDoor.Hand
open Go.Proofs.YtbjbicaffblchaaGreatDoor.SA
open Go.Proofs.YtbjbicaffblchaaGreatDoor.SK
open Go.RowKit Go.Proofs.YtbjbicaffblchaaGreatDoorW.PrintWords Go.Proofs.YtbjbicaffblchaaGreatDoorW.PrintLast Go.Proofs.YtbjbicaffblchaaGreatDoorW.PrintMore
attribute [local go_sem] max2_int min2_int max_two min_two max_three min_three max_four min_four
set_option linter.unusedVariables false
set_option linter.unusedSimpArgs false
def errW : Option Int → Value
  | none => .nilIface
  | some c => .iface 0 (.int .i64 c)
theorem errW_none : errW none = .nilIface := rfl
theorem errW_some (c : Int) : errW (some c) = .iface 0 (.int .i64 c) := rfl
theorem info3 : (Tryz.prog.info? 3).map (fun i => (i.zero, i.size, i.bytes)) = some (some (.int .i64 0), 1, 8) := by kernel_rfl
theorem info9 : (Tryz.prog.info? 9).map (fun i => (i.zero, i.size, i.bytes)) = some (some (.string ⟨#[]⟩), 1, 16) := by kernel_rfl
theorem info41 : (Tryz.prog.info? 41).map (fun i => (i.zero, i.size, i.bytes)) = some (some (.agg #[(.int .i64 0), (.string ⟨#[]⟩), (.string ⟨#[]⟩), (.int .i64 0), (.int .i64 0)]), 5, 56) := by kernel_rfl
end Go.Proofs.YtbjbicaffblchaaGreatDoor.SS
end
section
namespace Go.Proofs.YtbjbicaffblchaaGreatDoor.SS
open Go.Proofs.YtbjbicaffblchaaGreatDoor.Hand
open Go.Proofs.YtbjbicaffblchaaGreatDoor.SA
open Go.Proofs.YtbjbicaffblchaaGreatDoor.SK
open Go.RowKit Go.Proofs.YtbjbicaffblchaaGreatDoorW.PrintWords Go.Proofs.YtbjbicaffblchaaGreatDoorW.PrintLast Go.Proofs.YtbjbicaffblchaaGreatDoorW.PrintMore
attribute [local go_sem] max2_int min2_int max_two min_two max_three min_three max_four min_four
set_option linter.unusedVariables false
set_option linter.unusedSimpArgs false
def postriderlaw07_shown.f (k : Nat)  : Option (Bool) := (dict_Build.f (([(⟨1, (⟨#[97]⟩ : ByteArray), (⟨#[98]⟩ : ByteArray), 0, 0⟩ : S41), (⟨0, (⟨#[]⟩ : ByteArray), (⟨#[]⟩ : ByteArray), 0, 0⟩ : S41), (⟨1, (⟨#[97]⟩ : ByteArray), (⟨#[98]⟩ : ByteArray), 0, 0⟩ : S41)] : List (S41)))).bind fun bt105 => ((dict_Read.f (⟨#[]⟩ : ByteArray) (([4, 7, 0, 0] : List Int))).bind fun bt113 => ((dict_Read.f (⟨#[]⟩ : ByteArray) (([0, 7] : List Int))).bind fun bt120 => ((dict_Texts.f bt105.1).bind fun bt124 => (if bt105.1.toList = ([100, 116, 110, 0, 47, 47, 97, 47, 98, 0, 110, 111, 110, 101, 0] : List UInt8) then ((postriderref02_Ints.f k bt105.2.1 (([0, 4, 0, 10, 0, 4] : List Int))).bind fun t131 => (if t131 = true then (if bt105.2.2 = 0 then ((postriderref06_Same.f k bt113.1 (([(⟨2, (⟨#[]⟩ : ByteArray), (⟨#[]⟩ : ByteArray), 4, 7⟩ : S41), (⟨0, (⟨#[]⟩ : ByteArray), (⟨#[]⟩ : ByteArray), 0, 0⟩ : S41)] : List (S41)))).bind fun t135 => (if t135 = true then (if bt113.2 = 0 then (if bt120.2 = 70 then ((postriderref07_SameTexts.f k bt124.1 (([(⟨#[100, 116, 110]⟩ : ByteArray), (⟨#[47, 47, 97, 47, 98]⟩ : ByteArray), (⟨#[110, 111, 110, 101]⟩ : ByteArray)] : List ByteArray))).bind fun t139 => (if t139 = true then (some (bt124.2 == 0)) else (none))) else (none)) else (none)) else (none))) else (none)) else (none))) else (none)))))
theorem postriderlaw07_shown.mono : ∀ k, LeO (postriderlaw07_shown.f k ) (postriderlaw07_shown.f (k + 1) ) := by
  intro  k
  unfold postriderlaw07_shown.f
  repeat' first
      | (with_reducible exact postriderref02_Ints.mono _ _ _)
      | (with_reducible exact postriderref06_Same.mono _ _ _)
      | (with_reducible exact postriderref07_SameTexts.mono _ _ _)
      | (with_reducible exact LeO.refl _)
      | (with_reducible exact LeO.none _)
      | (with_reducible refine LeO.ite ?_ ?_)
      | (with_reducible refine LeO.bind ?_ (fun _ => ?_))
      | exact postriderref02_Ints.mono _ _ _
      | exact postriderref06_Same.mono _ _ _
      | exact postriderref07_SameTexts.mono _ _ _
      | exact LeO.none _
      | refine LeO.ite ?_ ?_
      | refine LeO.bind ?_ (fun _ => ?_)
set_option maxHeartbeats 8000000 in
set_option maxRecDepth 100000 in
theorem postriderlaw07_shown.calls (k : Nat)  (r : Bool) (w : World) (hLd : LaidD w) (h : postriderlaw07_shown.f k  = some r) :
    Calls Tryz.prog 8 #[] w fun e w' => e = .returned (.bool r) ∧ Below w.heap.size w w' := by
  have hu41 := Tryz.underlying41
  have HLD := Aside0.mk hLd
  clear hLd
  have HB := Aside0.mk (Below.refl w.heap.size w)
  have H : ((dict_Build.f (([(⟨1, (⟨#[97]⟩ : ByteArray), (⟨#[98]⟩ : ByteArray), 0, 0⟩ : S41), (⟨0, (⟨#[]⟩ : ByteArray), (⟨#[]⟩ : ByteArray), 0, 0⟩ : S41), (⟨1, (⟨#[97]⟩ : ByteArray), (⟨#[98]⟩ : ByteArray), 0, 0⟩ : S41)] : List (S41)))).bind fun bt105 => ((dict_Read.f (⟨#[]⟩ : ByteArray) (([4, 7, 0, 0] : List Int))).bind fun bt113 => ((dict_Read.f (⟨#[]⟩ : ByteArray) (([0, 7] : List Int))).bind fun bt120 => ((dict_Texts.f bt105.1).bind fun bt124 => (if bt105.1.toList = ([100, 116, 110, 0, 47, 47, 97, 47, 98, 0, 110, 111, 110, 101, 0] : List UInt8) then ((postriderref02_Ints.f k bt105.2.1 (([0, 4, 0, 10, 0, 4] : List Int))).bind fun t131 => (if t131 = true then (if bt105.2.2 = 0 then ((postriderref06_Same.f k bt113.1 (([(⟨2, (⟨#[]⟩ : ByteArray), (⟨#[]⟩ : ByteArray), 4, 7⟩ : S41), (⟨0, (⟨#[]⟩ : ByteArray), (⟨#[]⟩ : ByteArray), 0, 0⟩ : S41)] : List (S41)))).bind fun t135 => (if t135 = true then (if bt113.2 = 0 then (if bt120.2 = 70 then ((postriderref07_SameTexts.f k bt124.1 (([(⟨#[100, 116, 110]⟩ : ByteArray), (⟨#[47, 47, 97, 47, 98]⟩ : ByteArray), (⟨#[110, 111, 110, 101]⟩ : ByteArray)] : List ByteArray))).bind fun t139 => (if t139 = true then (some (bt124.2 == 0)) else (none))) else (none)) else (none)) else (none))) else (none)) else (none))) else (none)))))) = some r := h
  clear h
  obtain ⟨y102, hy102⟩ : ∃ y_ : List (S41), y_ = (([(⟨1, (⟨#[97]⟩ : ByteArray), (⟨#[98]⟩ : ByteArray), 0, 0⟩ : S41), (⟨0, (⟨#[]⟩ : ByteArray), (⟨#[]⟩ : ByteArray), 0, 0⟩ : S41), (⟨1, (⟨#[97]⟩ : ByteArray), (⟨#[98]⟩ : ByteArray), 0, 0⟩ : S41)] : List (S41))) := ⟨_, rfl⟩
  replace H : ((dict_Build.f y102).bind fun bt105 => ((dict_Read.f (⟨#[]⟩ : ByteArray) (([4, 7, 0, 0] : List Int))).bind fun bt113 => ((dict_Read.f (⟨#[]⟩ : ByteArray) (([0, 7] : List Int))).bind fun bt120 => ((dict_Texts.f bt105.1).bind fun bt124 => (if bt105.1.toList = ([100, 116, 110, 0, 47, 47, 97, 47, 98, 0, 110, 111, 110, 101, 0] : List UInt8) then ((postriderref02_Ints.f k bt105.2.1 (([0, 4, 0, 10, 0, 4] : List Int))).bind fun t131 => (if t131 = true then (if bt105.2.2 = 0 then ((postriderref06_Same.f k bt113.1 (([(⟨2, (⟨#[]⟩ : ByteArray), (⟨#[]⟩ : ByteArray), 4, 7⟩ : S41), (⟨0, (⟨#[]⟩ : ByteArray), (⟨#[]⟩ : ByteArray), 0, 0⟩ : S41)] : List (S41)))).bind fun t135 => (if t135 = true then (if bt113.2 = 0 then (if bt120.2 = 70 then ((postriderref07_SameTexts.f k bt124.1 (([(⟨#[100, 116, 110]⟩ : ByteArray), (⟨#[47, 47, 97, 47, 98]⟩ : ByteArray), (⟨#[110, 111, 110, 101]⟩ : ByteArray)] : List ByteArray))).bind fun t139 => (if t139 = true then (some (bt124.2 == 0)) else (none))) else (none)) else (none)) else (none))) else (none)) else (none))) else (none)))))) = some r := by first | (rw [hy102]; with_reducible exact H) | (have H2_ := (Option.bind_some _ _).symm.trans H; rw [hy102]; with_reducible exact H2_) | (have H2_ := (Option.bind_some _ _).symm.trans H; with_reducible exact H2_) | with_reducible exact H | (rw [hy102]; exact H) | exact H
  have Ny102 := Aside0.mk hy102
  clear hy102
  replace H := Option.bind_eq_some_iff.mp H
  obtain ⟨⟨t105, t106, t107⟩, A10, H⟩ := H
  replace H : ((dict_Read.f (⟨#[]⟩ : ByteArray) (([4, 7, 0, 0] : List Int))).bind fun bt113 => ((dict_Read.f (⟨#[]⟩ : ByteArray) (([0, 7] : List Int))).bind fun bt120 => ((dict_Texts.f t105).bind fun bt124 => (if t105.toList = ([100, 116, 110, 0, 47, 47, 97, 47, 98, 0, 110, 111, 110, 101, 0] : List UInt8) then ((postriderref02_Ints.f k t106 (([0, 4, 0, 10, 0, 4] : List Int))).bind fun t131 => (if t131 = true then (if t107 = 0 then ((postriderref06_Same.f k bt113.1 (([(⟨2, (⟨#[]⟩ : ByteArray), (⟨#[]⟩ : ByteArray), 4, 7⟩ : S41), (⟨0, (⟨#[]⟩ : ByteArray), (⟨#[]⟩ : ByteArray), 0, 0⟩ : S41)] : List (S41)))).bind fun t135 => (if t135 = true then (if bt113.2 = 0 then (if bt120.2 = 70 then ((postriderref07_SameTexts.f k bt124.1 (([(⟨#[100, 116, 110]⟩ : ByteArray), (⟨#[47, 47, 97, 47, 98]⟩ : ByteArray), (⟨#[110, 111, 110, 101]⟩ : ByteArray)] : List ByteArray))).bind fun t139 => (if t139 = true then (some (bt124.2 == 0)) else (none))) else (none)) else (none)) else (none))) else (none)) else (none))) else (none))))) = some r := H
  have A1 := Aside0.mk A10
  clear A10
  obtain ⟨y110, hy110⟩ : ∃ y_ : List Int, y_ = (([4, 7, 0, 0] : List Int)) := ⟨_, rfl⟩
  replace H : ((dict_Read.f (⟨#[]⟩ : ByteArray) y110).bind fun bt113 => ((dict_Read.f (⟨#[]⟩ : ByteArray) (([0, 7] : List Int))).bind fun bt120 => ((dict_Texts.f t105).bind fun bt124 => (if t105.toList = ([100, 116, 110, 0, 47, 47, 97, 47, 98, 0, 110, 111, 110, 101, 0] : List UInt8) then ((postriderref02_Ints.f k t106 (([0, 4, 0, 10, 0, 4] : List Int))).bind fun t131 => (if t131 = true then (if t107 = 0 then ((postriderref06_Same.f k bt113.1 (([(⟨2, (⟨#[]⟩ : ByteArray), (⟨#[]⟩ : ByteArray), 4, 7⟩ : S41), (⟨0, (⟨#[]⟩ : ByteArray), (⟨#[]⟩ : ByteArray), 0, 0⟩ : S41)] : List (S41)))).bind fun t135 => (if t135 = true then (if bt113.2 = 0 then (if bt120.2 = 70 then ((postriderref07_SameTexts.f k bt124.1 (([(⟨#[100, 116, 110]⟩ : ByteArray), (⟨#[47, 47, 97, 47, 98]⟩ : ByteArray), (⟨#[110, 111, 110, 101]⟩ : ByteArray)] : List ByteArray))).bind fun t139 => (if t139 = true then (some (bt124.2 == 0)) else (none))) else (none)) else (none)) else (none))) else (none)) else (none))) else (none))))) = some r := by first | (rw [hy110]; with_reducible exact H) | (have H2_ := (Option.bind_some _ _).symm.trans H; rw [hy110]; with_reducible exact H2_) | (have H2_ := (Option.bind_some _ _).symm.trans H; with_reducible exact H2_) | with_reducible exact H | (rw [hy110]; exact H) | exact H
  have Ny110 := Aside0.mk hy110
  clear hy110
  replace H := Option.bind_eq_some_iff.mp H
  obtain ⟨⟨t113, t114⟩, A20, H⟩ := H
  replace H : ((dict_Read.f (⟨#[]⟩ : ByteArray) (([0, 7] : List Int))).bind fun bt120 => ((dict_Texts.f t105).bind fun bt124 => (if t105.toList = ([100, 116, 110, 0, 47, 47, 97, 47, 98, 0, 110, 111, 110, 101, 0] : List UInt8) then ((postriderref02_Ints.f k t106 (([0, 4, 0, 10, 0, 4] : List Int))).bind fun t131 => (if t131 = true then (if t107 = 0 then ((postriderref06_Same.f k t113 (([(⟨2, (⟨#[]⟩ : ByteArray), (⟨#[]⟩ : ByteArray), 4, 7⟩ : S41), (⟨0, (⟨#[]⟩ : ByteArray), (⟨#[]⟩ : ByteArray), 0, 0⟩ : S41)] : List (S41)))).bind fun t135 => (if t135 = true then (if t114 = 0 then (if bt120.2 = 70 then ((postriderref07_SameTexts.f k bt124.1 (([(⟨#[100, 116, 110]⟩ : ByteArray), (⟨#[47, 47, 97, 47, 98]⟩ : ByteArray), (⟨#[110, 111, 110, 101]⟩ : ByteArray)] : List ByteArray))).bind fun t139 => (if t139 = true then (some (bt124.2 == 0)) else (none))) else (none)) else (none)) else (none))) else (none)) else (none))) else (none)))) = some r := H
  have A2 := Aside0.mk A20
  clear A20
  obtain ⟨y117, hy117⟩ : ∃ y_ : List Int, y_ = (([0, 7] : List Int)) := ⟨_, rfl⟩
  replace H : ((dict_Read.f (⟨#[]⟩ : ByteArray) y117).bind fun bt120 => ((dict_Texts.f t105).bind fun bt124 => (if t105.toList = ([100, 116, 110, 0, 47, 47, 97, 47, 98, 0, 110, 111, 110, 101, 0] : List UInt8) then ((postriderref02_Ints.f k t106 (([0, 4, 0, 10, 0, 4] : List Int))).bind fun t131 => (if t131 = true then (if t107 = 0 then ((postriderref06_Same.f k t113 (([(⟨2, (⟨#[]⟩ : ByteArray), (⟨#[]⟩ : ByteArray), 4, 7⟩ : S41), (⟨0, (⟨#[]⟩ : ByteArray), (⟨#[]⟩ : ByteArray), 0, 0⟩ : S41)] : List (S41)))).bind fun t135 => (if t135 = true then (if t114 = 0 then (if bt120.2 = 70 then ((postriderref07_SameTexts.f k bt124.1 (([(⟨#[100, 116, 110]⟩ : ByteArray), (⟨#[47, 47, 97, 47, 98]⟩ : ByteArray), (⟨#[110, 111, 110, 101]⟩ : ByteArray)] : List ByteArray))).bind fun t139 => (if t139 = true then (some (bt124.2 == 0)) else (none))) else (none)) else (none)) else (none))) else (none)) else (none))) else (none)))) = some r := by first | (rw [hy117]; with_reducible exact H) | (have H2_ := (Option.bind_some _ _).symm.trans H; rw [hy117]; with_reducible exact H2_) | (have H2_ := (Option.bind_some _ _).symm.trans H; with_reducible exact H2_) | with_reducible exact H | (rw [hy117]; exact H) | exact H
  have Ny117 := Aside0.mk hy117
  clear hy117
  replace H := Option.bind_eq_some_iff.mp H
  obtain ⟨⟨t120, t121⟩, A30, H⟩ := H
  replace H : ((dict_Texts.f t105).bind fun bt124 => (if t105.toList = ([100, 116, 110, 0, 47, 47, 97, 47, 98, 0, 110, 111, 110, 101, 0] : List UInt8) then ((postriderref02_Ints.f k t106 (([0, 4, 0, 10, 0, 4] : List Int))).bind fun t131 => (if t131 = true then (if t107 = 0 then ((postriderref06_Same.f k t113 (([(⟨2, (⟨#[]⟩ : ByteArray), (⟨#[]⟩ : ByteArray), 4, 7⟩ : S41), (⟨0, (⟨#[]⟩ : ByteArray), (⟨#[]⟩ : ByteArray), 0, 0⟩ : S41)] : List (S41)))).bind fun t135 => (if t135 = true then (if t114 = 0 then (if t121 = 70 then ((postriderref07_SameTexts.f k bt124.1 (([(⟨#[100, 116, 110]⟩ : ByteArray), (⟨#[47, 47, 97, 47, 98]⟩ : ByteArray), (⟨#[110, 111, 110, 101]⟩ : ByteArray)] : List ByteArray))).bind fun t139 => (if t139 = true then (some (bt124.2 == 0)) else (none))) else (none)) else (none)) else (none))) else (none)) else (none))) else (none))) = some r := H
  have A3 := Aside0.mk A30
  clear A30
  replace H := Option.bind_eq_some_iff.mp H
  obtain ⟨⟨t124, t125⟩, A40, H⟩ := H
  replace H : (if t105.toList = ([100, 116, 110, 0, 47, 47, 97, 47, 98, 0, 110, 111, 110, 101, 0] : List UInt8) then ((postriderref02_Ints.f k t106 (([0, 4, 0, 10, 0, 4] : List Int))).bind fun t131 => (if t131 = true then (if t107 = 0 then ((postriderref06_Same.f k t113 (([(⟨2, (⟨#[]⟩ : ByteArray), (⟨#[]⟩ : ByteArray), 4, 7⟩ : S41), (⟨0, (⟨#[]⟩ : ByteArray), (⟨#[]⟩ : ByteArray), 0, 0⟩ : S41)] : List (S41)))).bind fun t135 => (if t135 = true then (if t114 = 0 then (if t121 = 70 then ((postriderref07_SameTexts.f k t124 (([(⟨#[100, 116, 110]⟩ : ByteArray), (⟨#[47, 47, 97, 47, 98]⟩ : ByteArray), (⟨#[110, 111, 110, 101]⟩ : ByteArray)] : List ByteArray))).bind fun t139 => (if t139 = true then (some (t125 == 0)) else (none))) else (none)) else (none)) else (none))) else (none)) else (none))) else (none)) = some r := H
  have A4 := Aside0.mk A40
  clear A40
  by_cases c5 : t105.toList = ([100, 116, 110, 0, 47, 47, 97, 47, 98, 0, 110, 111, 110, 101, 0] : List UInt8)
  · rw [if_pos c5] at H
    have c5b0 : (t105.toList == ([100, 116, 110, 0, 47, 47, 97, 47, 98, 0, 110, 111, 110, 101, 0] : List UInt8)) = true := beq_iff_eq.mpr c5
    have c5b1 : (t105.toList != ([100, 116, 110, 0, 47, 47, 97, 47, 98, 0, 110, 111, 110, 101, 0] : List UInt8)) = false := bne_eq_false_iff_eq.mpr c5
    clear c5
    obtain ⟨y128, hy128⟩ : ∃ y_ : List Int, y_ = (([0, 4, 0, 10, 0, 4] : List Int)) := ⟨_, rfl⟩
    replace H : ((postriderref02_Ints.f k t106 y128).bind fun t131 => (if t131 = true then (if t107 = 0 then ((postriderref06_Same.f k t113 (([(⟨2, (⟨#[]⟩ : ByteArray), (⟨#[]⟩ : ByteArray), 4, 7⟩ : S41), (⟨0, (⟨#[]⟩ : ByteArray), (⟨#[]⟩ : ByteArray), 0, 0⟩ : S41)] : List (S41)))).bind fun t135 => (if t135 = true then (if t114 = 0 then (if t121 = 70 then ((postriderref07_SameTexts.f k t124 (([(⟨#[100, 116, 110]⟩ : ByteArray), (⟨#[47, 47, 97, 47, 98]⟩ : ByteArray), (⟨#[110, 111, 110, 101]⟩ : ByteArray)] : List ByteArray))).bind fun t139 => (if t139 = true then (some (t125 == 0)) else (none))) else (none)) else (none)) else (none))) else (none)) else (none))) = some r := by first | (rw [hy128]; with_reducible exact H) | (have H2_ := (Option.bind_some _ _).symm.trans H; rw [hy128]; with_reducible exact H2_) | (have H2_ := (Option.bind_some _ _).symm.trans H; with_reducible exact H2_) | with_reducible exact H | (rw [hy128]; exact H) | exact H
    have Ny128 := Aside0.mk hy128
    clear hy128
    replace H := Option.bind_eq_some_iff.mp H
    obtain ⟨t131, A60, H⟩ := H
    replace H : (if t131 = true then (if t107 = 0 then ((postriderref06_Same.f k t113 (([(⟨2, (⟨#[]⟩ : ByteArray), (⟨#[]⟩ : ByteArray), 4, 7⟩ : S41), (⟨0, (⟨#[]⟩ : ByteArray), (⟨#[]⟩ : ByteArray), 0, 0⟩ : S41)] : List (S41)))).bind fun t135 => (if t135 = true then (if t114 = 0 then (if t121 = 70 then ((postriderref07_SameTexts.f k t124 (([(⟨#[100, 116, 110]⟩ : ByteArray), (⟨#[47, 47, 97, 47, 98]⟩ : ByteArray), (⟨#[110, 111, 110, 101]⟩ : ByteArray)] : List ByteArray))).bind fun t139 => (if t139 = true then (some (t125 == 0)) else (none))) else (none)) else (none)) else (none))) else (none)) else (none)) = some r := H
    have A6 := Aside0.mk A60
    clear A60
    by_cases c7 : t131 = true
    · subst c7
      have H1 : (if t107 = 0 then ((postriderref06_Same.f k t113 (([(⟨2, (⟨#[]⟩ : ByteArray), (⟨#[]⟩ : ByteArray), 4, 7⟩ : S41), (⟨0, (⟨#[]⟩ : ByteArray), (⟨#[]⟩ : ByteArray), 0, 0⟩ : S41)] : List (S41)))).bind fun t135 => (if t135 = true then (if t114 = 0 then (if t121 = 70 then ((postriderref07_SameTexts.f k t124 (([(⟨#[100, 116, 110]⟩ : ByteArray), (⟨#[47, 47, 97, 47, 98]⟩ : ByteArray), (⟨#[110, 111, 110, 101]⟩ : ByteArray)] : List ByteArray))).bind fun t139 => (if t139 = true then (some (t125 == 0)) else (none))) else (none)) else (none)) else (none))) else (none)) = some r := by rw [if_pos rfl] at H; exact H
      clear H
      have H := H1
      clear H1
      by_cases c8 : t107 = 0
      · rw [if_pos c8] at H
        have c8b0 : (t107 == 0) = true := beq_iff_eq.mpr c8
        have c8b1 : (t107 != 0) = false := bne_eq_false_iff_eq.mpr c8
        clear c8
        obtain ⟨y132, hy132⟩ : ∃ y_ : List (S41), y_ = (([(⟨2, (⟨#[]⟩ : ByteArray), (⟨#[]⟩ : ByteArray), 4, 7⟩ : S41), (⟨0, (⟨#[]⟩ : ByteArray), (⟨#[]⟩ : ByteArray), 0, 0⟩ : S41)] : List (S41))) := ⟨_, rfl⟩
        replace H : ((postriderref06_Same.f k t113 y132).bind fun t135 => (if t135 = true then (if t114 = 0 then (if t121 = 70 then ((postriderref07_SameTexts.f k t124 (([(⟨#[100, 116, 110]⟩ : ByteArray), (⟨#[47, 47, 97, 47, 98]⟩ : ByteArray), (⟨#[110, 111, 110, 101]⟩ : ByteArray)] : List ByteArray))).bind fun t139 => (if t139 = true then (some (t125 == 0)) else (none))) else (none)) else (none)) else (none))) = some r := by first | (rw [hy132]; with_reducible exact H) | (have H2_ := (Option.bind_some _ _).symm.trans H; rw [hy132]; with_reducible exact H2_) | (have H2_ := (Option.bind_some _ _).symm.trans H; with_reducible exact H2_) | with_reducible exact H | (rw [hy132]; exact H) | exact H
        have Ny132 := Aside0.mk hy132
        clear hy132
        replace H := Option.bind_eq_some_iff.mp H
        obtain ⟨t135, A90, H⟩ := H
        replace H : (if t135 = true then (if t114 = 0 then (if t121 = 70 then ((postriderref07_SameTexts.f k t124 (([(⟨#[100, 116, 110]⟩ : ByteArray), (⟨#[47, 47, 97, 47, 98]⟩ : ByteArray), (⟨#[110, 111, 110, 101]⟩ : ByteArray)] : List ByteArray))).bind fun t139 => (if t139 = true then (some (t125 == 0)) else (none))) else (none)) else (none)) else (none)) = some r := H
        have A9 := Aside0.mk A90
        clear A90
        by_cases c10 : t135 = true
        · subst c10
          have H1 : (if t114 = 0 then (if t121 = 70 then ((postriderref07_SameTexts.f k t124 (([(⟨#[100, 116, 110]⟩ : ByteArray), (⟨#[47, 47, 97, 47, 98]⟩ : ByteArray), (⟨#[110, 111, 110, 101]⟩ : ByteArray)] : List ByteArray))).bind fun t139 => (if t139 = true then (some (t125 == 0)) else (none))) else (none)) else (none)) = some r := by rw [if_pos rfl] at H; exact H
          clear H
          have H := H1
          clear H1
          by_cases c11 : t114 = 0
          · rw [if_pos c11] at H
            have c11b0 : (t114 == 0) = true := beq_iff_eq.mpr c11
            have c11b1 : (t114 != 0) = false := bne_eq_false_iff_eq.mpr c11
            clear c11
            by_cases c12 : t121 = 70
            · rw [if_pos c12] at H
              have c12b0 : (t121 == 70) = true := beq_iff_eq.mpr c12
              have c12b1 : (t121 != 70) = false := bne_eq_false_iff_eq.mpr c12
              clear c12
              obtain ⟨y136, hy136⟩ : ∃ y_ : List ByteArray, y_ = (([(⟨#[100, 116, 110]⟩ : ByteArray), (⟨#[47, 47, 97, 47, 98]⟩ : ByteArray), (⟨#[110, 111, 110, 101]⟩ : ByteArray)] : List ByteArray)) := ⟨_, rfl⟩
              replace H : ((postriderref07_SameTexts.f k t124 y136).bind fun t139 => (if t139 = true then (some (t125 == 0)) else (none))) = some r := by first | (rw [hy136]; with_reducible exact H) | (have H2_ := (Option.bind_some _ _).symm.trans H; rw [hy136]; with_reducible exact H2_) | (have H2_ := (Option.bind_some _ _).symm.trans H; with_reducible exact H2_) | with_reducible exact H | (rw [hy136]; exact H) | exact H
              have Ny136 := Aside0.mk hy136
              clear hy136
              replace H := Option.bind_eq_some_iff.mp H
              obtain ⟨t139, A130, H⟩ := H
              replace H : (if t139 = true then (some (t125 == 0)) else (none)) = some r := H
              have A13 := Aside0.mk A130
              clear A130
              by_cases c14 : t139 = true
              · subst c14
                have H1 : (some (t125 == 0)) = some r := by rw [if_pos rfl] at H; exact H
                clear H
                have H := H1
                clear H1
                obtain rfl := Option.some.inj H
                go_enter Tryz.func8, Tryz.ntmps8
                go_wp2_with (first | ((with_reducible refine gate_dst (N := 1) rfl ?_); (try (refine gate_guard (by rfl) ?_; dsimp only)); refine box_event ?hg (N := 1) ?hd (cs := #[.int .i64 0, .string (⟨#[]⟩ : ByteArray), .string (⟨#[]⟩ : ByteArray), .int .i64 0, .int .i64 0]) (t := 41) ?hr ?_; (case hd => rfl); (case hg => rfl); (case hr => first | (go_simp; done) | (go_simp; rfl) | (go_simp; simp only [isEmpty_ne, isEmpty_eq]; done) | (go_simp; simp only [isEmpty_ne, isEmpty_eq]; rfl)); intro gb101 hg w15 hbox hb; have n0_ := Aside0.mk (below_step (by repeat (first | (with_reducible first | exact HB.out | apply below_alloc | apply pw_below_drewN | apply below_drew1) | exact HB.out)) hb); have n1_ := Aside0.mk (hbox); have n2_ := Aside0.mk ((by rw [hg]; exact (below_size (by repeat (first | (with_reducible first | exact HB.out | apply below_alloc | apply pw_below_drewN | apply below_drew1) | exact HB.out))) : w.heap.size ≤ gb101)); have n3_ := Aside0.mk ((by rw [hg]; exact (below_size (by repeat (first | (with_reducible first | exact HB.out | apply below_alloc | apply pw_below_drewN | apply below_drew1) | exact HB.out))) : w.heap.size ≤ gb101)); clear HB; have HB := n0_; have BK101 := n1_; have GW101 := n2_; have GE101 := n3_; clear n0_ n1_ n2_ n3_; clear hb hbox hg; have hcz16_0 : w15.cell? ⟨gb101, 0, none⟩ = some (.int .i64 0) := (blk_cell BK101.out 0).trans rfl; have hcz16_1 : w15.cell? ⟨gb101, 1, none⟩ = some (.string (⟨#[]⟩ : ByteArray)) := (blk_cell BK101.out 1).trans rfl; have hcz16_2 : w15.cell? ⟨gb101, 2, none⟩ = some (.string (⟨#[]⟩ : ByteArray)) := (blk_cell BK101.out 2).trans rfl; have hcz16_3 : w15.cell? ⟨gb101, 3, none⟩ = some (.int .i64 0) := (blk_cell BK101.out 3).trans rfl; have hcz16_4 : w15.cell? ⟨gb101, 4, none⟩ = some (.int .i64 0) := (blk_cell BK101.out 4).trans rfl; have hfz16_0 := blk_frozen BK101.out 0; have hfz16_1 := blk_frozen BK101.out 1; have hfz16_2 := blk_frozen BK101.out 2; have hfz16_3 := blk_frozen BK101.out 3; have hfz16_4 := blk_frozen BK101.out 4) | ((with_reducible refine gate_dst (N := 16) rfl ?_); (try (refine gate_guard (by rfl) ?_; dsimp only)); refine Kd.R_lit k41 _ 41 ?hg (N := 16) ?hd (xs := ([(⟨1, (⟨#[97]⟩ : ByteArray), (⟨#[98]⟩ : ByteArray), 0, 0⟩ : S41), (⟨0, (⟨#[]⟩ : ByteArray), (⟨#[]⟩ : ByteArray), 0, 0⟩ : S41), (⟨1, (⟨#[97]⟩ : ByteArray), (⟨#[98]⟩ : ByteArray), 0, 0⟩ : S41)] : List (S41))) (inner := [.int .i64 1, .string (⟨#[97]⟩ : ByteArray), .string (⟨#[98]⟩ : ByteArray), .int .i64 0, .int .i64 0, .int .i64 0, .string (⟨#[]⟩ : ByteArray), .string (⟨#[]⟩ : ByteArray), .int .i64 0, .int .i64 0, .int .i64 1, .string (⟨#[97]⟩ : ByteArray), .string (⟨#[98]⟩ : ByteArray), .int .i64 0, .int .i64 0]) (ok := fun _ => True) (okp := fun _ => True) ?hr ?hp (fun _ hk => hk) trivial (Below.refl _ _) (Nat.le_refl _) (by simp) ?_; (case hd => rfl); (case hg => rfl); (case hr => first | (go_simp; done) | (go_simp; rfl) | (go_simp; simp only [isEmpty_ne, isEmpty_eq]; done) | (go_simp; simp only [isEmpty_ne, isEmpty_eq]; rfl)); (case hp => exact (Reps.c5 (show Kd.M k41 _ _ _ (⟨1, (⟨#[97]⟩ : ByteArray), (⟨#[98]⟩ : ByteArray), 0, 0⟩ : S41) [.int .i64 1, .string (⟨#[97]⟩ : ByteArray), .string (⟨#[98]⟩ : ByteArray), .int .i64 0, .int .i64 0] from (k41_mkM _ _ _ (⟨1, (⟨#[97]⟩ : ByteArray), (⟨#[98]⟩ : ByteArray), 0, 0⟩ : S41) )) (Reps.c5 (show Kd.M k41 _ _ _ (⟨0, (⟨#[]⟩ : ByteArray), (⟨#[]⟩ : ByteArray), 0, 0⟩ : S41) [.int .i64 0, .string (⟨#[]⟩ : ByteArray), .string (⟨#[]⟩ : ByteArray), .int .i64 0, .int .i64 0] from (k41_mkM _ _ _ (⟨0, (⟨#[]⟩ : ByteArray), (⟨#[]⟩ : ByteArray), 0, 0⟩ : S41) )) (Reps.c5 (show Kd.M k41 _ _ _ (⟨1, (⟨#[97]⟩ : ByteArray), (⟨#[98]⟩ : ByteArray), 0, 0⟩ : S41) [.int .i64 1, .string (⟨#[97]⟩ : ByteArray), .string (⟨#[98]⟩ : ByteArray), .int .i64 0, .int .i64 0] from (k41_mkM _ _ _ (⟨1, (⟨#[97]⟩ : ByteArray), (⟨#[98]⟩ : ByteArray), 0, 0⟩ : S41) )) (Reps.none _ _))))); intro v103 w17 ho18 hb hg_ hnew_; clear hg_ hnew_; (first | rw [← Ny102.out] at ho18 | (simp only [Int.reduceToNat] at ho18; rw [← Ny102.out] at ho18)); have n0_ := Aside0.mk (Kd.R_lower (Kd.R_newB ho18 (g := gb101) (o := .cells #[.int .i64 1, .string (⟨#[97]⟩ : ByteArray), .string (⟨#[98]⟩ : ByteArray), .int .i64 0, .int .i64 0] 41 (0, 0)) (by (with_reducible repeat (first | refine blk_drewN ?_ _ | refine blk_drew ?_ | refine blk_alloc ?_ _)); refine blk_put (cs := #[.int .i64 1, .string (⟨#[97]⟩ : ByteArray), .string (⟨#[98]⟩ : ByteArray), .int .i64 0, .int .i64 0]) ?_ 4 _ rfl; (with_reducible repeat (first | refine blk_drewN ?_ _ | refine blk_drew ?_ | refine blk_alloc ?_ _)); refine blk_put (cs := #[.int .i64 1, .string (⟨#[97]⟩ : ByteArray), .string (⟨#[98]⟩ : ByteArray), .int .i64 0, .int .i64 0]) ?_ 3 _ rfl; (with_reducible repeat (first | refine blk_drewN ?_ _ | refine blk_drew ?_ | refine blk_alloc ?_ _)); refine blk_put (cs := #[.int .i64 1, .string (⟨#[97]⟩ : ByteArray), .string (⟨#[]⟩ : ByteArray), .int .i64 0, .int .i64 0]) ?_ 2 _ rfl; (with_reducible repeat (first | refine blk_drewN ?_ _ | refine blk_drew ?_ | refine blk_alloc ?_ _)); refine blk_put (cs := #[.int .i64 1, .string (⟨#[]⟩ : ByteArray), .string (⟨#[]⟩ : ByteArray), .int .i64 0, .int .i64 0]) ?_ 1 _ rfl; (with_reducible repeat (first | refine blk_drewN ?_ _ | refine blk_drew ?_ | refine blk_alloc ?_ _)); refine blk_put (cs := #[.int .i64 0, .string (⟨#[]⟩ : ByteArray), .string (⟨#[]⟩ : ByteArray), .int .i64 0, .int .i64 0]) ?_ 0 _ rfl; (with_reducible repeat (first | refine blk_drewN ?_ _ | refine blk_drew ?_ | refine blk_alloc ?_ _)); exact BK101.out)) (below_size (by repeat (first | (with_reducible first | exact HB.out | apply below_alloc | apply pw_below_drewN | apply below_drew1 | refine below_set ?_ GE101.out) | exact HB.out)))); have n1_ := Aside0.mk (blk_below (g := gb101) (o := .cells #[.int .i64 1, .string (⟨#[97]⟩ : ByteArray), .string (⟨#[98]⟩ : ByteArray), .int .i64 0, .int .i64 0] 41 (0, 0)) (by (with_reducible repeat (first | refine blk_drewN ?_ _ | refine blk_drew ?_ | refine blk_alloc ?_ _)); refine blk_put (cs := #[.int .i64 1, .string (⟨#[97]⟩ : ByteArray), .string (⟨#[98]⟩ : ByteArray), .int .i64 0, .int .i64 0]) ?_ 4 _ rfl; (with_reducible repeat (first | refine blk_drewN ?_ _ | refine blk_drew ?_ | refine blk_alloc ?_ _)); refine blk_put (cs := #[.int .i64 1, .string (⟨#[97]⟩ : ByteArray), .string (⟨#[98]⟩ : ByteArray), .int .i64 0, .int .i64 0]) ?_ 3 _ rfl; (with_reducible repeat (first | refine blk_drewN ?_ _ | refine blk_drew ?_ | refine blk_alloc ?_ _)); refine blk_put (cs := #[.int .i64 1, .string (⟨#[97]⟩ : ByteArray), .string (⟨#[]⟩ : ByteArray), .int .i64 0, .int .i64 0]) ?_ 2 _ rfl; (with_reducible repeat (first | refine blk_drewN ?_ _ | refine blk_drew ?_ | refine blk_alloc ?_ _)); refine blk_put (cs := #[.int .i64 1, .string (⟨#[]⟩ : ByteArray), .string (⟨#[]⟩ : ByteArray), .int .i64 0, .int .i64 0]) ?_ 1 _ rfl; (with_reducible repeat (first | refine blk_drewN ?_ _ | refine blk_drew ?_ | refine blk_alloc ?_ _)); refine blk_put (cs := #[.int .i64 0, .string (⟨#[]⟩ : ByteArray), .string (⟨#[]⟩ : ByteArray), .int .i64 0, .int .i64 0]) ?_ 0 _ rfl; (with_reducible repeat (first | refine blk_drewN ?_ _ | refine blk_drew ?_ | refine blk_alloc ?_ _)); exact BK101.out) hb); have n2_ := Aside0.mk (below_step (by repeat (first | (with_reducible first | exact HB.out | apply below_alloc | apply pw_below_drewN | apply below_drew1 | refine below_set ?_ GE101.out) | exact HB.out)) hb); clear BK101; clear HB; have HO104 := n0_; have BK101 := n1_; have HB := n2_; clear n0_ n1_ n2_; clear hb ho18; obtain ⟨Ao19, co19, eo19⟩ := Kd.R_slice HO104.out; subst eo19) | ((with_reducible refine gate_callee (f := 12) rfl ?_); refine goesL_ (some 17) rfl rfl Tryz.func12 (by kernel_rfl) rfl #[.slice Ao19 y102.length co19] rfl (by (try simp only [List.map_toArray, List.map_cons, List.map_nil]); first | done | rfl | (simp only [List.length_drop, List.length_take]; rfl)) ?_; (with_reducible refine (dict_Build.calls _ _ y102 t105 t106 t107 _ ?side1 ?side2 ?side3 A1.out).mono ?_); (case side1 => repeat (first | exact (Kd.R_reads' HO104.out).2.2 | (with_reducible refine Kd.C_alloc ?_ _) | (with_reducible refine Kd.C_drewN ?_ _) | (with_reducible refine Kd.C_drew ?_))); (case side2 => exact (Kd.R_reads' HO104.out).2.1); (case side3 => exact LaidD.below HLD.out (by repeat (first | (with_reducible first | exact HB.out | apply below_alloc | apply pw_below_drewN | apply below_drew1 | refine below_set ?_ GE101.out) | exact HB.out))); rintro e w20 ⟨v108, rfl, ho0, hb⟩; refine ⟨_, rfl, ?_⟩; have n0_ := Aside0.mk (Kd.R_below (by (with_reducible repeat (first | apply Kd.R_alloc | apply Kd.R_drewN | apply Kd.R_drew)); exact HO104.out) hb); have n1_ := Aside0.mk (Kd.R_lower ho0 (below_size (by repeat (first | (with_reducible first | exact HB.out | apply below_alloc | apply pw_below_drewN | apply below_drew1 | refine below_set ?_ GE101.out) | exact HB.out)))); have n2_ := Aside0.mk (blk_below (g := gb101) (o := .cells #[.int .i64 1, .string (⟨#[97]⟩ : ByteArray), .string (⟨#[98]⟩ : ByteArray), .int .i64 0, .int .i64 0] 41 (0, 0)) (by (with_reducible repeat (first | refine blk_drewN ?_ _ | refine blk_drew ?_ | refine blk_alloc ?_ _)); exact BK101.out) hb); have n3_ := Aside0.mk (below_step (by repeat (first | (with_reducible first | exact HB.out | apply below_alloc | apply pw_below_drewN | apply below_drew1 | refine below_set ?_ GE101.out) | exact HB.out)) hb); clear HO104; clear BK101; clear HB; have HO104 := n0_; have HO109 := n1_; have BK101 := n2_; have HB := n3_; clear n0_ n1_ n2_ n3_; (try clear hb); (try clear hb2); (try clear hk); (try clear hi); (try clear ho0)) | ((with_reducible refine gate_dst (N := 22) rfl ?_); (try (refine gate_guard (by rfl) ?_; dsimp only)); refine Kd.R_lit (Kd.int .i64) _ 3 ?hg (N := 22) ?hd (xs := ([4, 7, 0, 0] : List Int)) (inner := [.int .i64 4, .int .i64 7, .int .i64 0, .int .i64 0]) (ok := fun _ => True) (okp := fun _ => True) ?hr ?hp (fun _ hk => hk) trivial (Below.refl _ _) (Nat.le_refl _) (by simp) ?_; (case hd => rfl); (case hg => rfl); (case hr => first | (go_simp; done) | (go_simp; rfl) | (go_simp; simp only [isEmpty_ne, isEmpty_eq]; done) | (go_simp; simp only [isEmpty_ne, isEmpty_eq]; rfl)); (case hp => exact (Reps.one (show Kd.M (Kd.int .i64) _ _ _ 4 [.int .i64 4] from rfl) (Reps.one (show Kd.M (Kd.int .i64) _ _ _ 7 [.int .i64 7] from rfl) (Reps.one (show Kd.M (Kd.int .i64) _ _ _ 0 [.int .i64 0] from rfl) (Reps.one (show Kd.M (Kd.int .i64) _ _ _ 0 [.int .i64 0] from rfl) (Reps.none _ _)))))); intro v111 w21 ho22 hb hg_ hnew_; clear hg_ hnew_; (first | rw [← Ny110.out] at ho22 | (simp only [Int.reduceToNat] at ho22; rw [← Ny110.out] at ho22)); have n0_ := Aside0.mk (Kd.R_below (by (with_reducible repeat (first | apply Kd.R_alloc | apply Kd.R_drewN | apply Kd.R_drew)); exact HO104.out) hb); have n1_ := Aside0.mk (Kd.R_elder' (by (with_reducible repeat (first | apply Kd.R_alloc | apply Kd.R_drewN | apply Kd.R_drew)); exact HO109.out) (Kd.R_base ho22) hb); have n2_ := Aside0.mk (Kd.R_lower (Kd.R_new' ho22 (Kd.R_lt (by (with_reducible repeat (first | apply Kd.R_alloc | apply Kd.R_drewN | apply Kd.R_drew)); exact HO109.out))) (below_size (by repeat (first | (with_reducible first | exact HB.out | apply below_alloc | apply pw_below_drewN | apply below_drew1 | refine below_set ?_ GE101.out) | exact HB.out)))); have n3_ := Aside0.mk (blk_below (g := gb101) (o := .cells #[.int .i64 1, .string (⟨#[97]⟩ : ByteArray), .string (⟨#[98]⟩ : ByteArray), .int .i64 0, .int .i64 0] 41 (0, 0)) (by (with_reducible repeat (first | refine blk_drewN ?_ _ | refine blk_drew ?_ | refine blk_alloc ?_ _)); exact BK101.out) hb); have n4_ := Aside0.mk (below_step (by repeat (first | (with_reducible first | exact HB.out | apply below_alloc | apply pw_below_drewN | apply below_drew1 | refine below_set ?_ GE101.out) | exact HB.out)) hb); clear HO104; clear HO109; clear BK101; clear HB; have HO104 := n0_; have HO109 := n1_; have HO112 := n2_; have BK101 := n3_; have HB := n4_; clear n0_ n1_ n2_ n3_ n4_; clear hb ho22; obtain ⟨Ao23, co23, eo23⟩ := Kd.R_slice HO112.out; subst eo23) | ((with_reducible refine gate_callee (f := 14) rfl ?_); refine goesL_ (some 23) rfl rfl Tryz.func14 (by kernel_rfl) rfl #[.string (⟨#[]⟩ : ByteArray), .slice Ao23 y110.length co23] rfl (by (try simp only [List.map_toArray, List.map_cons, List.map_nil]); first | done | rfl | (simp only [List.length_drop, List.length_take]; rfl)) ?_; (with_reducible refine (dict_Read.calls (⟨#[]⟩ : ByteArray) _ _ y110 t113 t114 _ ?side1 ?side2 ?side3 A2.out).mono ?_); (case side1 => repeat (first | exact (Kd.R_reads' HO112.out).2.2 | (with_reducible refine Kd.C_alloc ?_ _) | (with_reducible refine Kd.C_drewN ?_ _) | (with_reducible refine Kd.C_drew ?_))); (case side2 => exact (Kd.R_reads' HO112.out).2.1); (case side3 => exact LaidD.below HLD.out (by repeat (first | (with_reducible first | exact HB.out | apply below_alloc | apply pw_below_drewN | apply below_drew1 | refine below_set ?_ GE101.out) | exact HB.out))); rintro e w24 ⟨v115, rfl, ho0, hb⟩; refine ⟨_, rfl, ?_⟩; have n0_ := Aside0.mk (Kd.R_elder' (by (with_reducible repeat (first | apply Kd.R_alloc | apply Kd.R_drewN | apply Kd.R_drew)); exact HO104.out) (Kd.R_base ho0) hb); have n1_ := Aside0.mk (Kd.R_below (by (with_reducible repeat (first | apply Kd.R_alloc | apply Kd.R_drewN | apply Kd.R_drew)); exact HO109.out) hb); have n2_ := Aside0.mk (Kd.R_below (by (with_reducible repeat (first | apply Kd.R_alloc | apply Kd.R_drewN | apply Kd.R_drew)); exact HO112.out) hb); have n3_ := Aside0.mk (Kd.R_lower (Kd.R_newB (Kd.R_new' ho0 (Kd.R_lt (by (with_reducible repeat (first | apply Kd.R_alloc | apply Kd.R_drewN | apply Kd.R_drew)); exact HO104.out))) (g := gb101) (o := .cells #[.int .i64 1, .string (⟨#[97]⟩ : ByteArray), .string (⟨#[98]⟩ : ByteArray), .int .i64 0, .int .i64 0] 41 (0, 0)) (by (with_reducible repeat (first | refine blk_drewN ?_ _ | refine blk_drew ?_ | refine blk_alloc ?_ _)); exact BK101.out)) (below_size (by repeat (first | (with_reducible first | exact HB.out | apply below_alloc | apply pw_below_drewN | apply below_drew1 | refine below_set ?_ GE101.out) | exact HB.out)))); have n4_ := Aside0.mk (blk_below (g := gb101) (o := .cells #[.int .i64 1, .string (⟨#[97]⟩ : ByteArray), .string (⟨#[98]⟩ : ByteArray), .int .i64 0, .int .i64 0] 41 (0, 0)) (by (with_reducible repeat (first | refine blk_drewN ?_ _ | refine blk_drew ?_ | refine blk_alloc ?_ _)); exact BK101.out) hb); have n5_ := Aside0.mk (below_step (by repeat (first | (with_reducible first | exact HB.out | apply below_alloc | apply pw_below_drewN | apply below_drew1 | refine below_set ?_ GE101.out) | exact HB.out)) hb); clear HO104; clear HO109; clear HO112; clear BK101; clear HB; have HO104 := n0_; have HO109 := n1_; have HO112 := n2_; have HO116 := n3_; have BK101 := n4_; have HB := n5_; clear n0_ n1_ n2_ n3_ n4_ n5_; (try clear hb); (try clear hb2); (try clear hk); (try clear hi); (try clear ho0)) | ((with_reducible refine gate_dst (N := 27) rfl ?_); (try (refine gate_guard (by rfl) ?_; dsimp only)); refine Kd.R_lit (Kd.int .i64) _ 3 ?hg (N := 27) ?hd (xs := ([0, 7] : List Int)) (inner := [.int .i64 0, .int .i64 7]) (ok := fun _ => True) (okp := fun _ => True) ?hr ?hp (fun _ hk => hk) trivial (Below.refl _ _) (Nat.le_refl _) (by simp) ?_; (case hd => rfl); (case hg => rfl); (case hr => first | (go_simp; done) | (go_simp; rfl) | (go_simp; simp only [isEmpty_ne, isEmpty_eq]; done) | (go_simp; simp only [isEmpty_ne, isEmpty_eq]; rfl)); (case hp => exact (Reps.one (show Kd.M (Kd.int .i64) _ _ _ 0 [.int .i64 0] from rfl) (Reps.one (show Kd.M (Kd.int .i64) _ _ _ 7 [.int .i64 7] from rfl) (Reps.none _ _)))); intro v118 w25 ho26 hb hg_ hnew_; clear hg_ hnew_; (first | rw [← Ny117.out] at ho26 | (simp only [Int.reduceToNat] at ho26; rw [← Ny117.out] at ho26)); have n0_ := Aside0.mk (Kd.R_below (by (with_reducible repeat (first | apply Kd.R_alloc | apply Kd.R_drewN | apply Kd.R_drew)); exact HO104.out) hb); have n1_ := Aside0.mk (Kd.R_elder' (by (with_reducible repeat (first | apply Kd.R_alloc | apply Kd.R_drewN | apply Kd.R_drew)); exact HO109.out) (Kd.R_base ho26) hb); have n2_ := Aside0.mk (Kd.R_elder' (by (with_reducible repeat (first | apply Kd.R_alloc | apply Kd.R_drewN | apply Kd.R_drew)); exact HO112.out) (Kd.R_base ho26) hb); have n3_ := Aside0.mk (Kd.R_below (by (with_reducible repeat (first | apply Kd.R_alloc | apply Kd.R_drewN | apply Kd.R_drew)); exact HO116.out) hb); have n4_ := Aside0.mk (Kd.R_lower (Kd.R_new' (Kd.R_new' ho26 (Kd.R_lt (by (with_reducible repeat (first | apply Kd.R_alloc | apply Kd.R_drewN | apply Kd.R_drew)); exact HO109.out))) (Kd.R_lt (by (with_reducible repeat (first | apply Kd.R_alloc | apply Kd.R_drewN | apply Kd.R_drew)); exact HO112.out))) (below_size (by repeat (first | (with_reducible first | exact HB.out | apply below_alloc | apply pw_below_drewN | apply below_drew1 | refine below_set ?_ GE101.out) | exact HB.out)))); have n5_ := Aside0.mk (blk_below (g := gb101) (o := .cells #[.int .i64 1, .string (⟨#[97]⟩ : ByteArray), .string (⟨#[98]⟩ : ByteArray), .int .i64 0, .int .i64 0] 41 (0, 0)) (by (with_reducible repeat (first | refine blk_drewN ?_ _ | refine blk_drew ?_ | refine blk_alloc ?_ _)); exact BK101.out) hb); have n6_ := Aside0.mk (below_step (by repeat (first | (with_reducible first | exact HB.out | apply below_alloc | apply pw_below_drewN | apply below_drew1 | refine below_set ?_ GE101.out) | exact HB.out)) hb); clear HO104; clear HO109; clear HO112; clear HO116; clear BK101; clear HB; have HO104 := n0_; have HO109 := n1_; have HO112 := n2_; have HO116 := n3_; have HO119 := n4_; have BK101 := n5_; have HB := n6_; clear n0_ n1_ n2_ n3_ n4_ n5_ n6_; clear hb ho26; obtain ⟨Ao27, co27, eo27⟩ := Kd.R_slice HO119.out; subst eo27) | ((with_reducible refine gate_callee (f := 14) rfl ?_); refine goesL_ (some 28) rfl rfl Tryz.func14 (by kernel_rfl) rfl #[.string (⟨#[]⟩ : ByteArray), .slice Ao27 y117.length co27] rfl (by (try simp only [List.map_toArray, List.map_cons, List.map_nil]); first | done | rfl | (simp only [List.length_drop, List.length_take]; rfl)) ?_; (with_reducible refine (dict_Read.calls (⟨#[]⟩ : ByteArray) _ _ y117 t120 t121 _ ?side1 ?side2 ?side3 A3.out).mono ?_); (case side1 => repeat (first | exact (Kd.R_reads' HO119.out).2.2 | (with_reducible refine Kd.C_alloc ?_ _) | (with_reducible refine Kd.C_drewN ?_ _) | (with_reducible refine Kd.C_drew ?_))); (case side2 => exact (Kd.R_reads' HO119.out).2.1); (case side3 => exact LaidD.below HLD.out (by repeat (first | (with_reducible first | exact HB.out | apply below_alloc | apply pw_below_drewN | apply below_drew1 | refine below_set ?_ GE101.out) | exact HB.out))); rintro e w28 ⟨v122, rfl, ho0, hb⟩; refine ⟨_, rfl, ?_⟩; have n0_ := Aside0.mk (Kd.R_elder' (by (with_reducible repeat (first | apply Kd.R_alloc | apply Kd.R_drewN | apply Kd.R_drew)); exact HO104.out) (Kd.R_base ho0) hb); have n1_ := Aside0.mk (Kd.R_below (by (with_reducible repeat (first | apply Kd.R_alloc | apply Kd.R_drewN | apply Kd.R_drew)); exact HO109.out) hb); have n2_ := Aside0.mk (Kd.R_below (by (with_reducible repeat (first | apply Kd.R_alloc | apply Kd.R_drewN | apply Kd.R_drew)); exact HO112.out) hb); have n3_ := Aside0.mk (Kd.R_elder' (by (with_reducible repeat (first | apply Kd.R_alloc | apply Kd.R_drewN | apply Kd.R_drew)); exact HO116.out) (Kd.R_base ho0) hb); have n4_ := Aside0.mk (Kd.R_below (by (with_reducible repeat (first | apply Kd.R_alloc | apply Kd.R_drewN | apply Kd.R_drew)); exact HO119.out) hb); have n5_ := Aside0.mk (Kd.R_lower (Kd.R_newB (Kd.R_new' (Kd.R_new' ho0 (Kd.R_lt (by (with_reducible repeat (first | apply Kd.R_alloc | apply Kd.R_drewN | apply Kd.R_drew)); exact HO104.out))) (Kd.R_lt (by (with_reducible repeat (first | apply Kd.R_alloc | apply Kd.R_drewN | apply Kd.R_drew)); exact HO116.out))) (g := gb101) (o := .cells #[.int .i64 1, .string (⟨#[97]⟩ : ByteArray), .string (⟨#[98]⟩ : ByteArray), .int .i64 0, .int .i64 0] 41 (0, 0)) (by (with_reducible repeat (first | refine blk_drewN ?_ _ | refine blk_drew ?_ | refine blk_alloc ?_ _)); exact BK101.out)) (below_size (by repeat (first | (with_reducible first | exact HB.out | apply below_alloc | apply pw_below_drewN | apply below_drew1 | refine below_set ?_ GE101.out) | exact HB.out)))); have n6_ := Aside0.mk (blk_below (g := gb101) (o := .cells #[.int .i64 1, .string (⟨#[97]⟩ : ByteArray), .string (⟨#[98]⟩ : ByteArray), .int .i64 0, .int .i64 0] 41 (0, 0)) (by (with_reducible repeat (first | refine blk_drewN ?_ _ | refine blk_drew ?_ | refine blk_alloc ?_ _)); exact BK101.out) hb); have n7_ := Aside0.mk (below_step (by repeat (first | (with_reducible first | exact HB.out | apply below_alloc | apply pw_below_drewN | apply below_drew1 | refine below_set ?_ GE101.out) | exact HB.out)) hb); clear HO104; clear HO109; clear HO112; clear HO116; clear HO119; clear BK101; clear HB; have HO104 := n0_; have HO109 := n1_; have HO112 := n2_; have HO116 := n3_; have HO119 := n4_; have HO123 := n5_; have BK101 := n6_; have HB := n7_; clear n0_ n1_ n2_ n3_ n4_ n5_ n6_ n7_; (try clear hb); (try clear hb2); (try clear hk); (try clear hi); (try clear ho0)) | ((with_reducible refine gate_callee (f := 16) rfl ?_); refine goesL_ (some 33) rfl rfl Tryz.func16 (by kernel_rfl) rfl #[.string t105] rfl (by (try simp only [List.map_toArray, List.map_cons, List.map_nil]); first | done | rfl | (simp only [List.length_drop, List.length_take]; rfl)) ?_; (with_reducible refine (dict_Texts.calls t105 t124 t125 _ ?side1 A4.out).mono ?_); (case side1 => exact LaidD.below HLD.out (by repeat (first | (with_reducible first | exact HB.out | apply below_alloc | apply pw_below_drewN | apply below_drew1 | refine below_set ?_ GE101.out) | exact HB.out))); rintro e w29 ⟨v126, rfl, ho0, hb⟩; refine ⟨_, rfl, ?_⟩; have n0_ := Aside0.mk (Kd.R_below (by (with_reducible repeat (first | apply Kd.R_alloc | apply Kd.R_drewN | apply Kd.R_drew)); exact HO104.out) hb); have n1_ := Aside0.mk (Kd.R_below (by (with_reducible repeat (first | apply Kd.R_alloc | apply Kd.R_drewN | apply Kd.R_drew)); exact HO109.out) hb); have n2_ := Aside0.mk (Kd.R_below (by (with_reducible repeat (first | apply Kd.R_alloc | apply Kd.R_drewN | apply Kd.R_drew)); exact HO112.out) hb); have n3_ := Aside0.mk (Kd.R_below (by (with_reducible repeat (first | apply Kd.R_alloc | apply Kd.R_drewN | apply Kd.R_drew)); exact HO116.out) hb); have n4_ := Aside0.mk (Kd.R_below (by (with_reducible repeat (first | apply Kd.R_alloc | apply Kd.R_drewN | apply Kd.R_drew)); exact HO119.out) hb); have n5_ := Aside0.mk (Kd.R_below (by (with_reducible repeat (first | apply Kd.R_alloc | apply Kd.R_drewN | apply Kd.R_drew)); exact HO123.out) hb); have n6_ := Aside0.mk (Kd.R_lower ho0 (below_size (by repeat (first | (with_reducible first | exact HB.out | apply below_alloc | apply pw_below_drewN | apply below_drew1 | refine below_set ?_ GE101.out) | exact HB.out)))); have n7_ := Aside0.mk (blk_below (g := gb101) (o := .cells #[.int .i64 1, .string (⟨#[97]⟩ : ByteArray), .string (⟨#[98]⟩ : ByteArray), .int .i64 0, .int .i64 0] 41 (0, 0)) (by (with_reducible repeat (first | refine blk_drewN ?_ _ | refine blk_drew ?_ | refine blk_alloc ?_ _)); exact BK101.out) hb); have n8_ := Aside0.mk (below_step (by repeat (first | (with_reducible first | exact HB.out | apply below_alloc | apply pw_below_drewN | apply below_drew1 | refine below_set ?_ GE101.out) | exact HB.out)) hb); clear HO104; clear HO109; clear HO112; clear HO116; clear HO119; clear HO123; clear BK101; clear HB; have HO104 := n0_; have HO109 := n1_; have HO112 := n2_; have HO116 := n3_; have HO119 := n4_; have HO123 := n5_; have HO127 := n6_; have BK101 := n7_; have HB := n8_; clear n0_ n1_ n2_ n3_ n4_ n5_ n6_ n7_ n8_; (try clear hb); (try clear hb2); (try clear hk); (try clear hi); (try clear ho0)) | ((with_reducible refine gate_dst (N := 40) rfl ?_); (try (refine gate_guard (by rfl) ?_; dsimp only)); refine Kd.R_lit (Kd.int .i64) _ 3 ?hg (N := 40) ?hd (xs := ([0, 4, 0, 10, 0, 4] : List Int)) (inner := [.int .i64 0, .int .i64 4, .int .i64 0, .int .i64 10, .int .i64 0, .int .i64 4]) (ok := fun _ => True) (okp := fun _ => True) ?hr ?hp (fun _ hk => hk) trivial (Below.refl _ _) (Nat.le_refl _) (by simp) ?_; (case hd => rfl); (case hg => rfl); (case hr => first | (go_simp; done) | (go_simp; rfl) | (go_simp; simp only [isEmpty_ne, isEmpty_eq]; done) | (go_simp; simp only [isEmpty_ne, isEmpty_eq]; rfl)); (case hp => exact (Reps.one (show Kd.M (Kd.int .i64) _ _ _ 0 [.int .i64 0] from rfl) (Reps.one (show Kd.M (Kd.int .i64) _ _ _ 4 [.int .i64 4] from rfl) (Reps.one (show Kd.M (Kd.int .i64) _ _ _ 0 [.int .i64 0] from rfl) (Reps.one (show Kd.M (Kd.int .i64) _ _ _ 10 [.int .i64 10] from rfl) (Reps.one (show Kd.M (Kd.int .i64) _ _ _ 0 [.int .i64 0] from rfl) (Reps.one (show Kd.M (Kd.int .i64) _ _ _ 4 [.int .i64 4] from rfl) (Reps.none _ _)))))))); intro v129 w30 ho31 hb hg_ hnew_; clear hg_ hnew_; (first | rw [← Ny128.out] at ho31 | (simp only [Int.reduceToNat] at ho31; rw [← Ny128.out] at ho31)); have n0_ := Aside0.mk (Kd.R_below (by (with_reducible repeat (first | apply Kd.R_alloc | apply Kd.R_drewN | apply Kd.R_drew)); exact HO104.out) hb); have n1_ := Aside0.mk (Kd.R_elder' (by (with_reducible repeat (first | apply Kd.R_alloc | apply Kd.R_drewN | apply Kd.R_drew)); exact HO109.out) (Kd.R_base ho31) hb); have n2_ := Aside0.mk (Kd.R_elder' (by (with_reducible repeat (first | apply Kd.R_alloc | apply Kd.R_drewN | apply Kd.R_drew)); exact HO112.out) (Kd.R_base ho31) hb); have n3_ := Aside0.mk (Kd.R_below (by (with_reducible repeat (first | apply Kd.R_alloc | apply Kd.R_drewN | apply Kd.R_drew)); exact HO116.out) hb); have n4_ := Aside0.mk (Kd.R_elder' (by (with_reducible repeat (first | apply Kd.R_alloc | apply Kd.R_drewN | apply Kd.R_drew)); exact HO119.out) (Kd.R_base ho31) hb); have n5_ := Aside0.mk (Kd.R_below (by (with_reducible repeat (first | apply Kd.R_alloc | apply Kd.R_drewN | apply Kd.R_drew)); exact HO123.out) hb); have n6_ := Aside0.mk (Kd.R_below (by (with_reducible repeat (first | apply Kd.R_alloc | apply Kd.R_drewN | apply Kd.R_drew)); exact HO127.out) hb); have n7_ := Aside0.mk (Kd.R_lower (Kd.R_new' (Kd.R_new' (Kd.R_new' ho31 (Kd.R_lt (by (with_reducible repeat (first | apply Kd.R_alloc | apply Kd.R_drewN | apply Kd.R_drew)); exact HO109.out))) (Kd.R_lt (by (with_reducible repeat (first | apply Kd.R_alloc | apply Kd.R_drewN | apply Kd.R_drew)); exact HO112.out))) (Kd.R_lt (by (with_reducible repeat (first | apply Kd.R_alloc | apply Kd.R_drewN | apply Kd.R_drew)); exact HO119.out))) (below_size (by repeat (first | (with_reducible first | exact HB.out | apply below_alloc | apply pw_below_drewN | apply below_drew1 | refine below_set ?_ GE101.out) | exact HB.out)))); have n8_ := Aside0.mk (blk_below (g := gb101) (o := .cells #[.int .i64 1, .string (⟨#[97]⟩ : ByteArray), .string (⟨#[98]⟩ : ByteArray), .int .i64 0, .int .i64 0] 41 (0, 0)) (by (with_reducible repeat (first | refine blk_drewN ?_ _ | refine blk_drew ?_ | refine blk_alloc ?_ _)); exact BK101.out) hb); have n9_ := Aside0.mk (below_step (by repeat (first | (with_reducible first | exact HB.out | apply below_alloc | apply pw_below_drewN | apply below_drew1 | refine below_set ?_ GE101.out) | exact HB.out)) hb); clear HO104; clear HO109; clear HO112; clear HO116; clear HO119; clear HO123; clear HO127; clear BK101; clear HB; have HO104 := n0_; have HO109 := n1_; have HO112 := n2_; have HO116 := n3_; have HO119 := n4_; have HO123 := n5_; have HO127 := n6_; have HO130 := n7_; have BK101 := n8_; have HB := n9_; clear n0_ n1_ n2_ n3_ n4_ n5_ n6_ n7_ n8_ n9_; clear hb ho31; obtain ⟨Ao32, co32, eo32⟩ := Kd.R_slice HO109.out; subst eo32; obtain ⟨Ao33, co33, eo33⟩ := Kd.R_slice HO130.out; subst eo33) | (go_at_call 18; (with_reducible refine (postriderref02_Ints.calls k _ _ t106 _ _ y128 true _ ?side1 ?side2 ?side3 ?side4 A6.out).mono ?_); (case side1 => repeat (first | exact (Kd.R_reads' HO109.out).2.2 | (with_reducible refine Kd.C_alloc ?_ _) | (with_reducible refine Kd.C_drewN ?_ _) | (with_reducible refine Kd.C_drew ?_))); (case side2 => exact (Kd.R_reads' HO109.out).2.1); (case side3 => repeat (first | exact (Kd.R_reads' HO130.out).2.2 | (with_reducible refine Kd.C_alloc ?_ _) | (with_reducible refine Kd.C_drewN ?_ _) | (with_reducible refine Kd.C_drew ?_))); (case side4 => exact (Kd.R_reads' HO130.out).2.1); rintro e w' ⟨rfl, ⟨nd, rfl⟩⟩) | ((with_reducible refine gate_dst (N := 51) rfl ?_); (try (refine gate_guard (by rfl) ?_; dsimp only)); refine Kd.R_lit k41 _ 41 ?hg (N := 51) ?hd (xs := ([(⟨2, (⟨#[]⟩ : ByteArray), (⟨#[]⟩ : ByteArray), 4, 7⟩ : S41), (⟨0, (⟨#[]⟩ : ByteArray), (⟨#[]⟩ : ByteArray), 0, 0⟩ : S41)] : List (S41))) (inner := [.int .i64 2, .string (⟨#[]⟩ : ByteArray), .string (⟨#[]⟩ : ByteArray), .int .i64 4, .int .i64 7, .int .i64 0, .string (⟨#[]⟩ : ByteArray), .string (⟨#[]⟩ : ByteArray), .int .i64 0, .int .i64 0]) (ok := fun _ => True) (okp := fun _ => True) ?hr ?hp (fun _ hk => hk) trivial (Below.refl _ _) (Nat.le_refl _) (by simp) ?_; (case hd => rfl); (case hg => rfl); (case hr => first | (go_simp; done) | (go_simp; rfl) | (go_simp; simp only [isEmpty_ne, isEmpty_eq]; done) | (go_simp; simp only [isEmpty_ne, isEmpty_eq]; rfl)); (case hp => exact (Reps.c5 (show Kd.M k41 _ _ _ (⟨2, (⟨#[]⟩ : ByteArray), (⟨#[]⟩ : ByteArray), 4, 7⟩ : S41) [.int .i64 2, .string (⟨#[]⟩ : ByteArray), .string (⟨#[]⟩ : ByteArray), .int .i64 4, .int .i64 7] from (k41_mkM _ _ _ (⟨2, (⟨#[]⟩ : ByteArray), (⟨#[]⟩ : ByteArray), 4, 7⟩ : S41) )) (Reps.c5 (show Kd.M k41 _ _ _ (⟨0, (⟨#[]⟩ : ByteArray), (⟨#[]⟩ : ByteArray), 0, 0⟩ : S41) [.int .i64 0, .string (⟨#[]⟩ : ByteArray), .string (⟨#[]⟩ : ByteArray), .int .i64 0, .int .i64 0] from (k41_mkM _ _ _ (⟨0, (⟨#[]⟩ : ByteArray), (⟨#[]⟩ : ByteArray), 0, 0⟩ : S41) )) (Reps.none _ _)))); intro v133 w34 ho35 hb hg_ hnew_; clear hg_ hnew_; (first | rw [← Ny132.out] at ho35 | (simp only [Int.reduceToNat] at ho35; rw [← Ny132.out] at ho35)); have n0_ := Aside0.mk (Kd.R_elder' (by (with_reducible repeat (first | apply Kd.R_alloc | apply Kd.R_drewN | apply Kd.R_drew)); exact HO104.out) (Kd.R_base ho35) hb); have n1_ := Aside0.mk (Kd.R_below (by (with_reducible repeat (first | apply Kd.R_alloc | apply Kd.R_drewN | apply Kd.R_drew)); exact HO109.out) hb); have n2_ := Aside0.mk (Kd.R_below (by (with_reducible repeat (first | apply Kd.R_alloc | apply Kd.R_drewN | apply Kd.R_drew)); exact HO112.out) hb); have n3_ := Aside0.mk (Kd.R_elder' (by (with_reducible repeat (first | apply Kd.R_alloc | apply Kd.R_drewN | apply Kd.R_drew)); exact HO116.out) (Kd.R_base ho35) hb); have n4_ := Aside0.mk (Kd.R_below (by (with_reducible repeat (first | apply Kd.R_alloc | apply Kd.R_drewN | apply Kd.R_drew)); exact HO119.out) hb); have n5_ := Aside0.mk (Kd.R_elder' (by (with_reducible repeat (first | apply Kd.R_alloc | apply Kd.R_drewN | apply Kd.R_drew)); exact HO123.out) (Kd.R_base ho35) hb); have n6_ := Aside0.mk (Kd.R_below (by (with_reducible repeat (first | apply Kd.R_alloc | apply Kd.R_drewN | apply Kd.R_drew)); exact HO127.out) hb); have n7_ := Aside0.mk (Kd.R_below (by (with_reducible repeat (first | apply Kd.R_alloc | apply Kd.R_drewN | apply Kd.R_drew)); exact HO130.out) hb); have n8_ := Aside0.mk (Kd.R_lower (Kd.R_newB (Kd.R_new' (Kd.R_new' (Kd.R_new' ho35 (Kd.R_lt (by (with_reducible repeat (first | apply Kd.R_alloc | apply Kd.R_drewN | apply Kd.R_drew)); exact HO104.out))) (Kd.R_lt (by (with_reducible repeat (first | apply Kd.R_alloc | apply Kd.R_drewN | apply Kd.R_drew)); exact HO116.out))) (Kd.R_lt (by (with_reducible repeat (first | apply Kd.R_alloc | apply Kd.R_drewN | apply Kd.R_drew)); exact HO123.out))) (g := gb101) (o := .cells #[.int .i64 1, .string (⟨#[97]⟩ : ByteArray), .string (⟨#[98]⟩ : ByteArray), .int .i64 0, .int .i64 0] 41 (0, 0)) (by (with_reducible repeat (first | refine blk_drewN ?_ _ | refine blk_drew ?_ | refine blk_alloc ?_ _)); exact BK101.out)) (below_size (by repeat (first | (with_reducible first | exact HB.out | apply below_alloc | apply pw_below_drewN | apply below_drew1 | refine below_set ?_ GE101.out) | exact HB.out)))); have n9_ := Aside0.mk (blk_below (g := gb101) (o := .cells #[.int .i64 1, .string (⟨#[97]⟩ : ByteArray), .string (⟨#[98]⟩ : ByteArray), .int .i64 0, .int .i64 0] 41 (0, 0)) (by (with_reducible repeat (first | refine blk_drewN ?_ _ | refine blk_drew ?_ | refine blk_alloc ?_ _)); exact BK101.out) hb); have n10_ := Aside0.mk (below_step (by repeat (first | (with_reducible first | exact HB.out | apply below_alloc | apply pw_below_drewN | apply below_drew1 | refine below_set ?_ GE101.out) | exact HB.out)) hb); clear HO104; clear HO109; clear HO112; clear HO116; clear HO119; clear HO123; clear HO127; clear HO130; clear BK101; clear HB; have HO104 := n0_; have HO109 := n1_; have HO112 := n2_; have HO116 := n3_; have HO119 := n4_; have HO123 := n5_; have HO127 := n6_; have HO130 := n7_; have HO134 := n8_; have BK101 := n9_; have HB := n10_; clear n0_ n1_ n2_ n3_ n4_ n5_ n6_ n7_ n8_ n9_ n10_; clear hb ho35; obtain ⟨Ao36, co36, eo36⟩ := Kd.R_slice HO116.out; subst eo36; obtain ⟨Ao37, co37, eo37⟩ := Kd.R_slice HO134.out; subst eo37) | (go_at_call 19; (with_reducible refine (postriderref06_Same.calls k _ _ t113 _ _ y132 true _ ?side1 ?side2 ?side3 ?side4 A9.out).mono ?_); (case side1 => repeat (first | exact (Kd.R_reads' HO116.out).2.2 | (with_reducible refine Kd.C_alloc ?_ _) | (with_reducible refine Kd.C_drewN ?_ _) | (with_reducible refine Kd.C_drew ?_))); (case side2 => exact (Kd.R_reads' HO116.out).2.1); (case side3 => repeat (first | exact (Kd.R_reads' HO134.out).2.2 | (with_reducible refine Kd.C_alloc ?_ _) | (with_reducible refine Kd.C_drewN ?_ _) | (with_reducible refine Kd.C_drew ?_))); (case side4 => exact (Kd.R_reads' HO134.out).2.1); rintro e w' ⟨rfl, ⟨nd, rfl⟩⟩) | ((with_reducible refine gate_dst (N := 64) rfl ?_); (try (refine gate_guard (by rfl) ?_; dsimp only)); refine Kd.R_lit Kd.string _ 9 ?hg (N := 64) ?hd (xs := ([(⟨#[100, 116, 110]⟩ : ByteArray), (⟨#[47, 47, 97, 47, 98]⟩ : ByteArray), (⟨#[110, 111, 110, 101]⟩ : ByteArray)] : List ByteArray)) (inner := [.string (⟨#[100, 116, 110]⟩ : ByteArray), .string (⟨#[47, 47, 97, 47, 98]⟩ : ByteArray), .string (⟨#[110, 111, 110, 101]⟩ : ByteArray)]) (ok := fun _ => True) (okp := fun _ => True) ?hr ?hp (fun _ hk => hk) trivial (Below.refl _ _) (Nat.le_refl _) (by simp) ?_; (case hd => rfl); (case hg => rfl); (case hr => first | (go_simp; done) | (go_simp; rfl) | (go_simp; simp only [isEmpty_ne, isEmpty_eq]; done) | (go_simp; simp only [isEmpty_ne, isEmpty_eq]; rfl)); (case hp => exact (Reps.one (show Kd.M Kd.string _ _ _ (⟨#[100, 116, 110]⟩ : ByteArray) [.string (⟨#[100, 116, 110]⟩ : ByteArray)] from rfl) (Reps.one (show Kd.M Kd.string _ _ _ (⟨#[47, 47, 97, 47, 98]⟩ : ByteArray) [.string (⟨#[47, 47, 97, 47, 98]⟩ : ByteArray)] from rfl) (Reps.one (show Kd.M Kd.string _ _ _ (⟨#[110, 111, 110, 101]⟩ : ByteArray) [.string (⟨#[110, 111, 110, 101]⟩ : ByteArray)] from rfl) (Reps.none _ _))))); intro v137 w38 ho39 hb hg_ hnew_; clear hg_ hnew_; (first | rw [← Ny136.out] at ho39 | (simp only [Int.reduceToNat] at ho39; rw [← Ny136.out] at ho39)); have n0_ := Aside0.mk (Kd.R_below (by (with_reducible repeat (first | apply Kd.R_alloc | apply Kd.R_drewN | apply Kd.R_drew)); exact HO104.out) hb); have n1_ := Aside0.mk (Kd.R_below (by (with_reducible repeat (first | apply Kd.R_alloc | apply Kd.R_drewN | apply Kd.R_drew)); exact HO109.out) hb); have n2_ := Aside0.mk (Kd.R_below (by (with_reducible repeat (first | apply Kd.R_alloc | apply Kd.R_drewN | apply Kd.R_drew)); exact HO112.out) hb); have n3_ := Aside0.mk (Kd.R_below (by (with_reducible repeat (first | apply Kd.R_alloc | apply Kd.R_drewN | apply Kd.R_drew)); exact HO116.out) hb); have n4_ := Aside0.mk (Kd.R_below (by (with_reducible repeat (first | apply Kd.R_alloc | apply Kd.R_drewN | apply Kd.R_drew)); exact HO119.out) hb); have n5_ := Aside0.mk (Kd.R_below (by (with_reducible repeat (first | apply Kd.R_alloc | apply Kd.R_drewN | apply Kd.R_drew)); exact HO123.out) hb); have n6_ := Aside0.mk (Kd.R_elder' (by (with_reducible repeat (first | apply Kd.R_alloc | apply Kd.R_drewN | apply Kd.R_drew)); exact HO127.out) (Kd.R_base ho39) hb); have n7_ := Aside0.mk (Kd.R_below (by (with_reducible repeat (first | apply Kd.R_alloc | apply Kd.R_drewN | apply Kd.R_drew)); exact HO130.out) hb); have n8_ := Aside0.mk (Kd.R_below (by (with_reducible repeat (first | apply Kd.R_alloc | apply Kd.R_drewN | apply Kd.R_drew)); exact HO134.out) hb); have n9_ := Aside0.mk (Kd.R_lower (Kd.R_new' ho39 (Kd.R_lt (by (with_reducible repeat (first | apply Kd.R_alloc | apply Kd.R_drewN | apply Kd.R_drew)); exact HO127.out))) (below_size (by repeat (first | (with_reducible first | exact HB.out | apply below_alloc | apply pw_below_drewN | apply below_drew1 | refine below_set ?_ GE101.out) | exact HB.out)))); have n10_ := Aside0.mk (blk_below (g := gb101) (o := .cells #[.int .i64 1, .string (⟨#[97]⟩ : ByteArray), .string (⟨#[98]⟩ : ByteArray), .int .i64 0, .int .i64 0] 41 (0, 0)) (by (with_reducible repeat (first | refine blk_drewN ?_ _ | refine blk_drew ?_ | refine blk_alloc ?_ _)); exact BK101.out) hb); have n11_ := Aside0.mk (below_step (by repeat (first | (with_reducible first | exact HB.out | apply below_alloc | apply pw_below_drewN | apply below_drew1 | refine below_set ?_ GE101.out) | exact HB.out)) hb); clear HO104; clear HO109; clear HO112; clear HO116; clear HO119; clear HO123; clear HO127; clear HO130; clear HO134; clear BK101; clear HB; have HO104 := n0_; have HO109 := n1_; have HO112 := n2_; have HO116 := n3_; have HO119 := n4_; have HO123 := n5_; have HO127 := n6_; have HO130 := n7_; have HO134 := n8_; have HO138 := n9_; have BK101 := n10_; have HB := n11_; clear n0_ n1_ n2_ n3_ n4_ n5_ n6_ n7_ n8_ n9_ n10_ n11_; clear hb ho39; obtain ⟨Ao40, co40, eo40⟩ := Kd.R_slice HO127.out; subst eo40; obtain ⟨Ao41, co41, eo41⟩ := Kd.R_slice HO138.out; subst eo41) | (go_at_call 20; (with_reducible refine (postriderref07_SameTexts.calls k _ _ t124 _ _ y136 true _ ?side1 ?side2 ?side3 ?side4 A13.out).mono ?_); (case side1 => repeat (first | exact (Kd.R_reads' HO127.out).2.2 | (with_reducible refine Kd.C_alloc ?_ _) | (with_reducible refine Kd.C_drewN ?_ _) | (with_reducible refine Kd.C_drew ?_))); (case side2 => exact (Kd.R_reads' HO127.out).2.1); (case side3 => repeat (first | exact (Kd.R_reads' HO138.out).2.2 | (with_reducible refine Kd.C_alloc ?_ _) | (with_reducible refine Kd.C_drewN ?_ _) | (with_reducible refine Kd.C_drew ?_))); (case side4 => exact (Kd.R_reads' HO138.out).2.1); rintro e w' ⟨rfl, ⟨nd, rfl⟩⟩))
                all_goals (first | (go_ret; exact ⟨by first | rfl | (simp [errW_none, errW_some] <;> rfl) | (simp [*, errW_none, errW_some] <;> rfl) | (simp_all; done), by repeat (first | (with_reducible first | exact HB.out | apply below_alloc | apply pw_below_drewN | apply below_drew1 | refine below_set ?_ GE101.out) | exact HB.out)⟩) | (exfalso; simp_all; done))
              · replace c14 := Bool.eq_false_iff.mpr c14
                subst c14
                have H1 : (none) = some r := by rw [if_neg (show ¬ (false = true) by decide)] at H; exact H
                clear H
                have H := H1
                clear H1
                exact absurd H (by simp)
            · rw [if_neg c12] at H
              exact absurd H (by simp)
          · rw [if_neg c11] at H
            exact absurd H (by simp)
        · replace c10 := Bool.eq_false_iff.mpr c10
          subst c10
          have H1 : (none) = some r := by rw [if_neg (show ¬ (false = true) by decide)] at H; exact H
          clear H
          have H := H1
          clear H1
          exact absurd H (by simp)
      · rw [if_neg c8] at H
        exact absurd H (by simp)
    · replace c7 := Bool.eq_false_iff.mpr c7
      subst c7
      have H1 : (none) = some r := by rw [if_neg (show ¬ (false = true) by decide)] at H; exact H
      clear H
      have H := H1
      clear H1
      exact absurd H (by simp)
  · rw [if_neg c5] at H
    exact absurd H (by simp)
end Go.Proofs.YtbjbicaffblchaaGreatDoor.SS
end
section
namespace Go.Proofs.YtbjbicaffblchaaGreatDoor.Hand
open Go.RowKit Go.Proofs.YtbjbicaffblchaaGreatDoorW Go.Proofs.YtbjbicaffblchaaGreatDoorW.PrintWords Go.Proofs.YtbjbicaffblchaaGreatDoor.SK Go.Proofs.YtbjbicaffblchaaGreatDoor.SS
theorem Build_is {l : List Nm} (h : ∀ z ∈ l, z.f1.size ≤ 21 ∧ z.f2.size ≤ 21) : dict_Build.f l = some (buildT l) := by
  unfold dict_Build.f
  rw [if_pos]
  unfold okB
  rw [List.all_eq_true]
  intro x hx
  have h1 : x.f1.size ≤ maxLen := Nat.le_trans (h x hx).1 (by decide)
  have h2 : x.f2.size ≤ maxLen := Nat.le_trans (h x hx).2 (by decide)
  simp [h1, h2]
theorem Read_is (s : ByteArray) (p : List Int) (h : s.size ≤ 1000000) : dict_Read.f s p = some (readT s p) := by
  unfold dict_Read.f
  rw [if_pos (by omega)]
theorem Texts_is (s : ByteArray) (h : s.size ≤ 1000000) : dict_Texts.f s = some (textsT s) := by
  unfold dict_Texts.f
  rw [if_pos (by omega)]
abbrev exA : Nm := ⟨1, ⟨#[97]⟩, ⟨#[98]⟩, 0, 0⟩
abbrev exS : ByteArray := ⟨#[100, 116, 110, 0, 47, 47, 97, 47, 98, 0, 110, 111, 110, 101, 0]⟩
theorem ex_build : buildT [exA, zeroNm, exA] = (exS, [0, 4, 0, 10, 0, 4], 0) := by decide +kernel
theorem ex_texts : textsT exS = ([⟨#[100, 116, 110]⟩, ⟨#[47, 47, 97, 47, 98]⟩, ⟨#[110, 111, 110, 101]⟩], 0) := by decide +kernel
theorem ex_read : readT ⟨#[]⟩ [4, 7, 0, 0] = ([⟨2, ⟨#[]⟩, ⟨#[]⟩, 4, 7⟩, zeroNm], 0) := by decide +kernel
theorem ex_read2 : readT ⟨#[]⟩ [0, 7] = ([], 70) := by decide +kernel
theorem shown_true (k : Nat) (hk : 100 < k) : postriderlaw07_shown.f k = some true := by
  unfold postriderlaw07_shown.f
  have hb : dict_Build.f [exA, zeroNm, exA] = some (buildT [exA, zeroNm, exA]) := Build_is (by decide)
  rw [ex_build] at hb
  have h1 := (Read_is ⟨#[]⟩ [4, 7, 0, 0] (by decide)).trans (congrArg some ex_read)
  have h2 := (Read_is ⟨#[]⟩ [0, 7] (by decide)).trans (congrArg some ex_read2)
  have h3 := (Texts_is exS (by decide)).trans (congrArg some ex_texts)
  have e1 := ints_is [0, 4, 0, 10, 0, 4] [0, 4, 0, 10, 0, 4] k (by decide) (by simp; omega)
  have e2 := same_is [⟨2, ⟨#[]⟩, ⟨#[]⟩, 4, 7⟩, zeroNm] [⟨2, ⟨#[]⟩, ⟨#[]⟩, 4, 7⟩, zeroNm] k (by decide) (by simp; omega)
  have e3 := sameTexts_is [⟨#[100, 116, 110]⟩, ⟨#[47, 47, 97, 47, 98]⟩, ⟨#[110, 111, 110, 101]⟩] [⟨#[100, 116, 110]⟩, ⟨#[47, 47, 97, 47, 98]⟩, ⟨#[110, 111, 110, 101]⟩] k (by decide) (by simp; omega)
  rw [decide_eq_true rfl] at e1 e2 e3
  refine (congrArg (fun z => Option.bind z _) hb).trans ?_
  simp only [Option.bind_some]
  refine (congrArg (fun z => Option.bind z _) h1).trans ?_
  simp only [Option.bind_some]
  refine (congrArg (fun z => Option.bind z _) h2).trans ?_
  simp only [Option.bind_some]
  refine (congrArg (fun z => Option.bind z _) h3).trans ?_
  simp only [Option.bind_some]
  rw [if_pos (by rw [ByteArray.toList_eq])]
  refine (congrArg (fun z => Option.bind z _) e1).trans ?_
  simp only [Option.bind_some, if_true]
  refine (congrArg (fun z => Option.bind z _) e2).trans ?_
  simp only [Option.bind_some, if_true]
  refine (congrArg (fun z => Option.bind z _) e3).trans ?_
  simp only [Option.bind_some, if_true]
  rfl
end Go.Proofs.YtbjbicaffblchaaGreatDoor.Hand
end
section
namespace Go.Proofs.YtbjbicaffblchaaGreatDoor.SLDictTexts
open Go.Proofs.YtbjbicaffblchaaGreatDoor.Hand
open Go.Proofs.YtbjbicaffblchaaGreatDoor.SA
open Go.Proofs.YtbjbicaffblchaaGreatDoor.SK
open Go.Proofs.YtbjbicaffblchaaGreatDoor.SS
open Go.RowKit Go.Proofs.YtbjbicaffblchaaGreatDoorW.PrintWords Go.Proofs.YtbjbicaffblchaaGreatDoorW.PrintLast Go.Proofs.YtbjbicaffblchaaGreatDoorW.PrintMore
attribute [local go_sem] max2_int min2_int max_two min_two max_three min_three max_four min_four
set_option linter.unusedVariables false
set_option linter.unusedSimpArgs false
def errW : Option Int → Value
  | none => .nilIface
  | some c => .iface 0 (.int .i64 c)
theorem errW_none : errW none = .nilIface := rfl
theorem errW_some (c : Int) : errW (some c) = .iface 0 (.int .i64 c) := rfl
end Go.Proofs.YtbjbicaffblchaaGreatDoor.SLDictTexts
end
section
namespace Go.Proofs.YtbjbicaffblchaaGreatDoor.SLDictTexts
open Go.Proofs.YtbjbicaffblchaaGreatDoor.Hand
open Go.Proofs.YtbjbicaffblchaaGreatDoor.SA
open Go.Proofs.YtbjbicaffblchaaGreatDoor.SK
open Go.Proofs.YtbjbicaffblchaaGreatDoor.SS
open Go.RowKit Go.Proofs.YtbjbicaffblchaaGreatDoorW.PrintWords Go.Proofs.YtbjbicaffblchaaGreatDoorW.PrintLast Go.Proofs.YtbjbicaffblchaaGreatDoorW.PrintMore
attribute [local go_sem] max2_int min2_int max_two min_two max_three min_three max_four min_four
set_option linter.unusedVariables false
set_option linter.unusedSimpArgs false
def postriderlaw07_DictTexts.l0 : Nat → ByteArray → Bool → List ByteArray → Int → ByteArray → Int → Option (Bool)
  | 0, _, _, _, _, _, _ => none
  | k + 1, x0, x3, x4, x5, x6, x7 => if x7 < (x4.length : Int) then (if 0 ≤ x7 then (if x6.size + (rdOf ByteArray.empty x4 x7).size ≤ 9223372036854775807 then (if x6.size + (rdOf ByteArray.empty x4 x7).size + 1 ≤ 9223372036854775807 then (postriderlaw07_DictTexts.l0 k x0 x3 x4 x5 ((x6 ++ (rdOf ByteArray.empty x4 x7)) ++ (⟨#[0]⟩ : ByteArray)) (wrap64 (x7 + 1))) else (none)) else (none)) else (none)) else (if x5 = 0 then (if x3 = true then (some (x6.toList == x0.toList)) else (none)) else (if x3 = true then (if (x4.length : Int) = 0 then (if x0.toList = ([] : List UInt8) then (none) else (if 0 ≤ (wrap64 ((x0.size : Int) - 1)) then (if (wrap64 ((x0.size : Int) - 1)) < (x0.size : Int) then (some ((bt x0 (wrap64 ((x0.size : Int) - 1))) != 0)) else (none)) else (none))) else (none)) else (none)))
def postriderlaw07_DictTexts.f (k : Nat) (a0 : ByteArray) : Option (Bool) := (postriderlaw07_shown.f k).bind fun t101 => ((postriderlaw07_cut.f a0).bind fun t102 => ((dict_Texts.f t102).bind fun bt103 => (postriderlaw07_DictTexts.l0 k t102 t101 bt103.1 bt103.2 (⟨#[]⟩ : ByteArray) 0)))
theorem postriderlaw07_DictTexts.mono_l : ∀ k, (∀ y0 y1 y2 y3 y4 y5, LeO (postriderlaw07_DictTexts.l0 k y0 y1 y2 y3 y4 y5) (postriderlaw07_DictTexts.l0 (k + 1) y0 y1 y2 y3 y4 y5))
  | 0 => fun _ _ _ _ _ _ r h => by simp [postriderlaw07_DictTexts.l0] at h
  | k + 1 => by
    have ih0 := postriderlaw07_DictTexts.mono_l k
    · intro y0 y1 y2 y3 y4 y5
      unfold postriderlaw07_DictTexts.l0
      repeat' first
      | (with_reducible exact ih0 _ _ _ _ _ _)
      | (with_reducible exact postriderlaw07_shown.mono _)
      | (with_reducible exact LeO.refl _)
      | (with_reducible exact LeO.none _)
      | (with_reducible refine LeO.ite ?_ ?_)
      | (with_reducible refine LeO.bind ?_ (fun _ => ?_))
      | exact ih0 _ _ _ _ _ _
      | exact postriderlaw07_shown.mono _
      | exact LeO.none _
      | refine LeO.ite ?_ ?_
      | refine LeO.bind ?_ (fun _ => ?_)
theorem postriderlaw07_DictTexts.mono : ∀ a0 k, LeO (postriderlaw07_DictTexts.f k a0) (postriderlaw07_DictTexts.f (k + 1) a0) := by
  intro a0 k
  have ih0 := postriderlaw07_DictTexts.mono_l k
  unfold postriderlaw07_DictTexts.f
  repeat' first
      | (with_reducible exact ih0 _ _ _ _ _ _)
      | (with_reducible exact postriderlaw07_shown.mono _)
      | (with_reducible exact LeO.refl _)
      | (with_reducible exact LeO.none _)
      | (with_reducible refine LeO.ite ?_ ?_)
      | (with_reducible refine LeO.bind ?_ (fun _ => ?_))
      | exact ih0 _ _ _ _ _ _
      | exact postriderlaw07_shown.mono _
      | exact LeO.none _
      | refine LeO.ite ?_ ?_
      | refine LeO.bind ?_ (fun _ => ?_)
set_option maxHeartbeats 8000000 in
set_option maxRecDepth 100000 in
theorem postriderlaw07_DictTexts.calls (k : Nat) (a0 : ByteArray) (r : Bool) (w : World) (hLd : LaidD w) (h : postriderlaw07_DictTexts.f k a0 = some r) :
    Calls Tryz.prog 7 #[.string a0] w fun e w' => e = .returned (.bool r) ∧ Below w.heap.size w w' := by
  have HLD := Aside0.mk hLd
  clear hLd
  have HB := Aside0.mk (Below.refl w.heap.size w)
  have H : ((postriderlaw07_shown.f k).bind fun t101 => ((postriderlaw07_cut.f a0).bind fun t102 => ((dict_Texts.f t102).bind fun bt103 => (postriderlaw07_DictTexts.l0 k t102 t101 bt103.1 bt103.2 (⟨#[]⟩ : ByteArray) 0)))) = some r := h
  clear h
  replace H := Option.bind_eq_some_iff.mp H
  obtain ⟨t101, A20, H⟩ := H
  replace H : ((postriderlaw07_cut.f a0).bind fun t102 => ((dict_Texts.f t102).bind fun bt103 => (postriderlaw07_DictTexts.l0 k t102 t101 bt103.1 bt103.2 (⟨#[]⟩ : ByteArray) 0))) = some r := H
  have A2 := Aside0.mk A20
  clear A20
  replace H := Option.bind_eq_some_iff.mp H
  obtain ⟨t102, A30, H⟩ := H
  replace H : ((dict_Texts.f t102).bind fun bt103 => (postriderlaw07_DictTexts.l0 k t102 t101 bt103.1 bt103.2 (⟨#[]⟩ : ByteArray) 0)) = some r := H
  have A3 := Aside0.mk A30
  clear A30
  replace H := Option.bind_eq_some_iff.mp H
  obtain ⟨⟨t103, t104⟩, A40, H⟩ := H
  replace H : (postriderlaw07_DictTexts.l0 k t102 t101 t103 t104 (⟨#[]⟩ : ByteArray) 0) = some r := H
  have A4 := Aside0.mk A40
  clear A40
  have H' := Aside0.mk H
  clear H
  go_enter Tryz.func7, Tryz.ntmps7
  go_wp2_with (first | ((with_reducible refine gate_callee (f := 8) rfl ?_); refine goesL_ (some 8) rfl rfl Tryz.func8 (by kernel_rfl) rfl #[] rfl (by (try simp only [List.map_toArray, List.map_cons, List.map_nil]); first | done | rfl | (simp only [List.length_drop, List.length_take]; rfl)) ?_; (with_reducible refine (postriderlaw07_shown.calls k  t101 _ ?side1 A2.out).mono ?_); (case side1 => exact LaidD.below HLD.out (by repeat (first | (with_reducible first | exact HB.out | apply below_alloc | apply pw_below_drewN | apply below_drew1) | exact HB.out))); rintro e w5 ⟨rfl, hb⟩; refine ⟨_, rfl, ?_⟩; have n0_ := Aside0.mk (below_step (by repeat (first | (with_reducible first | exact HB.out | apply below_alloc | apply pw_below_drewN | apply below_drew1) | exact HB.out)) hb); clear HB; have HB := n0_; clear n0_; (try clear hb); (try clear hb2); (try clear hk); (try clear hi)) | ((with_reducible refine gate_callee (f := 10) rfl ?_); refine goesL_ (some 10) rfl rfl Tryz.func10 (by kernel_rfl) rfl #[.string a0] rfl (by (try simp only [List.map_toArray, List.map_cons, List.map_nil]); first | done | rfl | (simp only [List.length_drop, List.length_take]; rfl)) ?_; (with_reducible refine (postriderlaw07_cut.calls a0 t102 _ A3.out).mono ?_); rintro e w6 ⟨rfl, hb⟩; refine ⟨_, rfl, ?_⟩; have n0_ := Aside0.mk (below_step (by repeat (first | (with_reducible first | exact HB.out | apply below_alloc | apply pw_below_drewN | apply below_drew1) | exact HB.out)) hb); clear HB; have HB := n0_; clear n0_; (try clear hb); (try clear hb2); (try clear hk); (try clear hi)) | ((with_reducible refine gate_callee (f := 16) rfl ?_); refine goesL_ (some 13) rfl rfl Tryz.func16 (by kernel_rfl) rfl #[.string t102] rfl (by (try simp only [List.map_toArray, List.map_cons, List.map_nil]); first | done | rfl | (simp only [List.length_drop, List.length_take]; rfl)) ?_; (with_reducible refine (dict_Texts.calls t102 t103 t104 _ ?side1 A4.out).mono ?_); (case side1 => exact LaidD.below HLD.out (by repeat (first | (with_reducible first | exact HB.out | apply below_alloc | apply pw_below_drewN | apply below_drew1) | exact HB.out))); rintro e w7 ⟨v105, rfl, ho0, hb⟩; refine ⟨_, rfl, ?_⟩; have n0_ := Aside0.mk (Kd.R_lower ho0 (below_size (by repeat (first | (with_reducible first | exact HB.out | apply below_alloc | apply pw_below_drewN | apply below_drew1) | exact HB.out)))); have n1_ := Aside0.mk (below_step (by repeat (first | (with_reducible first | exact HB.out | apply below_alloc | apply pw_below_drewN | apply below_drew1) | exact HB.out)) hb); clear HB; have HO106 := n0_; have HB := n1_; clear n0_ n1_; (try clear hb); (try clear hb2); (try clear hk); (try clear hi); (try clear ho0)))
  go_loopg [6, 7] k (fun kq v6 v7 w' => ∃ (x6_1 : ByteArray) (x7_1 : Int), v6 = .string x6_1 ∧ v7 = .int .i64 x7_1 ∧ Aside0 (postriderlaw07_DictTexts.l0 kq t102 t101 t103 t104 x6_1 x7_1 = some r) ∧ Aside0 (kq ≤ k) ∧ Aside0 (Kd.R Kd.string 9 w' w.heap.size (fun _ => True) v105 t103) ∧ Aside0 (Below w.heap.size w w'))
  case atStart => exact ⟨((⟨#[]⟩ : ByteArray)), (0), (by first | rfl | (simp; done) | (simp [*]; done)), (by first | rfl | (simp; done) | (simp [*]; done)), H', ⟨Nat.le_refl _⟩, ⟨by (with_reducible repeat (first | apply Kd.R_alloc | apply Kd.R_drewN | apply Kd.R_drew)); exact HO106.out⟩, ⟨by repeat (first | (with_reducible first | exact HB.out | apply below_alloc | apply pw_below_drewN | apply below_drew1) | exact HB.out)⟩⟩
  case round =>
    clear H'
    try clear c1
    try clear p2
    try clear c7
    obtain ⟨x6_1, x7_1, rfl, rfl, HA, HK1, HO_4, HB⟩ := hrel
    cases gk with
    | zero => exact absurd HA.out (by simp [postriderlaw07_DictTexts.l0])
    | succ k1 =>
      have H := HA.out
      clear HA
      simp only [postriderlaw07_DictTexts.l0] at H
      by_cases c8 : x7_1 < (t103.length : Int)
      · rw [if_pos c8] at H
        have c8b0 : decide (x7_1 < (t103.length : Int)) = true := decide_eq_true c8
        clear c8
        by_cases c9 : 0 ≤ x7_1
        · rw [if_pos c9] at H
          have c9b0 : decide (0 ≤ x7_1) = true := decide_eq_true c9
          clear c9
          by_cases c10 : x6_1.size + (rdOf ByteArray.empty t103 x7_1).size ≤ 9223372036854775807
          · rw [if_pos c10] at H
            have c10b0 := eq_true c10
            have c10b1 : decide (x6_1.size + (rdOf ByteArray.empty t103 x7_1).size ≤ 9223372036854775807) = true := decide_eq_true c10
            try have c10b2 : (9223372036854775807 < x6_1.size + (rdOf ByteArray.empty t103 x7_1).size) = False := eq_false (Nat.not_lt.2 c10)
            by_cases c11 : x6_1.size + (rdOf ByteArray.empty t103 x7_1).size + 1 ≤ 9223372036854775807
            · rw [if_pos c11] at H
              have c11b0 := eq_true c11
              have c11b1 : decide (x6_1.size + (rdOf ByteArray.empty t103 x7_1).size + 1 ≤ 9223372036854775807) = true := decide_eq_true c11
              try have c11b2 : (9223372036854775807 < x6_1.size + (rdOf ByteArray.empty t103 x7_1).size + 1) = False := eq_false (Nat.not_lt.2 c11)
              have H' := Aside0.mk H
              clear H
              obtain ⟨Ao12, co12, eo12⟩ := Kd.R_slice HO_4.out
              subst eo12
              have p107 : 0 ≤ (x7_1 : Int) := of_decide_eq_true (by first | (with_reducible assumption) | assumption)
              have q107 : x7_1 < (t103.length : Int) := of_decide_eq_true (by first | (with_reducible assumption) | assumption)
              obtain ⟨ad107, e107, hx107_0⟩ := Kd.at_string (Kd.R_reads' HO_4.out).2.2 x7_1 p107 q107
              cases e107
              replace p107 := eq_true p107
              replace q107 := eq_true q107
              go_wp2
              go_roundg k1
              case measure => have := HK1.out; omega
              case rel => exact ⟨((x6_1 ++ (rdOf ByteArray.empty t103 x7_1)) ++ (⟨#[0]⟩ : ByteArray)), (wrap64 (x7_1 + 1)), (by first | rfl | (simp; done) | (simp [*]; done)), (by first | rfl | (simp; done) | (simp [*]; done)), H', ⟨by have := HK1.out; omega⟩, ⟨by (with_reducible repeat (first | apply Kd.R_alloc | apply Kd.R_drewN | apply Kd.R_drew)); exact HO_4.out⟩, ⟨by repeat (first | (with_reducible first | exact HB.out | apply below_alloc | apply pw_below_drewN | apply below_drew1) | exact HB.out)⟩⟩
            · rw [if_neg c11] at H
              exact absurd H (by simp)
          · rw [if_neg c10] at H
            exact absurd H (by simp)
        · rw [if_neg c9] at H
          exact absurd H (by simp)
      · rw [if_neg c8] at H
        have c8b0 : decide (x7_1 < (t103.length : Int)) = false := decide_eq_false c8
        clear c8
        by_cases c13 : t104 = 0
        · rw [if_pos c13] at H
          have c13b0 : (t104 == 0) = true := beq_iff_eq.mpr c13
          have c13b1 : (t104 != 0) = false := bne_eq_false_iff_eq.mpr c13
          clear c13
          by_cases c14 : t101 = true
          · subst c14
            have H1 : (some (x6_1.toList == t102.toList)) = some r := by rw [if_pos rfl] at H; exact H
            clear H
            have H := H1
            clear H1
            obtain rfl := Option.some.inj H
            obtain ⟨Ao15, co15, eo15⟩ := Kd.R_slice HO_4.out
            subst eo15
            go_wp2
            all_goals (first | (go_ret; exact ⟨by first | rfl | (simp [errW_none, errW_some] <;> rfl) | (simp [*, errW_none, errW_some] <;> rfl) | (simp_all; done), by repeat (first | (with_reducible first | exact HB.out | apply below_alloc | apply pw_below_drewN | apply below_drew1) | exact HB.out)⟩) | (exfalso; simp_all; done))
          · replace c14 := Bool.eq_false_iff.mpr c14
            subst c14
            have H1 : (none) = some r := by rw [if_neg (show ¬ (false = true) by decide)] at H; exact H
            clear H
            have H := H1
            clear H1
            exact absurd H (by simp)
        · rw [if_neg c13] at H
          have c13b0 : (t104 == 0) = false := beq_eq_false_iff_ne.mpr c13
          have c13b1 : (t104 != 0) = true := bne_iff_ne.mpr c13
          by_cases c16 : t101 = true
          · subst c16
            have H1 : (if (t103.length : Int) = 0 then (if t102.toList = ([] : List UInt8) then (none) else (if 0 ≤ (wrap64 ((t102.size : Int) - 1)) then (if (wrap64 ((t102.size : Int) - 1)) < (t102.size : Int) then (some ((bt t102 (wrap64 ((t102.size : Int) - 1))) != 0)) else (none)) else (none))) else (none)) = some r := by rw [if_pos rfl] at H; exact H
            clear H
            have H := H1
            clear H1
            by_cases c17 : (t103.length : Int) = 0
            · rw [if_pos c17] at H
              have c17b0 : ((t103.length : Int) == 0) = true := beq_iff_eq.mpr c17
              have c17b1 : ((t103.length : Int) != 0) = false := bne_eq_false_iff_eq.mpr c17
              clear c17
              by_cases c18 : t102.toList = ([] : List UInt8)
              · rw [if_pos c18] at H
                exact absurd H (by simp)
              · rw [if_neg c18] at H
                have c18b0 : (t102.toList == ([] : List UInt8)) = false := beq_eq_false_iff_ne.mpr c18
                have c18b1 : (t102.toList != ([] : List UInt8)) = true := bne_iff_ne.mpr c18
                obtain ⟨ji19, hji19⟩ : ∃ j_ : Int, (wrap64 ((t102.size : Int) - 1)) = j_ := ⟨_, rfl⟩
                replace H : (if 0 ≤ (ji19) then (if (ji19) < (t102.size : Int) then (some ((bt t102 (ji19)) != 0)) else (none)) else (none)) = some r := by first | (rw [hji19] at H; exact H) | (simp only [hji19] at H ⊢; exact H)
                have hji19w : (IntKind.i64.wrap ((t102.size : Int) - 1)) = ji19 := (i64_w _).trans hji19
                by_cases c20 : 0 ≤ (ji19)
                · rw [if_pos c20] at H
                  have c20b0 : decide (0 ≤ (ji19)) = true := decide_eq_true c20
                  clear c20
                  by_cases c21 : (ji19) < (t102.size : Int)
                  · rw [if_pos c21] at H
                    have c21b0 : decide ((ji19) < (t102.size : Int)) = true := decide_eq_true c21
                    clear c21
                    obtain rfl := Option.some.inj H
                    obtain ⟨Ao23, co23, eo23⟩ := Kd.R_slice HO_4.out
                    subst eo23
                    have p22 : 0 ≤ ((ji19) : Int) := of_decide_eq_true (by first | (with_reducible assumption) | assumption)
                    have q22 : (ji19) < (t102.size : Int) := of_decide_eq_true (by first | (with_reducible assumption) | assumption)
                    have hx22 := bt_at t102 (ji19)
                    replace p22 := eq_true p22
                    replace q22 := eq_true q22
                    go_wp2
                    all_goals (first | (go_ret; exact ⟨by first | rfl | (simp [errW_none, errW_some] <;> rfl) | (simp only [← hji19]; first | rfl | (simp [errW_none, errW_some] <;> rfl)) | (simp [*, errW_none, errW_some] <;> rfl) | (simp_all; done), by repeat (first | (with_reducible first | exact HB.out | apply below_alloc | apply pw_below_drewN | apply below_drew1) | exact HB.out)⟩) | (exfalso; simp_all; done))
                  · rw [if_neg c21] at H
                    exact absurd H (by simp)
                · rw [if_neg c20] at H
                  exact absurd H (by simp)
            · rw [if_neg c17] at H
              exact absurd H (by simp)
          · replace c16 := Bool.eq_false_iff.mpr c16
            subst c16
            have H1 : (none) = some r := by rw [if_neg (show ¬ (false = true) by decide)] at H; exact H
            clear H
            have H := H1
            clear H1
            exact absurd H (by simp)
end Go.Proofs.YtbjbicaffblchaaGreatDoor.SLDictTexts
end
section
namespace Go.Proofs.YtbjbicaffblchaaGreatDoor.Hand
open Go.RowKit Go.Proofs.YtbjbicaffblchaaGreatDoorW Go.Proofs.YtbjbicaffblchaaGreatDoorW.PrintWords Go.Proofs.YtbjbicaffblchaaGreatDoor.SK Go.Proofs.YtbjbicaffblchaaGreatDoor.SS Go.Proofs.YtbjbicaffblchaaGreatDoor.SLDictTexts
theorem index_none (c : UInt8) : ∀ p : List UInt8, c ∉ p → Lib.index p [c] = -1
  | [], _ => by simp [Lib.index]
  | b :: p, h => by
    have hb : c ≠ b := fun e => h (e ▸ List.mem_cons_self ..)
    have ih := index_none c p (fun e => h (List.mem_cons_of_mem _ e))
    simp only [Lib.index]
    rw [ih]
    simp [hb, List.isPrefixOf]
theorem split_first (c : UInt8) : ∀ r : List UInt8, c ∈ r → ∃ p q, r = p ++ c :: q ∧ c ∉ p
  | [], h => by cases h
  | b :: r, h => by
    by_cases e : b = c
    · subst e
      exact ⟨[], r, rfl, by simp⟩
    · obtain ⟨p, q, h1, h2⟩ := split_first c r (by rcases List.mem_cons.1 h with h | h; exact absurd h.symm e; exact h)
      refine ⟨b :: p, q, by rw [h1]; rfl, fun h3 => ?_⟩
      rcases List.mem_cons.1 h3 with h3 | h3
      · exact e h3.symm
      · exact h2 h3
theorem cutp_split (r : List UInt8) : (∃ p q, r = p ++ 0 :: q ∧ 0 ∉ p ∧ cutp r = p) ∨ (0 ∉ r ∧ cutp r = r) := by
  by_cases h : (0 : UInt8) ∈ r
  · obtain ⟨p, q, h1, h2⟩ := split_first 0 r h
    refine .inl ⟨p, q, h1, h2, ?_⟩
    unfold cutp
    rw [h1, cut_one 0 p q h2]
  · refine .inr ⟨h, ?_⟩
    unfold cutp Lib.cut
    rw [index_none 0 r h, if_neg (by decide)]
def flatB (L : List ByteArray) : List UInt8 := L.flatMap fun t => t.data.toList ++ [0]
theorem items_join : ∀ (k a : Nat) (r : List UInt8), r.length < k → openT r = false → flatB ((itemsF k a r).map (·.2)) = r := by
  intro k
  induction k with
  | zero => intro a r h; omega
  | succ k ih =>
    intro a r h ho
    rw [itemsF]
    by_cases hr : r = []
    · rw [if_pos hr, hr]; rfl
    · rw [if_neg hr]
      have hlast : r.getLast? = some 0 := by
        unfold openT at ho
        rw [show (r != []) = true by simpa using hr, Bool.true_and] at ho
        simpa using ho
      rcases cutp_split r with ⟨p, q, h1, h2, h3⟩ | ⟨h1, _⟩
      · have hd : r.drop (p.length + 1) = q := by
          rw [h1, List.drop_append]
          simp
        rw [h3, hd]
        have hq : openT q = false := by
          unfold openT
          by_cases e : q = []
          · rw [e]; rfl
          · have : q.getLast? = some 0 := by
              rw [h1, List.getLast?_append] at hlast
              rw [List.getLast?_cons] at hlast
              cases hg : q.getLast? with
              | none => exact absurd (List.getLast?_eq_none_iff.1 hg) e
              | some z => rw [hg] at hlast; simpa using hlast
            rw [this]
            simp
        have := ih (a + p.length + 1) q (by rw [h1] at h; simp at h; omega) hq
        simp only [List.map_cons, flatB, List.flatMap_cons]
        unfold flatB at this
        rw [this, h1]
        simp [txt]
      · exact absurd (List.mem_of_getLast? hlast) h1
theorem dictTexts_from (s : ByteArray) (L : List ByteArray) (hs : s.size ≤ 1000) (hL : flatB L = s.data.toList) : ∀ (d k i : Nat) (acc : ByteArray), L.length - i = d → i ≤ L.length → d < k → acc.data.toList = flatB (L.take i) →
    postriderlaw07_DictTexts.l0 k s true L 0 acc (i : Int) = some true := by
  have hlen : s.data.toList.length = s.size := Array.length_toList ..
  have hLl : L.length ≤ s.size := by
    rw [← hlen, ← hL]
    clear hL
    induction L with
    | nil => simp
    | cons x r ih => simp [flatB] at ih ⊢; omega
  intro d
  induction d with
  | zero =>
    intro k i acc hd hi hk hacc
    obtain ⟨k, rfl⟩ : ∃ m, k = m + 1 := ⟨k - 1, by omega⟩
    simp only [postriderlaw07_DictTexts.l0]
    rw [if_neg (by omega)]
    simp only [if_true]
    rw [List.take_of_length_le (by omega), hL] at hacc
    simp [ByteArray.toList_eq, hacc]
  | succ d ih =>
    intro k i acc hd hi hk hacc
    obtain ⟨k, rfl⟩ : ∃ m, k = m + 1 := ⟨k - 1, by omega⟩
    have hlt : i < L.length := by omega
    have hx : rdOf ByteArray.empty L (i : Int) = L[i] := by
      unfold rdOf
      rw [Int.toNat_natCast, List.getD_eq_getElem?_getD, List.getElem?_eq_getElem hlt]
      rfl
    have hstep : flatB (L.take (i + 1)) = flatB (L.take i) ++ (L[i].data.toList ++ [0]) := by
      rw [List.take_succ_eq_append_getElem hlt]
      simp only [flatB, List.flatMap_append, List.flatMap_cons, List.flatMap_nil, List.append_nil]
    have hle : (flatB (L.take (i + 1))).length ≤ s.size := by
      have h := congrArg (fun z => (flatB z).length) (List.take_append_drop (i + 1) L)
      simp only [flatB, List.flatMap_append, List.length_append] at h
      rw [← hlen, ← hL]
      unfold flatB
      omega
    have hal : acc.data.toList.length = acc.size := Array.length_toList ..
    have hxl : L[i].data.toList.length = L[i].size := Array.length_toList ..
    have hsz : acc.size + L[i].size + 1 ≤ s.size := by
      rw [hstep, ← hacc] at hle
      simp only [List.length_append, List.length_cons, List.length_nil] at hle
      rw [hal, hxl] at hle
      omega
    simp only [postriderlaw07_DictTexts.l0]
    rw [if_pos (by omega), if_pos (by omega), hx, if_pos (by omega), if_pos (by omega), wrap_up i (by omega)]
    refine ih k (i + 1) _ (by omega) (by omega) (by omega) ?_
    rw [hstep, ← hacc]
    simp [ByteArray.data_append]
theorem dictTexts_true (a : ByteArray) : postriderlaw07_DictTexts.f 2000 a = some true := by
  obtain ⟨s, hs, hs1⟩ := cut7_is a
  unfold postriderlaw07_DictTexts.f
  rw [shown_true 2000 (by decide), hs]
  simp only [Option.bind_some]
  rw [Texts_is s (by omega)]
  simp only [Option.bind_some]
  have hlen : s.data.toList.length = s.size := Array.length_toList ..
  unfold textsT
  by_cases ho : openT s.data.toList = true
  · rw [if_pos ho]
    have hne : ¬ s.toList = [] := fun e => by
      rw [ByteArray.toList_eq] at e
      rw [openT, e] at ho
      exact absurd ho (by decide)
    have h1 := ne_nil_size hne
    have hb : bt s ((s.size : Int) - 1) = ((s[s.size - 1]'(by omega)).toNat : Int) := by
      have hi : ((s.size : Int) - 1).toNat < s.size := by omega
      unfold bt
      rw [dif_pos hi]
      congr 3
      omega
    have hw : wrap64 ((s.size : Int) - 1) = (s.size : Int) - 1 := by unfold wrap64; omega
    have key : ∀ k : Nat, postriderlaw07_DictTexts.l0 (k + 1) s true [] 70 ⟨#[]⟩ 0 = some true := by
     intro k
     simp only [postriderlaw07_DictTexts.l0]
     rw [if_neg (by simp), if_neg (by decide)]
     simp only [if_true]
     rw [if_pos (by rfl), if_neg hne, hw, if_pos (by omega), if_pos (by omega), hb]
     rw [← open_is s hne (by omega), ho]
    exact key 1999
  · have ho' := Bool.eq_false_iff.2 ho
    rw [if_neg ho]
    have hj := items_join (s.data.toList.length + 1) 0 s.data.toList (by omega) ho'
    have hl : ((items s.data.toList).map (·.2)).length ≤ 901 := by
      have := itemsF_len (s.data.toList.length + 1) 0 s.data.toList
      rw [List.length_map]
      unfold items
      omega
    exact dictTexts_from s _ (by omega) hj ((items s.data.toList).map (·.2)).length 2000 0 ⟨#[]⟩ rfl (by omega) (by omega) rfl
end Go.Proofs.YtbjbicaffblchaaGreatDoor.Hand
end

/- Layer 6, by hand: eid.Right in the print's form. -/
import Derived.Test.YtandbobinjhehaaDoorEidC
import Derived.RangeFuncRecord
import Derived.RangeFuncStops
import Derived.Shelf.Abstract
namespace Go.Proofs.YtandbobinjhehaaDoor.Hand
open Go.RowKit Go.Proofs.YtandbobinjhehaaDoor.SA

theorem areAll_from (l : List Bool) : ∀ (d k : Nat) (i : Int), 0 ≤ i → i ≤ l.length → (l.length : Int) - i = d → d < k → l.length ≤ 1000 → eid_areAll.l0 k l (l.length : Int) i = some ((l.drop i.toNat).all id) := by
  intro d
  induction d with
  | zero =>
    intro k i h0 h1 hd hk _
    obtain ⟨k, rfl⟩ : ∃ m, k = m + 1 := ⟨k - 1, by omega⟩
    simp only [eid_areAll.l0]
    rw [if_neg (by omega), List.drop_eq_nil_of_le (by omega)]
    rfl
  | succ d ih =>
    intro k i h0 h1 hd hk hl
    obtain ⟨k, rfl⟩ : ∃ m, k = m + 1 := ⟨k - 1, by omega⟩
    simp only [eid_areAll.l0]
    rw [if_pos (by omega), if_pos h0, if_pos (by omega)]
    have hw : wrap64 (i + 1) = i + 1 := by unfold wrap64; omega
    have hlt : i.toNat < l.length := by omega
    have hr : YtandbobinjhehaaDoorW.PrintWords.rdOf false l i = l[i.toNat] := by
      unfold YtandbobinjhehaaDoorW.PrintWords.rdOf
      simp [List.getD_eq_getElem?_getD, List.getElem?_eq_getElem hlt]
    rw [hr, hw, List.drop_eq_getElem_cons hlt, List.all_cons]
    have hi := ih k (i + 1) (by omega) (by omega) (by omega) (by omega) hl
    rw [show (i + 1).toNat = i.toNat + 1 by omega] at hi
    cases h : l[i.toNat] with
    | true => simp [hi]
    | false => simp

theorem areAll_is (l : List Bool) (k : Nat) (hk : l.length < k) (hl : l.length ≤ 1000) : eid_areAll.f k l = some (l.all id) := by
  unfold eid_areAll.f
  have := areAll_from l l.length k 0 (by omega) (by omega) (by omega) hk hl
  simpa using this

set_option maxRecDepth 100000 in
theorem rest4_calls (n : Int) (a1 a2 : ByteArray) (a3 a4 : Int) (w : World) (h1 : a1.size ≤ 1000000) (h2 : a2.size ≤ 1000000) :
    Calls Tryd.prog 37 #[.agg #[.int .i64 n, .string a1, .string a2, .int .i64 a3, .int .i64 a4]] w fun e w' => e = .returned (.string (⟨#[47, 47]⟩ ++ a1 ++ ⟨#[47]⟩ ++ a2)) ∧ Below w.heap.size w w' := by
  have hu := Tryd.underlying23
  go_enter Tryd.func37, Tryd.ntmps37
  go_wp2
  go_ret
  exact ⟨rfl, b_alloc (Below.refl _ _) _⟩

/-- P6.1, told of the five parts of a name: is it right? -/
def rightS (n : Int) (a1 a2 : ByteArray) (a3 a4 : Int) : Bool :=
  if n = 0 then a1.toList == [] && (a2.toList == [] && (a3 == 0 && a4 == 0))
  else if n = 1 then a1.toList != [] && (partS a1 ⟨#[45, 46]⟩ && (partS a2 ⟨#[45, 46, 47]⟩ && (a3 == 0 && a4 == 0)))
  else if n = 2 then a1.toList == [] && (a2.toList == [] && (decide (a3 ≥ 1) && (decide (a3 ≤ 999999999) && (decide (a4 ≥ 0) && decide (a4 ≤ 999999999)))))
  else false

def eid_Right.f (a0_0 : Int) (a0_1 a0_2 : ByteArray) (a0_3 a0_4 : Int) : Option Bool := if a0_1.size ≤ maxLen ∧ a0_2.size ≤ maxLen then some (rightS a0_0 a0_1 a0_2 a0_3 a0_4) else none

theorem isDtn_is (n : Int) (a1 a2 : ByteArray) (a3 a4 : Int) (h1 : a1.size ≤ maxLen) (h2 : a2.size ≤ maxLen) :
    eid_isDtn.f 10 n a1 a2 a3 a4 = some (a1.toList != [] && (partS a1 ⟨#[45, 46]⟩ && (partS a2 ⟨#[45, 46, 47]⟩ && (a3 == 0 && a4 == 0)))) := by
  unfold eid_isDtn.f eid_isPart.f
  rw [if_pos ⟨h1, by decide⟩, if_pos ⟨h2, by decide⟩]
  simp only [Option.bind_some]
  rw [areAll_is _ _ (by simp) (by simp)]
  simp

theorem isIpn_is (n : Int) (a1 a2 : ByteArray) (a3 a4 : Int) :
    eid_isIpn.f 10 n a1 a2 a3 a4 = some (a1.toList == [] && (a2.toList == [] && (decide (a3 ≥ 1) && (decide (a3 ≤ 999999999) && (decide (a4 ≥ 0) && decide (a4 ≤ 999999999)))))) := by
  unfold eid_isIpn.f
  rw [areAll_is _ _ (by simp) (by simp)]
  simp

theorem eid_Right.calls (a0_0 : Int) (a0_1 a0_2 : ByteArray) (a0_3 a0_4 : Int) (r : Bool) (w : World) (h : eid_Right.f a0_0 a0_1 a0_2 a0_3 a0_4 = some r) :
    Calls Tryd.prog 21 #[.agg #[.int .i64 a0_0, .string a0_1, .string a0_2, .int .i64 a0_3, .int .i64 a0_4]] w fun e w' => e = .returned (.bool r) ∧ Below w.heap.size w w' := by
  unfold eid_Right.f at h
  split at h
  case isFalse => cases h
  rename_i hc
  obtain ⟨h1, h2⟩ := hc
  obtain rfl := Option.some.inj h
  unfold rightS
  by_cases e0 : a0_0 = 0
  · subst e0
    rw [if_pos rfl]
    exact right_some 0 a0_1 a0_2 a0_3 a0_4 _ _ _ _ (by rw [schAt, if_pos rfl]; rfl) _ (Go.Proofs.enters_of Tryd.func33 (by kernel_rfl) rfl)
      (fun W => (eid_schemes_1.calls 0 a0_1 a0_2 a0_3 a0_4 _ W (by unfold eid_schemes_1.f; rfl)).mono fun _ _ h => ⟨by rw [h.1]; simp, h.2⟩) w
  rw [if_neg e0]
  by_cases e1 : a0_0 = 1
  · subst e1
    rw [if_pos rfl]
    exact right_some 1 a0_1 a0_2 a0_3 a0_4 _ _ _ _ (by rw [schAt, if_neg (by decide), if_pos rfl]; rfl) _ (Go.Proofs.enters_of Tryd.func36 (by kernel_rfl) rfl)
      (fun W => eid_isDtn.calls 10 1 a0_1 a0_2 a0_3 a0_4 _ W (isDtn_is _ _ _ _ _ h1 h2)) w
  rw [if_neg e1]
  by_cases e2 : a0_0 = 2
  · subst e2
    rw [if_pos rfl]
    exact right_some 2 a0_1 a0_2 a0_3 a0_4 _ _ _ _ (by rw [schAt, if_neg (by decide), if_neg (by decide), if_pos rfl]; rfl) _ (Go.Proofs.enters_of Tryd.func39 (by kernel_rfl) rfl)
      (fun W => eid_isIpn.calls 10 2 a0_1 a0_2 a0_3 a0_4 _ W (isIpn_is _ _ _ _ _)) w
  rw [if_neg e2]
  exact right_none a0_0 a0_1 a0_2 a0_3 a0_4 (by rw [schAt, if_neg e0, if_neg e1, if_neg e2]) w

end Go.Proofs.YtandbobinjhehaaDoor.Hand

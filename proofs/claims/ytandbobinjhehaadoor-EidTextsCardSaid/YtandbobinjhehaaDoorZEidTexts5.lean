import Derived.Test.YtandbobinjhehaaDoorZEidTexts4
import Derived.ArgAppend
import Derived.Below
import Derived.BigQuiet
import Derived.Deep.AppendLies
import Derived.Deep.CutBlock
import Derived.Deep.DeepCutAuto
import Derived.Deep.Draws
import Derived.Deep.LoopGhost
import Derived.Deep.OwnRows
import Derived.Deep.QuietTactic
import Derived.Deep.RegionHeld3
import Derived.KernelRfl
import Derived.Laws.BitsLemmas
import Derived.Laws.BytesArg
import Derived.Laws.IdiomCopy
import Derived.Laws.MakeOwn
import Derived.Laws.OwnMore
import Derived.Laws.Rows
import Derived.Laws.Slices
import Derived.Lib.AppendStr
import Derived.Lib.ConvBytes
import Derived.Maps.AppendAt
import Derived.OrdersHeld
import Derived.OwnWalk
import Derived.RowKit
import Derived.RowKit3
import Derived.Tactics
import Derived.Test.YtandbobinjhehaaDoorProg
import Derived.WalkKit
import Derived.WideLaws
section
namespace Go.Proofs.YtandbobinjhehaaDoor.Hand
open Go.RowKit Go.Proofs.YtandbobinjhehaaDoor.SA Go.Proofs.YtandbobinjhehaaDoor.SC Go.Proofs.YtandbobinjhehaaDoor.SE Go.Proofs.YtandbobinjhehaaDoorW.PrintWords
theorem w64 {x : Int} (h0 : -9223372036854775808 ≤ x) (h1 : x ≤ 9223372036854775807) : wrap64 x = x := by unfold wrap64; omega
theorem bt_is (a : ByteArray) (i : Int) (h0 : 0 ≤ i) (h1 : i < a.size) : ∃ (c : UInt8) (r : List UInt8), a.data.toList.drop i.toNat = c :: r ∧ bt a i = (c.toNat : Int) ∧ a.data.toList.drop (i + 1).toNat = r := by
  have hi : i.toNat < a.size := by omega
  have hl : i.toNat < a.data.toList.length := by rw [Array.length_toList]; exact hi
  refine ⟨a.data.toList[i.toNat], a.data.toList.drop (i.toNat + 1), List.drop_eq_getElem_cons hl, ?_, by rw [show (i + 1).toNat = i.toNat + 1 by omega]⟩
  unfold bt
  rw [dif_pos hi]
  rfl
theorem signs2 : ∀ n : Nat, n < 256 → okByte ⟨#[45, 46]⟩ (UInt8.ofNat n) = decide (97 ≤ n ∧ n ≤ 122 ∨ 48 ≤ n ∧ n ≤ 57 ∨ n = 45 ∨ n = 46) := by decide +kernel
theorem signs3 : ∀ n : Nat, n < 256 → okByte ⟨#[45, 46, 47]⟩ (UInt8.ofNat n) = decide (97 ≤ n ∧ n ≤ 122 ∨ 48 ≤ n ∧ n ≤ 57 ∨ n = 45 ∨ n = 46 ∨ n = 47) := by decide +kernel
def signsOf (slash : Bool) : ByteArray := if slash then ⟨#[45, 46, 47]⟩ else ⟨#[45, 46]⟩
theorem ok_byte (slash : Bool) (c : UInt8) : okByte (signsOf slash) c = true ↔ (97 ≤ c.toNat ∧ c.toNat ≤ 122 ∨ 48 ≤ c.toNat ∧ c.toNat ≤ 57 ∨ c.toNat = 45 ∨ c.toNat = 46 ∨ slash = true ∧ c.toNat = 47) := by
  have hc := UInt8.toNat_lt c
  have e : UInt8.ofNat c.toNat = c := UInt8.ofNat_toNat
  cases slash
  · have := signs2 c.toNat (by simpa using hc)
    rw [e] at this
    rw [show signsOf false = ⟨#[45, 46]⟩ from rfl, this, decide_eq_true_iff]
    simp
  · have := signs3 c.toNat (by simpa using hc)
    rw [e] at this
    rw [show signsOf true = ⟨#[45, 46, 47]⟩ from rfl, this, decide_eq_true_iff]
    simp
theorem part_from (a : ByteArray) (slash : Bool) (ha : a.size ≤ 1000) : ∀ (d k : Nat) (i : Int), 0 ≤ i → i ≤ a.size → (a.size : Int) - i = d → d < k →
    postriderref06_part.l0 k a slash i = some ((a.data.toList.drop i.toNat).all (okByte (signsOf slash)) && decide (a.size ≤ 20)) := by
  intro d
  induction d with
  | zero =>
    intro k i h0 h1 hd hk
    obtain ⟨k, rfl⟩ : ∃ m, k = m + 1 := ⟨k - 1, by omega⟩
    simp only [postriderref06_part.l0]
    rw [if_neg (by omega), List.drop_eq_nil_of_le (by rw [Array.length_toList]; show a.size ≤ _; omega)]
    simp
    omega
  | succ d ih =>
    intro k i h0 h1 hd hk
    obtain ⟨k, rfl⟩ : ∃ m, k = m + 1 := ⟨k - 1, by omega⟩
    obtain ⟨c, r, hdr, hb, hr⟩ := bt_is a i h0 (by omega)
    have hi := ih k (i + 1) (by omega) (by omega) (by omega) (by omega)
    rw [hr] at hi
    simp only [postriderref06_part.l0]
    rw [if_pos (by omega), if_pos h0, w64 (by omega) (by omega), hb, hdr, List.all_cons, hi]
    have hok := ok_byte slash c
    by_cases h : okByte (signsOf slash) c = true
    · have h' := hok.1 h
      rw [h, Bool.true_and]
      repeat' split
      all_goals first | rfl | (exfalso; omega) | (exfalso; simp_all; omega)
    · have h' := fun z => h (hok.2 z)
      rw [Bool.eq_false_iff.2 h, Bool.false_and]
      repeat' split
      all_goals first | rfl | (exfalso; apply h'; omega) | (exfalso; apply h'; simp_all; omega)
theorem part_ref (k : Nat) (a : ByteArray) (slash : Bool) (ha : a.size ≤ 1000) (hk : 1000 < k) : postriderref06_part.f k a slash = some (partS a (signsOf slash)) := by
  unfold postriderref06_part.f partS
  have := part_from a slash ha a.size k 0 (by omega) (by omega) (by omega) (by omega)
  simpa using this
theorem Right_ref (k : Nat) (n : Int) (a1 a2 : ByteArray) (a3 a4 : Int) (h1 : a1.size ≤ 80) (h2 : a2.size ≤ 80) (hk : 1000 < k) : postriderref06_Right.f k n a1 a2 a3 a4 = some (rightS n a1 a2 a3 a4) := by
  unfold postriderref06_Right.f rightS
  by_cases e0 : n = 0
  · rw [if_pos e0, if_pos e0, e0]
    simp
  · rw [if_neg e0, if_neg e0]
    by_cases e1 : n = 1
    · rw [if_pos e1, if_pos e1, part_ref k a1 false (by omega) hk, part_ref k a2 true (by omega) hk]
      simp only [Option.bind_some, show signsOf false = ⟨#[45, 46]⟩ from rfl, show signsOf true = ⟨#[45, 46, 47]⟩ from rfl]
      by_cases hz : a1.toList = []
      · rw [if_pos hz]; simp [hz]
      · rw [if_neg hz]
        have : (a1.toList != []) = true := by simpa using hz
        rw [this, Bool.true_and]
        cases partS a1 ⟨#[45, 46]⟩ <;> cases partS a2 ⟨#[45, 46, 47]⟩ <;> by_cases h3 : a3 = 0 <;> simp [h3]
    · rw [if_neg e1, if_neg e1]
      by_cases e2 : n = 2
      · rw [if_pos e2, if_pos e2]
        by_cases q1 : a1.toList = [] <;> by_cases q2 : a2.toList = [] <;> by_cases q3 : a3 ≥ 1 <;> by_cases q4 : a3 ≤ 999999999 <;> by_cases q5 : a4 ≥ 0 <;> simp [q1, q2, q3, q4, q5]
      · rw [if_neg e2, if_neg e2]
theorem dig10 (d : Int) (h0 : 0 ≤ d) (h1 : d < 10) : (⟨#[48, 49, 50, 51, 52, 53, 54, 55, 56, 57]⟩ : ByteArray).extract d.toNat (d + 1).toNat = txt [UInt8.ofNat (48 + d.toNat)] := by
  rcases (show d = 0 ∨ d = 1 ∨ d = 2 ∨ d = 3 ∨ d = 4 ∨ d = 5 ∨ d = 6 ∨ d = 7 ∨ d = 8 ∨ d = 9 by omega) with rfl | rfl | rfl | rfl | rfl | rfl | rfl | rfl | rfl | rfl <;> decide +kernel
theorem txt_app (l r : List UInt8) : txt l ++ txt r = txt (l ++ r) := by
  apply ByteArray.ext
  simp [txt, ByteArray.data_append]
theorem Num_from : ∀ (k : Nat) (a : Int), 0 ≤ a → a ≤ 999999999 → a < 10 ^ k → postriderref06_Num.f (k + 1) a = some (txt (Lib.decDigits a.toNat)) := by
  intro k
  induction k with
  | zero =>
    intro a h0 h1 h2
    have : a = 0 := by omega
    subst this
    simp only [postriderref06_Num.f]
    rw [w64 (by decide) (by decide), if_pos (by decide), if_pos (by decide), if_pos (by decide), if_pos (by decide), dig10 0 (by decide) (by decide), Lib.decDigits]
    rfl
  | succ k ih =>
    intro a h0 h1 h2
    rw [postriderref06_Num.f, Lib.decDigits]
    by_cases h : a < 10
    · rw [if_pos h, if_pos h0, w64 (by omega) (by omega), if_pos (by omega), if_pos (by omega), dig10 a h0 h, dif_pos (by omega)]
    · have hd : Int.tdiv a 10 = a / 10 := Int.tdiv_eq_ediv_of_nonneg h0
      have hm : Int.tmod a 10 = a % 10 := Int.tmod_eq_emod_of_nonneg h0
      have hp : (10 : Int) ^ (k + 1) = 10 ^ k * 10 := Int.pow_succ ..
      rw [if_neg h, hd, hm, w64 (x := a / 10) (by omega) (by omega), ih (a / 10) (by omega) (by omega) (by rw [hp] at h2; omega), dif_neg (by omega)]
      simp only [Option.bind_some]
      rw [w64 (x := a % 10 + 1) (by omega) (by omega), if_pos (by omega), if_pos (by omega), if_pos (by omega), dig10 (a % 10) (by omega) (by omega), txt_app]
      have hl := dig_len 8 (a / 10).toNat (by omega)
      rw [if_pos (by rw [txt_size, txt_size]; simp; omega)]
      rw [show (a / 10).toNat = a.toNat / 10 by omega, show (a % 10).toNat = a.toNat % 10 by omega]
theorem Num_ref (k : Nat) (a : Int) (h0 : 0 ≤ a) (h1 : a ≤ 999999999) (hk : 1000 < k) : postriderref06_Num.f k a = some (txt (Lib.itoa a)) := by
  obtain ⟨k, rfl⟩ : ∃ m, k = (m + 9) + 1 := ⟨k - 10, by omega⟩
  rw [itoa_dig a h0]
  refine Num_from (k + 9) a h0 h1 ?_
  have : (10 : Int) ^ 9 ≤ 10 ^ (k + 9) := by
    rw [Int.pow_add]
    have : (0 : Int) < 10 ^ k := Int.pow_pos (by decide)
    omega
  omega
theorem Halves_ref (k : Nat) (n : Int) (a1 a2 : ByteArray) (a3 a4 : Int) (h1 : a1.size ≤ 80) (h2 : a2.size ≤ 80) (hk : 1000 < k) : postriderref06_Halves.f k n a1 a2 a3 a4 = some (halvesS n a1 a2 a3 a4) := by
  unfold postriderref06_Halves.f halvesS
  rw [Right_ref k n a1 a2 a3 a4 h1 h2 hk]
  simp only [Option.bind_some]
  by_cases hr : rightS n a1 a2 a3 a4 = true
  · rw [if_pos hr, if_pos hr]
    rcases right_num hr with rfl | rfl | rfl
    · rfl
    · rw [if_pos rfl, if_pos (by omega), if_pos (by omega), if_pos (by omega)]
      rfl
    · obtain ⟨_, _, h3, h3', h4, h4'⟩ := right_ipn hr
      rw [if_neg (by decide), if_pos rfl, Num_ref k a3 (by omega) h3' hk, Num_ref k a4 h4 h4' hk]
      simp only [Option.bind_some]
      have q3 := itoa_short a3 (by omega) (by omega)
      have q4 := itoa_short a4 (by omega) (by omega)
      rw [if_pos (by omega), if_pos (by omega)]
      rfl
  · rw [if_neg hr, if_neg hr]
theorem Print_ref (k : Nat) (n : Int) (a1 a2 : ByteArray) (a3 a4 : Int) (h1 : a1.size ≤ 80) (h2 : a2.size ≤ 80) (hk : 1000 < k) :
    postriderref06_Print.f k n a1 a2 a3 a4 = some (if rightS n a1 a2 a3 a4 = true then (textS n a1 a2 a3 a4, 0) else (⟨#[]⟩, 60)) := by
  unfold postriderref06_Print.f
  rw [Halves_ref k n a1 a2 a3 a4 h1 h2 hk]
  unfold halvesS
  by_cases hr : rightS n a1 a2 a3 a4 = true
  · rw [if_pos hr, if_pos hr]
    have := rest_size hr
    have := word_size n
    simp only [Option.bind_some]
    rw [if_pos trivial, if_pos (by omega), if_pos (by omega)]
    rfl
  · rw [if_neg hr, if_neg hr]
    rfl
theorem Home_ref (k : Nat) (n : Int) (a1 a2 : ByteArray) (a3 a4 : Int) (h1 : a1.size ≤ 80) (h2 : a2.size ≤ 80) (hk : 1000 < k) :
    postriderref06_Home.f k n a1 a2 a3 a4 = some (if rightS n a1 a2 a3 a4 = true then (n, a1, ⟨#[]⟩, a3, 0, 0) else (0, ⟨#[]⟩, ⟨#[]⟩, 0, 0, 60)) := by
  unfold postriderref06_Home.f
  rw [Right_ref k n a1 a2 a3 a4 h1 h2 hk]
  simp only [Option.bind_some]
  by_cases hr : rightS n a1 a2 a3 a4 = true
  · rw [if_pos hr, if_pos hr]
  · rw [if_neg hr, if_neg hr]
end Go.Proofs.YtandbobinjhehaaDoor.Hand
end
section
namespace Go.Proofs.YtandbobinjhehaaDoor.Hand
open Go.RowKit Go.Proofs.YtandbobinjhehaaDoor.SA Go.Proofs.YtandbobinjhehaaDoor.SC Go.Proofs.YtandbobinjhehaaDoor.SE Go.Proofs.YtandbobinjhehaaDoorW.PrintWords
theorem ext_txt (a : ByteArray) (n m : Nat) : a.extract n m = txt ((a.data.toList.drop n).take (m - n)) := by
  apply ByteArray.ext
  apply Array.toList_inj.1
  simp [txt]
theorem drop_lt {l : List UInt8} {n : Nat} {q r : List UInt8} {c : UInt8} (h : l.drop n = q ++ c :: r) : n < l.length := by
  rcases Nat.lt_or_ge n l.length with h' | h'
  · exact h'
  · rw [List.drop_eq_nil_of_le h'] at h
    simp at h
theorem cut_hit (a : ByteArray) (c : UInt8) (ha : a.size ≤ 1000) (frm : Int) (hf : 0 ≤ frm) : ∀ (q r : List UInt8) (k : Nat) (i : Int), frm ≤ i → a.data.toList.drop i.toNat = q ++ c :: r → c ∉ q → q.length < k →
    postriderref06_cut.l0 k a frm (c.toNat : Int) i = some (a.extract frm.toNat (i.toNat + q.length), txt r) := by
  intro q
  induction q with
  | nil =>
    intro r k i hfi hd _ hk
    obtain ⟨k, rfl⟩ : ∃ m, k = m + 1 := ⟨k - 1, by simp at hk; omega⟩
    have hlen : i.toNat < a.size := by
      have := drop_lt hd
      rwa [Array.length_toList] at this
    obtain ⟨c', r', hdr, hb, hr⟩ := bt_is a i (by omega) (by omega)
    rw [hdr] at hd
    simp only [List.nil_append, List.cons.injEq] at hd
    obtain ⟨rfl, rfl⟩ := hd
    simp only [postriderref06_cut.l0]
    rw [if_pos (by omega), if_pos (by omega), if_pos hb, if_pos hf, if_pos hfi, if_pos (by omega), w64 (by omega) (by omega), if_pos (by omega), if_pos (by omega), ext_txt a _ a.size, hr]
    congr 1
    rw [List.take_of_length_le]
    · rfl
    · rw [← hr]
      simp
  | cons b q ih =>
    intro r k i hfi hd hc hk
    obtain ⟨k, rfl⟩ : ∃ m, k = m + 1 := ⟨k - 1, by simp at hk; omega⟩
    have hlen : i.toNat < a.size := by
      have := drop_lt hd
      rwa [Array.length_toList] at this
    obtain ⟨c', r', hdr, hb, hr⟩ := bt_is a i (by omega) (by omega)
    rw [hdr] at hd
    simp only [List.cons_append, List.cons.injEq] at hd
    obtain ⟨rfl, rfl⟩ := hd
    have hne : ¬ (bt a i = (c.toNat : Int)) := by
      rw [hb]
      intro h
      apply hc
      have : c'.toNat = c.toNat := by omega
      rw [UInt8.toNat_inj.1 this]
      exact List.mem_cons_self ..
    simp only [postriderref06_cut.l0]
    rw [if_pos (by omega), if_pos (by omega), if_neg hne, w64 (by omega) (by omega), ih r k (i + 1) (by omega) hr (fun h => hc (List.mem_cons_of_mem _ h)) (by simp at hk; omega)]
    rw [show (i + 1).toNat + q.length = i.toNat + (c' :: q).length by simp; omega]
theorem cut_total (a : ByteArray) (c : Int) (ha : a.size ≤ 1000) (frm : Int) (hf : 0 ≤ frm) : ∀ (d k : Nat) (i : Int), frm ≤ i → (a.size : Int) - i ≤ d → d < k →
    ∃ y z : ByteArray, postriderref06_cut.l0 k a frm c i = some (y, z) ∧ y.size ≤ a.size ∧ z.size ≤ a.size := by
  intro d
  induction d with
  | zero =>
    intro k i hfi hd hk
    obtain ⟨k, rfl⟩ : ∃ m, k = m + 1 := ⟨k - 1, by omega⟩
    simp only [postriderref06_cut.l0]
    rw [if_neg (by omega)]
    exact ⟨_, _, rfl, Nat.zero_le _, Nat.zero_le _⟩
  | succ d ih =>
    intro k i hfi hd hk
    obtain ⟨k, rfl⟩ : ∃ m, k = m + 1 := ⟨k - 1, by omega⟩
    simp only [postriderref06_cut.l0]
    by_cases h : i < (a.size : Int)
    · rw [if_pos h, if_pos (by omega), w64 (by omega) (by omega)]
      by_cases hb : bt a i = c
      · rw [if_pos hb, if_pos hf, if_pos hfi, if_pos (by omega), if_pos (by omega), if_pos (by omega)]
        exact ⟨_, _, rfl, by rw [ByteArray.size_extract]; omega, by rw [ByteArray.size_extract]; omega⟩
      · rw [if_neg hb]
        exact ih k (i + 1) (by omega) (by omega) (by omega)
    · rw [if_neg h]
      exact ⟨_, _, rfl, Nat.zero_le _, Nat.zero_le _⟩
def numStep (n : Int) (c : UInt8) : Int := mn (10 * n + (c.toNat : Int) % 48 % 10) 1000000000
theorem number_from (x : ByteArray) (hx : x.size ≤ 1000) : ∀ (d k : Nat) (n i : Int), 0 ≤ i → i ≤ x.size → (x.size : Int) - i = d → d < k → 0 ≤ n → n ≤ 1000000000 →
    postriderref06_number.l0 k x n i = some ((x.data.toList.drop i.toNat).foldl numStep n) := by
  intro d
  induction d with
  | zero =>
    intro k n i h0 h1 hd hk _ _
    obtain ⟨k, rfl⟩ : ∃ m, k = m + 1 := ⟨k - 1, by omega⟩
    simp only [postriderref06_number.l0]
    rw [if_neg (by omega), List.drop_eq_nil_of_le (by rw [Array.length_toList]; show x.size ≤ _; omega)]
    rfl
  | succ d ih =>
    intro k n i h0 h1 hd hk hn hn'
    obtain ⟨k, rfl⟩ : ∃ m, k = m + 1 := ⟨k - 1, by omega⟩
    obtain ⟨c, r, hdr, hb, hr⟩ := bt_is x i h0 (by omega)
    have hc := UInt8.toNat_lt c
    have hc' : (c.toNat : Int) < 256 := by have := hc; simp at this; omega
    have hm1 : Int.tmod (c.toNat : Int) 48 = (c.toNat : Int) % 48 := Int.tmod_eq_emod_of_nonneg (by omega)
    have hm2 : Int.tmod ((c.toNat : Int) % 48) 10 = (c.toNat : Int) % 48 % 10 := Int.tmod_eq_emod_of_nonneg (by omega)
    have hs : 0 ≤ numStep n c ∧ numStep n c ≤ 1000000000 := by
      unfold numStep mn
      split <;> omega
    simp only [postriderref06_number.l0]
    rw [if_pos (by omega), if_pos h0, hb, w64 (x := (c.toNat : Int)) (by omega) (by omega), hm1, hm2, w64 (x := 10 * n) (by omega) (by omega), w64 (x := 10 * n + _) (by omega) (by omega), w64 (x := i + 1) (by omega) (by omega)]
    have := ih k (numStep n c) (i + 1) (by omega) (by omega) (by omega) (by omega) hs.1 hs.2
    rw [hr] at this
    rw [hdr, List.foldl_cons]
    exact this
theorem number_is (k : Nat) (x : ByteArray) (hx : x.size ≤ 1000) (hk : 1000 < k) : postriderref06_number.f k x = some (x.data.toList.foldl numStep 0) := by
  unfold postriderref06_number.f
  have := number_from x hx x.size k 0 0 (by omega) (by omega) (by omega) (by omega) (by omega) (by omega)
  simpa using this
theorem fold_dig : ∀ u : Nat, u ≤ 999999999 → (Lib.decDigits u).foldl numStep 0 = (u : Int) := by
  intro u
  induction u using Nat.strongRecOn with
  | _ u ih =>
    intro hu
    rw [Lib.decDigits]
    split
    · have : (UInt8.ofNat (48 + u)).toNat = 48 + u := by simp; omega
      simp only [List.foldl_cons, List.foldl_nil, numStep, this]
      unfold mn
      split <;> omega
    · have : (UInt8.ofNat (48 + u % 10)).toNat = 48 + u % 10 := by simp; omega
      rw [List.foldl_append, ih (u / 10) (by omega) (by omega)]
      simp only [List.foldl_cons, List.foldl_nil, numStep, this]
      unfold mn
      split <;> omega
theorem number_itoa (k : Nat) (a : Int) (h0 : 0 ≤ a) (h1 : a ≤ 999999999) (hk : 1000 < k) : postriderref06_number.f k (txt (Lib.itoa a)) = some a := by
  have hs := itoa_short a h0 (by omega)
  rw [number_is k _ (by omega) hk, itoa_dig a h0]
  have := fold_dig a.toNat (by omega)
  rw [show (txt (Lib.decDigits a.toNat)).data.toList = Lib.decDigits a.toNat from rfl, this]
  congr 1
  omega
theorem cut_ipn (k : Nat) (a3 a4 : Int) (h3 : 0 ≤ a3) (h3' : a3 ≤ 999999999) (h4 : 0 ≤ a4) (h4' : a4 ≤ 999999999) (hk : 1000 < k) :
    postriderref06_cut.f k (restIpn a3 a4) 0 46 = some (txt (Lib.itoa a3), txt (Lib.itoa a4)) := by
  have hn : (46 : UInt8) ∉ Lib.itoa a3 := by
    intro hm
    rw [itoa_dig a3 h3] at hm
    have := dig_ok _ _ hm
    simp at this
  have s3 := itoa_short a3 h3 (by omega)
  have s4 := itoa_short a4 h4 (by omega)
  rw [txt_size] at s3 s4
  have hsz : (restIpn a3 a4).size ≤ 1000 := by
    have e : (restIpn a3 a4).size = (restIpn a3 a4).data.toList.length := (Array.length_toList ..).symm
    rw [e, restIpn_data]
    simp
    omega
  unfold postriderref06_cut.f
  have := cut_hit (restIpn a3 a4) 46 hsz 0 (by decide) (Lib.itoa a3) (Lib.itoa a4) k 0 (by decide) (by rw [restIpn_data]; rfl) hn (by omega)
  rw [show (((46 : UInt8).toNat : Nat) : Int) = 46 from rfl] at this
  rw [this, ext_txt, restIpn_data]
  simp
theorem cut_dtn (k : Nat) (a1 a2 : ByteArray) (h : partS a1 ⟨#[45, 46]⟩ = true) (h2 : a2.size ≤ 80) (hk : 1000 < k) :
    postriderref06_cut.f k (restDtn a1 a2) 2 47 = some (a1, a2) := by
  have hn : (47 : UInt8) ∉ a1.data.toList := part_no h (by decide)
  have s1 := partS_size h
  have e1 : a1.data.toList.length = a1.size := Array.length_toList ..
  have e2 : a2.data.toList.length = a2.size := Array.length_toList ..
  have hsz : (restDtn a1 a2).size ≤ 1000 := by
    have e : (restDtn a1 a2).size = (restDtn a1 a2).data.toList.length := (Array.length_toList ..).symm
    rw [e, restDtn_data]
    simp only [List.length_append, List.length_cons, List.length_nil, e1, e2]
    omega
  unfold postriderref06_cut.f
  have := cut_hit (restDtn a1 a2) 47 hsz 2 (by decide) a1.data.toList a2.data.toList k 2 (by decide) (by rw [restDtn_data]; rfl) hn (by omega)
  rw [show (((47 : UInt8).toNat : Nat) : Int) = 47 from rfl] at this
  rw [this, ext_txt, restDtn_data, txt_data]
  simp
  exact txt_data a1
theorem word_ipn {n : Int} (h : wordS n = wIpn) : n = 2 := by
  unfold wordS at h
  by_cases hn : n = 2
  · exact hn
  · rw [if_neg hn] at h
    exact absurd h (by decide)
theorem joinT_none {a0 a1 : ByteArray} (h : ∀ n b1 b2 b3 b4, rightS n b1 b2 b3 b4 = true → wordS n = a0 → restS n b1 b2 b3 b4 = a1 → False) : joinT a0 a1 = (0, ⟨#[]⟩, ⟨#[]⟩, 0, 0, 60) := by
  unfold joinT
  cases hj : joinS a0 a1 with
  | none => rfl
  | some x =>
    obtain ⟨h1, h2, h3⟩ := join_right hj
    exact (h _ _ _ _ _ h1 h2 h3).elim
theorem Join_ref (k : Nat) (a0 a1 : ByteArray) (h1 : a1.size ≤ 80) (hk : 1001 < k) : postriderref06_Join.f k a0 a1 = some (joinT a0 a1) := by
  have e0 : (⟨#[]⟩ : ByteArray).size ≤ 80 := by decide
  have li : wIpn.toList = [105, 112, 110] := by rw [ByteArray.toList_eq]; rfl
  have ln : wNone.toList = [110, 111, 110, 101] := by rw [ByteArray.toList_eq]; rfl
  unfold postriderref06_Join.f
  by_cases hi : a0.toList = [105, 112, 110]
  · rw [if_pos hi]
    obtain rfl : a0 = wIpn := ba_ext (hi.trans li.symm)
    obtain ⟨y, z, hyz, hy, hz⟩ := cut_total a1 46 (by omega) 0 (by decide) a1.size k 0 (by decide) (by omega) (by omega)
    have hcut : postriderref06_cut.f k a1 0 46 = some (y, z) := hyz
    rw [hcut]
    simp only [Option.bind_some]
    obtain ⟨n1, hn1⟩ : ∃ n, postriderref06_number.f k y = some n := ⟨_, number_is k y (by omega) (by omega)⟩
    obtain ⟨n2, hn2⟩ : ∃ n, postriderref06_number.f k z = some n := ⟨_, number_is k z (by omega) (by omega)⟩
    rw [hn1, hn2]
    simp only [Option.bind_some]
    rw [Halves_ref k 2 _ _ n1 n2 e0 e0 (by omega)]
    unfold halvesS
    have key : ∀ n b1 b2 b3 b4, rightS n b1 b2 b3 b4 = true → wordS n = wIpn → restS n b1 b2 b3 b4 = a1 → rightS 2 ⟨#[]⟩ ⟨#[]⟩ n1 n2 = true ∧ restS 2 ⟨#[]⟩ ⟨#[]⟩ n1 n2 = a1 := by
      intro n b1 b2 b3 b4 hr hw hrest
      obtain rfl := word_ipn hw
      obtain ⟨q1, q2, q3, q3', q4, q4'⟩ := right_ipn hr
      obtain rfl := ba_nil q1
      obtain rfl := ba_nil q2
      have hc := cut_ipn k b3 b4 (by omega) q3' q4 q4' (by omega)
      rw [show restIpn b3 b4 = a1 from hrest, hcut] at hc
      simp only [Option.some.injEq, Prod.mk.injEq] at hc
      rw [hc.1, number_itoa k b3 (by omega) q3' (by omega)] at hn1
      rw [hc.2, number_itoa k b4 q4 q4' (by omega)] at hn2
      obtain rfl := Option.some.inj hn1
      obtain rfl := Option.some.inj hn2
      exact ⟨hr, hrest⟩
    by_cases hr : rightS 2 ⟨#[]⟩ ⟨#[]⟩ n1 n2 = true
    · rw [if_pos hr]
      simp only [Option.bind_some]
      rw [if_pos trivial, if_pos (show (wordS 2).toList = wIpn.toList from rfl)]
      by_cases ha : (restS 2 ⟨#[]⟩ ⟨#[]⟩ n1 n2).toList = a1.toList
      · rw [if_pos ha, ← ba_ext ha, show wIpn = wordS 2 from rfl, joinT_of hr]
      · rw [if_neg ha, joinT_none]
        intro n b1 b2 b3 b4 q1 q2 q3
        exact ha (by rw [(key n b1 b2 b3 b4 q1 q2 q3).2])
    · rw [if_neg hr]
      simp only [Option.bind_some]
      rw [if_neg (by decide), joinT_none]
      intro n b1 b2 b3 b4 q1 q2 q3
      exact hr (key n b1 b2 b3 b4 q1 q2 q3).1
  · rw [if_neg hi]
    obtain ⟨k, rfl⟩ : ∃ m, k = m + 1 := ⟨k - 1, by omega⟩
    have hno : ∀ n, wordS n = a0 → n ≠ 2 := by
      rintro n hw rfl
      exact hi (by rw [← hw]; exact li)
    have w01 : ∀ n, n ≠ 2 → wordS n = wDtn := by
      intro n hn
      unfold wordS
      rw [if_neg hn]
    have r0 : rightS 0 ⟨#[]⟩ ⟨#[]⟩ 0 0 = true := by
      unfold rightS
      rw [if_pos rfl, ByteArray.toList_eq]
      rfl
    by_cases hn : a1.toList = [110, 111, 110, 101]
    · rw [if_pos hn]
      obtain rfl : a1 = wNone := ba_ext (hn.trans ln.symm)
      simp only [postriderref06_Join.j0]
      rw [if_neg (by decide), Halves_ref k 0 _ _ 0 0 e0 e0 (by omega)]
      unfold halvesS
      rw [if_pos r0]
      simp only [Option.bind_some]
      rw [if_pos trivial]
      by_cases hw : (wordS 0).toList = a0.toList
      · rw [if_pos hw, if_pos (show (restS 0 ⟨#[]⟩ ⟨#[]⟩ 0 0).toList = wNone.toList from rfl), ← ba_ext hw, show wNone = restS 0 ⟨#[]⟩ ⟨#[]⟩ 0 0 from rfl, joinT_of r0]
      · rw [if_neg hw, joinT_none]
        intro n b1 b2 b3 b4 _ q2 _
        apply hw
        rw [← q2, w01 n (hno n q2)]
        rfl
    · rw [if_neg hn]
      have hnn : ∀ n b1 b2 b3 b4, rightS n b1 b2 b3 b4 = true → wordS n = a0 → restS n b1 b2 b3 b4 = a1 → n = 1 := by
        intro n b1 b2 b3 b4 q1 q2 q3
        rcases right_num q1 with rfl | rfl | rfl
        · exact absurd (show a1.toList = [110, 111, 110, 101] by rw [← q3]; exact ln) hn
        · rfl
        · exact absurd rfl (hno 2 q2)
      by_cases hs : (a1.size : Int) > 2
      · rw [decide_eq_true hs]
        simp only [postriderref06_Join.j0]
        obtain ⟨y, z, hyz, hy, hz⟩ := cut_total a1 47 (by omega) 2 (by decide) a1.size k 2 (by decide) (by omega) (by omega)
        have hcut : postriderref06_cut.f k a1 2 47 = some (y, z) := hyz
        rw [if_pos trivial, hcut]
        simp only [Option.bind_some]
        rw [Halves_ref k 1 y z 0 0 (by omega) (by omega) (by omega)]
        unfold halvesS
        have key : ∀ n b1 b2 b3 b4, rightS n b1 b2 b3 b4 = true → wordS n = a0 → restS n b1 b2 b3 b4 = a1 → rightS 1 y z 0 0 = true ∧ restS 1 y z 0 0 = a1 ∧ wordS 1 = a0 := by
          intro n b1 b2 b3 b4 hr hw hrest
          obtain rfl := hnn n b1 b2 b3 b4 hr hw hrest
          obtain ⟨_, hp, hq, rfl, rfl⟩ := right_dtn hr
          have hc := cut_dtn k b1 b2 hp (by have := partS_size hq; omega) (by omega)
          rw [show restDtn b1 b2 = a1 from hrest, hcut] at hc
          simp only [Option.some.injEq, Prod.mk.injEq] at hc
          obtain ⟨rfl, rfl⟩ := hc
          exact ⟨hr, hrest, hw⟩
        by_cases hr : rightS 1 y z 0 0 = true
        · rw [if_pos hr]
          simp only [Option.bind_some]
          rw [if_pos trivial]
          by_cases hw : (wordS 1).toList = a0.toList
          · rw [if_pos hw]
            by_cases ha : (restS 1 y z 0 0).toList = a1.toList
            · rw [if_pos ha, ← ba_ext ha, ← ba_ext hw, joinT_of hr]
            · rw [if_neg ha, joinT_none]
              intro n b1 b2 b3 b4 q1 q2 q3
              exact ha (by rw [(key n b1 b2 b3 b4 q1 q2 q3).2.1])
          · rw [if_neg hw, joinT_none]
            intro n b1 b2 b3 b4 q1 q2 q3
            exact hw (by rw [(key n b1 b2 b3 b4 q1 q2 q3).2.2])
        · rw [if_neg hr]
          simp only [Option.bind_some]
          rw [if_neg (by decide), joinT_none]
          intro n b1 b2 b3 b4 q1 q2 q3
          exact hr (key n b1 b2 b3 b4 q1 q2 q3).1
      · rw [decide_eq_false hs]
        simp only [postriderref06_Join.j0]
        rw [if_neg (by decide), Halves_ref k 0 _ _ 0 0 e0 e0 (by omega)]
        unfold halvesS
        rw [if_pos r0]
        simp only [Option.bind_some]
        rw [if_pos trivial, joinT_none]
        · by_cases hw : (wordS 0).toList = a0.toList
          · rw [if_pos hw, if_neg]
            intro hx
            exact hn (by rw [← hx]; exact ln)
          · rw [if_neg hw]
        · intro n b1 b2 b3 b4 q1 q2 q3
          obtain rfl := hnn n b1 b2 b3 b4 q1 q2 q3
          have e : (restDtn b1 b2).size = (restDtn b1 b2).data.toList.length := (Array.length_toList ..).symm
          rw [show restDtn b1 b2 = a1 from q3] at e
          rw [← show restDtn b1 b2 = a1 from q3, restDtn_data] at e
          simp at e
          rw [show restDtn b1 b2 = a1 from q3] at e
          omega
theorem Parse_ref (k : Nat) (s : ByteArray) (hs : s.size ≤ 80) (hk : 1001 < k) : postriderref06_Parse.f k s = some (parseS s) := by
  have sl : s.data.toList.length = s.size := Array.length_toList ..
  have wl : ∀ n, (wordS n).data.toList.length = 3 := fun n => (Array.length_toList ..).trans (word_size n)
  have three : ¬ (3 < s.size ∧ s.data.toList[3]? = some 58) → parseS s = (0, ⟨#[]⟩, ⟨#[]⟩, 0, 0, 60) := by
    intro hno
    unfold parseS
    by_cases hc : (Lib.cut s.data.toList [58]).2.2 = true
    · rw [if_pos hc]
      have hf := cut_found _ _ hc
      apply joinT_none
      intro n b1 b2 b3 b4 _ q2 _
      apply hno
      have hl : (Lib.cut s.data.toList [58]).1.length = 3 := by
        rw [← wl n, q2]
        rfl
      constructor
      · rw [← sl, hf]
        simp
        omega
      · rw [hf, List.getElem?_append_right (by omega), hl]
        rfl
    · rw [if_neg hc]
  unfold postriderref06_Parse.f
  by_cases h4 : (s.size : Int) < 4
  · rw [if_pos h4, three (by rintro ⟨h, _⟩; omega)]
  · rw [if_neg h4, if_pos (by omega)]
    have hget : s.data.toList[3]? = some (s.data.toList[3]'(by omega)) := List.getElem?_eq_getElem _
    obtain ⟨c, r, hdr, hb, hr⟩ := bt_is s 3 (by decide) (by omega)
    have hdr' : s.data.toList.drop 3 = c :: r := hdr
    have hr' : s.data.toList.drop 4 = r := hr
    have hc3 : s.data.toList[3]? = some c := by
      rw [← List.head?_drop, hdr']
      rfl
    by_cases hb3 : bt s 3 = 58
    · rw [if_pos hb3, if_pos (by decide), if_pos (by omega), if_pos (by omega)]
      obtain rfl : c = 58 := UInt8.toNat_inj.1 (by rw [hb] at hb3; show c.toNat = 58; omega)
      have hx3 : s.extract 0 3 = txt (s.data.toList.take 3) := by rw [ext_txt]; rfl
      have hx4 : s.extract 4 s.size = txt r := by
        rw [ext_txt, hr', List.take_of_length_le]
        rw [← hr', List.length_drop, sl]
        omega
      rw [Join_ref k _ _ (by rw [ByteArray.size_extract]; omega) hk, hx3, hx4]
      simp only [Option.bind_some]
      have hsplit : s.data.toList = s.data.toList.take 3 ++ 58 :: r := by rw [← hdr', List.take_append_drop]
      by_cases hm : (58 : UInt8) ∈ s.data.toList.take 3
      · rw [joinT_none (a0 := txt (s.data.toList.take 3))]
        · unfold parseS
          by_cases hc : (Lib.cut s.data.toList [58]).2.2 = true
          · rw [if_pos hc]
            have hf := cut_found _ _ hc
            rw [joinT_none]
            intro n b1 b2 b3 b4 _ q2 _
            have hp : (Lib.cut s.data.toList [58]).1 = s.data.toList.take 3 := by
              have hl : (Lib.cut s.data.toList [58]).1.length = 3 := by
                rw [← wl n, q2]
                rfl
              conv => rhs; rw [hf, List.take_append_of_le_length (by omega), ← hl, List.take_length]
            apply word_no n
            rw [q2, hp]
            exact hm
          · rw [if_neg hc]
        · intro n b1 b2 b3 b4 _ q2 _
          apply word_no n
          rw [q2]
          exact hm
      · unfold parseS
        rw [hsplit, cut_one _ _ _ hm]
        simp only [if_true]
        rw [← hsplit]
    · rw [if_neg hb3, three]
      rintro ⟨_, h⟩
      rw [hc3] at h
      obtain rfl := Option.some.inj h
      exact hb3 (by rw [hb]; rfl)
end Go.Proofs.YtandbobinjhehaaDoor.Hand
end
section
namespace Go.Proofs.YtandbobinjhehaaDoor.SF
open Go.Proofs.YtandbobinjhehaaDoor.Hand
open Go.Proofs.YtandbobinjhehaaDoor.SA
open Go.Proofs.YtandbobinjhehaaDoor.SC
open Go.Proofs.YtandbobinjhehaaDoor.SE
open Go.RowKit Go.Proofs.YtandbobinjhehaaDoorW.PrintWords Go.Proofs.YtandbobinjhehaaDoorW.PrintLast Go.Proofs.YtandbobinjhehaaDoorW.PrintMore
attribute [local go_sem] max2_int min2_int max_two min_two max_three min_three max_four min_four
set_option linter.unusedVariables false
set_option linter.unusedSimpArgs false
def errW : Option Int → Value
  | none => .nilIface
  | some c => .iface 0 (.int .i64 c)
theorem errW_none : errW none = .nilIface := rfl
theorem errW_some (c : Int) : errW (some c) = .iface 0 (.int .i64 c) := rfl
end Go.Proofs.YtandbobinjhehaaDoor.SF
end
section
namespace Go.Proofs.YtandbobinjhehaaDoor.SF
open Go.Proofs.YtandbobinjhehaaDoor.Hand
open Go.Proofs.YtandbobinjhehaaDoor.SA
open Go.Proofs.YtandbobinjhehaaDoor.SC
open Go.Proofs.YtandbobinjhehaaDoor.SE
open Go.RowKit Go.Proofs.YtandbobinjhehaaDoorW.PrintWords Go.Proofs.YtandbobinjhehaaDoorW.PrintLast Go.Proofs.YtandbobinjhehaaDoorW.PrintMore
attribute [local go_sem] max2_int min2_int max_two min_two max_three min_three max_four min_four
set_option linter.unusedVariables false
set_option linter.unusedSimpArgs false
theorem eqA23 (d : Nat) (w : World) (x0 y0 : Int) (x1 y1 : ByteArray) (x2 y2 : ByteArray) (x3 y3 : Int) (x4 y4 : Int) :
    (Op.equalIn (d + 2) 23 (.agg #[.int .i64 x0, .string x1, .string x2, .int .i64 x3, .int .i64 x4]) (.agg #[.int .i64 y0, .string y1, .string y2, .int .i64 y3, .int .i64 y4])).run Tryd.prog w = .ok (x0 == y0 && (x1.toList == y1.toList && (x2.toList == y2.toList && (x3 == y3 && (x4 == y4))))) w := by
  refine eqA_of Tryd.underlying23 (by kernel_rfl) ?_
  refine eqf_cons (by rfl) (by go_simp; rfl) (by go_simp; rfl) (by go_simp) ?_
  refine eqf_cons (by rfl) (by go_simp; rfl) (by go_simp; rfl) (by go_simp) ?_
  refine eqf_cons (by rfl) (by go_simp; rfl) (by go_simp; rfl) (by go_simp) ?_
  refine eqf_cons (by rfl) (by go_simp; rfl) (by go_simp; rfl) (by go_simp) ?_
  exact eqf_last (by rfl) (by go_simp; rfl) (by go_simp; rfl) (by go_simp)
end Go.Proofs.YtandbobinjhehaaDoor.SF
end
section
namespace Go.Proofs.YtandbobinjhehaaDoor.SF
open Go.Proofs.YtandbobinjhehaaDoor.Hand
open Go.Proofs.YtandbobinjhehaaDoor.SA
open Go.Proofs.YtandbobinjhehaaDoor.SC
open Go.Proofs.YtandbobinjhehaaDoor.SE
open Go.RowKit Go.Proofs.YtandbobinjhehaaDoorW.PrintWords Go.Proofs.YtandbobinjhehaaDoorW.PrintLast Go.Proofs.YtandbobinjhehaaDoorW.PrintMore
attribute [local go_sem] max2_int min2_int max_two min_two max_three min_three max_four min_four
set_option linter.unusedVariables false
set_option linter.unusedSimpArgs false
attribute [local go_sem high] eqA23
def postriderlaw06_EidTexts.f (k : Nat) (a0_0 : Int) (a0_1 : ByteArray) (a0_2 : ByteArray) (a0_3 : Int) (a0_4 : Int) (a1 : ByteArray) (a2 : ByteArray) : Option (Bool) := (postriderlaw06_shown.f).bind fun t102 => ((postriderlaw06_Cut.f a0_0 a0_1 a0_2 a0_3 a0_4).bind fun bt103 => ((postriderlaw06_cut.f a1).bind fun t108 => ((postriderlaw06_cut.f a2).bind fun t109 => ((eid_Halves.f bt103.1 bt103.2.1 bt103.2.2.1 bt103.2.2.2.1 bt103.2.2.2.2).bind fun bt110 => ((postriderref06_Halves.f k bt103.1 bt103.2.1 bt103.2.2.1 bt103.2.2.2.1 bt103.2.2.2.2).bind fun bt113 => ((eid_Join.f t108 t109).bind fun bt116 => ((postriderref06_Join.f k t108 t109).bind fun bt123 => ((eid_Print.f bt103.1 bt103.2.1 bt103.2.2.1 bt103.2.2.2.1 bt103.2.2.2.2).bind fun bt130 => ((postriderref06_Print.f k bt103.1 bt103.2.1 bt103.2.2.1 bt103.2.2.2.1 bt103.2.2.2.2).bind fun bt132 => ((eid_Parse.f t108).bind fun bt134 => ((postriderref06_Parse.f k t108).bind fun bt141 => ((eid_Home.f bt103.1 bt103.2.1 bt103.2.2.1 bt103.2.2.2.1 bt103.2.2.2.2).bind fun bt148 => ((postriderref06_Home.f k bt103.1 bt103.2.1 bt103.2.2.1 bt103.2.2.2.1 bt103.2.2.2.2).bind fun bt155 => (if t102 = true then ((eid_Right.f bt103.1 bt103.2.1 bt103.2.2.1 bt103.2.2.2.1 bt103.2.2.2.2).bind fun t162 => ((postriderref06_Right.f k bt103.1 bt103.2.1 bt103.2.2.1 bt103.2.2.2.1 bt103.2.2.2.2).bind fun t163 => (if (t162 == t163) = true then (if bt110.1.toList = bt113.1.toList then (if bt110.2.1.toList = bt113.2.1.toList then (if bt110.2.2 = bt113.2.2 then (if (bt116.1 == bt123.1 && (bt116.2.1.toList == bt123.2.1.toList && (bt116.2.2.1.toList == bt123.2.2.1.toList && (bt116.2.2.2.1 == bt123.2.2.2.1 && (bt116.2.2.2.2.1 == bt123.2.2.2.2.1))))) = true then (if bt116.2.2.2.2.2 = bt123.2.2.2.2.2 then (if bt130.1.toList = bt132.1.toList then (if bt130.2 = bt132.2 then (if (bt134.1 == bt141.1 && (bt134.2.1.toList == bt141.2.1.toList && (bt134.2.2.1.toList == bt141.2.2.1.toList && (bt134.2.2.2.1 == bt141.2.2.2.1 && (bt134.2.2.2.2.1 == bt141.2.2.2.2.1))))) = true then (if bt134.2.2.2.2.2 = bt141.2.2.2.2.2 then (if (bt148.1 == bt155.1 && (bt148.2.1.toList == bt155.2.1.toList && (bt148.2.2.1.toList == bt155.2.2.1.toList && (bt148.2.2.2.1 == bt155.2.2.2.1 && (bt148.2.2.2.2.1 == bt155.2.2.2.2.1))))) = true then (some (bt148.2.2.2.2.2 == bt155.2.2.2.2.2)) else (none)) else (none)) else (none)) else (none)) else (none)) else (none)) else (none)) else (none)) else (none)) else (none)) else (none)))) else (none)))))))))))))))
theorem postriderlaw06_EidTexts.mono : ∀ a0 a1 a2 a3 a4 a5 a6 k, LeO (postriderlaw06_EidTexts.f k a0 a1 a2 a3 a4 a5 a6) (postriderlaw06_EidTexts.f (k + 1) a0 a1 a2 a3 a4 a5 a6) := by
  intro a0 a1 a2 a3 a4 a5 a6 k
  unfold postriderlaw06_EidTexts.f
  repeat' first
      | (with_reducible exact postriderref06_Halves.mono _ _ _ _ _ _)
      | (with_reducible exact postriderref06_Home.mono _ _ _ _ _ _)
      | (with_reducible exact postriderref06_Join.mono _ _ _)
      | (with_reducible exact postriderref06_Parse.mono _ _)
      | (with_reducible exact postriderref06_Print.mono _ _ _ _ _ _)
      | (with_reducible exact postriderref06_Right.mono _ _ _ _ _ _)
      | (with_reducible exact LeO.refl _)
      | (with_reducible exact LeO.none _)
      | (with_reducible refine LeO.ite ?_ ?_)
      | (with_reducible refine LeO.bind ?_ (fun _ => ?_))
      | exact postriderref06_Halves.mono _ _ _ _ _ _
      | exact postriderref06_Home.mono _ _ _ _ _ _
      | exact postriderref06_Join.mono _ _ _
      | exact postriderref06_Parse.mono _ _
      | exact postriderref06_Print.mono _ _ _ _ _ _
      | exact postriderref06_Right.mono _ _ _ _ _ _
      | exact LeO.none _
      | refine LeO.ite ?_ ?_
      | refine LeO.bind ?_ (fun _ => ?_)
def postriderlaw06_EidTexts.T15 : Bool × List (List Nat × List Nat) := (true, [([], []), ([0], [0]), ([1], [1]), ([2, 1, 1], [1, 2]), ([1], [1]), ([4, 3, 1], [1, 4]), ([3, 5, 1], [1, 3, 5]), ([1, 6], [1, 6]), ([7, 5], [7]), ([8], [8]), ([8], [8]), ([9, 10, 8], [8, 9, 10]), ([8, 11], [8, 11]), ([12, 8], [12]), ([13], [13]), ([13], [13]), ([14, 15, 13], [13, 14, 15]), ([13, 16], [13, 16]), ([17, 13], [17]), ([18], [18]), ([18], [18]), ([19, 20, 18], [18, 19, 20]), ([18, 21], [18, 21]), ([22, 18], [22]), ([23], [23]), ([23], [23]), ([24, 25, 23], [23, 24, 25]), ([23, 26], [23, 26]), ([27, 23], [27]), ([28], [28]), ([28], [28]), ([29, 30, 28], [28, 29, 30]), ([28, 31], [28, 31]), ([32, 28], [32]), ([33], [33]), ([33], [33]), ([34, 35, 33], [33, 34, 35]), ([33, 36], [33, 36]), ([37, 33], [37]), ([38], [38]), ([38], [38]), ([39, 40, 38], [38, 39, 40]), ([38, 41], [38, 41]), ([42, 38], [42]), ([43], [43]), ([43], [43]), ([44, 45, 43], [43, 44, 45]), ([43, 46], [43, 46]), ([47, 43], [47]), ([48], [48]), ([48], [48]), ([49, 50, 48], [48, 49, 50]), ([48, 51], [48, 51]), ([52, 48], [52]), ([53], [53]), ([53], [53]), ([54, 55, 53], [53, 54, 55]), ([53, 56], [53, 56]), ([57, 53], [57]), ([58], [58]), ([58], [58]), ([59, 60, 58], [58, 59, 60]), ([58, 61], [58, 61]), ([62, 58, 0, 1, 2, 3, 4, 5, 6, 7, 8, 9, 10, 11, 12, 13, 14, 15, 16, 17, 18, 19, 20, 21, 22, 23, 24, 25, 26, 27, 28, 29, 30, 31, 32, 33, 34, 35, 36, 37, 38, 39, 40, 41, 42, 43, 44, 45, 46, 47, 48, 49, 50, 51, 52, 53, 54, 55, 56, 57, 58, 59, 60, 61, 62], [62])])
def postriderlaw06_EidTexts.B15 : List Nat := [0, 1, 3, 7, 3, 31, 63, 127, 255, 511, 511, 2047, 4095, 8191, 16383, 16383, 65535, 131071, 262143, 524287, 524287, 2097151, 4194303, 8388607, 16777215, 16777215, 67108863, 134217727, 268435455, 536870911, 536870911, 2147483647, 4294967295, 8589934591, 17179869183, 17179869183, 68719476735, 137438953471, 274877906943, 549755813887, 549755813887, 2199023255551, 4398046511103, 8796093022207, 17592186044415, 17592186044415, 70368744177663, 140737488355327, 281474976710655, 562949953421311, 562949953421311, 2251799813685247, 4503599627370495, 9007199254740991, 18014398509481983, 18014398509481983, 72057594037927935, 144115188075855871, 288230376151711743, 576460752303423487, 576460752303423487, 2305843009213693951, 4611686018427387903, 9223372036854775807]
theorem postriderlaw06_EidTexts.tab15 : rtab .any (opsOf Tryd.f3 15) = postriderlaw06_EidTexts.T15 := by kernel_rfl
theorem postriderlaw06_EidTexts.bits15 : waitsOk postriderlaw06_EidTexts.T15.2 postriderlaw06_EidTexts.B15 = true := by kernel_rfl
set_option maxHeartbeats 8000000 in
set_option maxRecDepth 100000 in
theorem postriderlaw06_EidTexts.calls (k : Nat) (a0_0 : Int) (a0_1 : ByteArray) (a0_2 : ByteArray) (a0_3 : Int) (a0_4 : Int) (a1 : ByteArray) (a2 : ByteArray) (r : Bool) (w : World) (hLd : Laid w) (h : postriderlaw06_EidTexts.f k a0_0 a0_1 a0_2 a0_3 a0_4 a1 a2 = some r) :
    Calls Tryd.prog 3 #[.agg #[.int .i64 a0_0, .string a0_1, .string a0_2, .int .i64 a0_3, .int .i64 a0_4], .string a1, .string a2] w fun e w' => e = .returned (.bool r) ∧ Below w.heap.size w w' := by
  have hu23 := Tryd.underlying23
  have HLD := Aside0.mk hLd
  clear hLd
  have HB := Aside0.mk (Below.refl w.heap.size w)
  have H : ((postriderlaw06_shown.f).bind fun t102 => ((postriderlaw06_Cut.f a0_0 a0_1 a0_2 a0_3 a0_4).bind fun bt103 => ((postriderlaw06_cut.f a1).bind fun t108 => ((postriderlaw06_cut.f a2).bind fun t109 => ((eid_Halves.f bt103.1 bt103.2.1 bt103.2.2.1 bt103.2.2.2.1 bt103.2.2.2.2).bind fun bt110 => ((postriderref06_Halves.f k bt103.1 bt103.2.1 bt103.2.2.1 bt103.2.2.2.1 bt103.2.2.2.2).bind fun bt113 => ((eid_Join.f t108 t109).bind fun bt116 => ((postriderref06_Join.f k t108 t109).bind fun bt123 => ((eid_Print.f bt103.1 bt103.2.1 bt103.2.2.1 bt103.2.2.2.1 bt103.2.2.2.2).bind fun bt130 => ((postriderref06_Print.f k bt103.1 bt103.2.1 bt103.2.2.1 bt103.2.2.2.1 bt103.2.2.2.2).bind fun bt132 => ((eid_Parse.f t108).bind fun bt134 => ((postriderref06_Parse.f k t108).bind fun bt141 => ((eid_Home.f bt103.1 bt103.2.1 bt103.2.2.1 bt103.2.2.2.1 bt103.2.2.2.2).bind fun bt148 => ((postriderref06_Home.f k bt103.1 bt103.2.1 bt103.2.2.1 bt103.2.2.2.1 bt103.2.2.2.2).bind fun bt155 => (if t102 = true then ((eid_Right.f bt103.1 bt103.2.1 bt103.2.2.1 bt103.2.2.2.1 bt103.2.2.2.2).bind fun t162 => ((postriderref06_Right.f k bt103.1 bt103.2.1 bt103.2.2.1 bt103.2.2.2.1 bt103.2.2.2.2).bind fun t163 => (if (t162 == t163) = true then (if bt110.1.toList = bt113.1.toList then (if bt110.2.1.toList = bt113.2.1.toList then (if bt110.2.2 = bt113.2.2 then (if (bt116.1 == bt123.1 && (bt116.2.1.toList == bt123.2.1.toList && (bt116.2.2.1.toList == bt123.2.2.1.toList && (bt116.2.2.2.1 == bt123.2.2.2.1 && (bt116.2.2.2.2.1 == bt123.2.2.2.2.1))))) = true then (if bt116.2.2.2.2.2 = bt123.2.2.2.2.2 then (if bt130.1.toList = bt132.1.toList then (if bt130.2 = bt132.2 then (if (bt134.1 == bt141.1 && (bt134.2.1.toList == bt141.2.1.toList && (bt134.2.2.1.toList == bt141.2.2.1.toList && (bt134.2.2.2.1 == bt141.2.2.2.1 && (bt134.2.2.2.2.1 == bt141.2.2.2.2.1))))) = true then (if bt134.2.2.2.2.2 = bt141.2.2.2.2.2 then (if (bt148.1 == bt155.1 && (bt148.2.1.toList == bt155.2.1.toList && (bt148.2.2.1.toList == bt155.2.2.1.toList && (bt148.2.2.2.1 == bt155.2.2.2.1 && (bt148.2.2.2.2.1 == bt155.2.2.2.2.1))))) = true then (some (bt148.2.2.2.2.2 == bt155.2.2.2.2.2)) else (none)) else (none)) else (none)) else (none)) else (none)) else (none)) else (none)) else (none)) else (none)) else (none)) else (none)))) else (none)))))))))))))))) = some r := h
  clear h
  replace H := Option.bind_eq_some_iff.mp H
  obtain ⟨t102, A40, H⟩ := H
  replace H : ((postriderlaw06_Cut.f a0_0 a0_1 a0_2 a0_3 a0_4).bind fun bt103 => ((postriderlaw06_cut.f a1).bind fun t108 => ((postriderlaw06_cut.f a2).bind fun t109 => ((eid_Halves.f bt103.1 bt103.2.1 bt103.2.2.1 bt103.2.2.2.1 bt103.2.2.2.2).bind fun bt110 => ((postriderref06_Halves.f k bt103.1 bt103.2.1 bt103.2.2.1 bt103.2.2.2.1 bt103.2.2.2.2).bind fun bt113 => ((eid_Join.f t108 t109).bind fun bt116 => ((postriderref06_Join.f k t108 t109).bind fun bt123 => ((eid_Print.f bt103.1 bt103.2.1 bt103.2.2.1 bt103.2.2.2.1 bt103.2.2.2.2).bind fun bt130 => ((postriderref06_Print.f k bt103.1 bt103.2.1 bt103.2.2.1 bt103.2.2.2.1 bt103.2.2.2.2).bind fun bt132 => ((eid_Parse.f t108).bind fun bt134 => ((postriderref06_Parse.f k t108).bind fun bt141 => ((eid_Home.f bt103.1 bt103.2.1 bt103.2.2.1 bt103.2.2.2.1 bt103.2.2.2.2).bind fun bt148 => ((postriderref06_Home.f k bt103.1 bt103.2.1 bt103.2.2.1 bt103.2.2.2.1 bt103.2.2.2.2).bind fun bt155 => (if t102 = true then ((eid_Right.f bt103.1 bt103.2.1 bt103.2.2.1 bt103.2.2.2.1 bt103.2.2.2.2).bind fun t162 => ((postriderref06_Right.f k bt103.1 bt103.2.1 bt103.2.2.1 bt103.2.2.2.1 bt103.2.2.2.2).bind fun t163 => (if (t162 == t163) = true then (if bt110.1.toList = bt113.1.toList then (if bt110.2.1.toList = bt113.2.1.toList then (if bt110.2.2 = bt113.2.2 then (if (bt116.1 == bt123.1 && (bt116.2.1.toList == bt123.2.1.toList && (bt116.2.2.1.toList == bt123.2.2.1.toList && (bt116.2.2.2.1 == bt123.2.2.2.1 && (bt116.2.2.2.2.1 == bt123.2.2.2.2.1))))) = true then (if bt116.2.2.2.2.2 = bt123.2.2.2.2.2 then (if bt130.1.toList = bt132.1.toList then (if bt130.2 = bt132.2 then (if (bt134.1 == bt141.1 && (bt134.2.1.toList == bt141.2.1.toList && (bt134.2.2.1.toList == bt141.2.2.1.toList && (bt134.2.2.2.1 == bt141.2.2.2.1 && (bt134.2.2.2.2.1 == bt141.2.2.2.2.1))))) = true then (if bt134.2.2.2.2.2 = bt141.2.2.2.2.2 then (if (bt148.1 == bt155.1 && (bt148.2.1.toList == bt155.2.1.toList && (bt148.2.2.1.toList == bt155.2.2.1.toList && (bt148.2.2.2.1 == bt155.2.2.2.1 && (bt148.2.2.2.2.1 == bt155.2.2.2.2.1))))) = true then (some (bt148.2.2.2.2.2 == bt155.2.2.2.2.2)) else (none)) else (none)) else (none)) else (none)) else (none)) else (none)) else (none)) else (none)) else (none)) else (none)) else (none)))) else (none))))))))))))))) = some r := H
  have A4 := Aside0.mk A40
  clear A40
  replace H := Option.bind_eq_some_iff.mp H
  obtain ⟨⟨t103, t104, t105, t106, t107⟩, A50, H⟩ := H
  replace H : ((postriderlaw06_cut.f a1).bind fun t108 => ((postriderlaw06_cut.f a2).bind fun t109 => ((eid_Halves.f t103 t104 t105 t106 t107).bind fun bt110 => ((postriderref06_Halves.f k t103 t104 t105 t106 t107).bind fun bt113 => ((eid_Join.f t108 t109).bind fun bt116 => ((postriderref06_Join.f k t108 t109).bind fun bt123 => ((eid_Print.f t103 t104 t105 t106 t107).bind fun bt130 => ((postriderref06_Print.f k t103 t104 t105 t106 t107).bind fun bt132 => ((eid_Parse.f t108).bind fun bt134 => ((postriderref06_Parse.f k t108).bind fun bt141 => ((eid_Home.f t103 t104 t105 t106 t107).bind fun bt148 => ((postriderref06_Home.f k t103 t104 t105 t106 t107).bind fun bt155 => (if t102 = true then ((eid_Right.f t103 t104 t105 t106 t107).bind fun t162 => ((postriderref06_Right.f k t103 t104 t105 t106 t107).bind fun t163 => (if (t162 == t163) = true then (if bt110.1.toList = bt113.1.toList then (if bt110.2.1.toList = bt113.2.1.toList then (if bt110.2.2 = bt113.2.2 then (if (bt116.1 == bt123.1 && (bt116.2.1.toList == bt123.2.1.toList && (bt116.2.2.1.toList == bt123.2.2.1.toList && (bt116.2.2.2.1 == bt123.2.2.2.1 && (bt116.2.2.2.2.1 == bt123.2.2.2.2.1))))) = true then (if bt116.2.2.2.2.2 = bt123.2.2.2.2.2 then (if bt130.1.toList = bt132.1.toList then (if bt130.2 = bt132.2 then (if (bt134.1 == bt141.1 && (bt134.2.1.toList == bt141.2.1.toList && (bt134.2.2.1.toList == bt141.2.2.1.toList && (bt134.2.2.2.1 == bt141.2.2.2.1 && (bt134.2.2.2.2.1 == bt141.2.2.2.2.1))))) = true then (if bt134.2.2.2.2.2 = bt141.2.2.2.2.2 then (if (bt148.1 == bt155.1 && (bt148.2.1.toList == bt155.2.1.toList && (bt148.2.2.1.toList == bt155.2.2.1.toList && (bt148.2.2.2.1 == bt155.2.2.2.1 && (bt148.2.2.2.2.1 == bt155.2.2.2.2.1))))) = true then (some (bt148.2.2.2.2.2 == bt155.2.2.2.2.2)) else (none)) else (none)) else (none)) else (none)) else (none)) else (none)) else (none)) else (none)) else (none)) else (none)) else (none)))) else (none)))))))))))))) = some r := H
  have A5 := Aside0.mk A50
  clear A50
  replace H := Option.bind_eq_some_iff.mp H
  obtain ⟨t108, A60, H⟩ := H
  replace H : ((postriderlaw06_cut.f a2).bind fun t109 => ((eid_Halves.f t103 t104 t105 t106 t107).bind fun bt110 => ((postriderref06_Halves.f k t103 t104 t105 t106 t107).bind fun bt113 => ((eid_Join.f t108 t109).bind fun bt116 => ((postriderref06_Join.f k t108 t109).bind fun bt123 => ((eid_Print.f t103 t104 t105 t106 t107).bind fun bt130 => ((postriderref06_Print.f k t103 t104 t105 t106 t107).bind fun bt132 => ((eid_Parse.f t108).bind fun bt134 => ((postriderref06_Parse.f k t108).bind fun bt141 => ((eid_Home.f t103 t104 t105 t106 t107).bind fun bt148 => ((postriderref06_Home.f k t103 t104 t105 t106 t107).bind fun bt155 => (if t102 = true then ((eid_Right.f t103 t104 t105 t106 t107).bind fun t162 => ((postriderref06_Right.f k t103 t104 t105 t106 t107).bind fun t163 => (if (t162 == t163) = true then (if bt110.1.toList = bt113.1.toList then (if bt110.2.1.toList = bt113.2.1.toList then (if bt110.2.2 = bt113.2.2 then (if (bt116.1 == bt123.1 && (bt116.2.1.toList == bt123.2.1.toList && (bt116.2.2.1.toList == bt123.2.2.1.toList && (bt116.2.2.2.1 == bt123.2.2.2.1 && (bt116.2.2.2.2.1 == bt123.2.2.2.2.1))))) = true then (if bt116.2.2.2.2.2 = bt123.2.2.2.2.2 then (if bt130.1.toList = bt132.1.toList then (if bt130.2 = bt132.2 then (if (bt134.1 == bt141.1 && (bt134.2.1.toList == bt141.2.1.toList && (bt134.2.2.1.toList == bt141.2.2.1.toList && (bt134.2.2.2.1 == bt141.2.2.2.1 && (bt134.2.2.2.2.1 == bt141.2.2.2.2.1))))) = true then (if bt134.2.2.2.2.2 = bt141.2.2.2.2.2 then (if (bt148.1 == bt155.1 && (bt148.2.1.toList == bt155.2.1.toList && (bt148.2.2.1.toList == bt155.2.2.1.toList && (bt148.2.2.2.1 == bt155.2.2.2.1 && (bt148.2.2.2.2.1 == bt155.2.2.2.2.1))))) = true then (some (bt148.2.2.2.2.2 == bt155.2.2.2.2.2)) else (none)) else (none)) else (none)) else (none)) else (none)) else (none)) else (none)) else (none)) else (none)) else (none)) else (none)))) else (none))))))))))))) = some r := H
  have A6 := Aside0.mk A60
  clear A60
  replace H := Option.bind_eq_some_iff.mp H
  obtain ⟨t109, A70, H⟩ := H
  replace H : ((eid_Halves.f t103 t104 t105 t106 t107).bind fun bt110 => ((postriderref06_Halves.f k t103 t104 t105 t106 t107).bind fun bt113 => ((eid_Join.f t108 t109).bind fun bt116 => ((postriderref06_Join.f k t108 t109).bind fun bt123 => ((eid_Print.f t103 t104 t105 t106 t107).bind fun bt130 => ((postriderref06_Print.f k t103 t104 t105 t106 t107).bind fun bt132 => ((eid_Parse.f t108).bind fun bt134 => ((postriderref06_Parse.f k t108).bind fun bt141 => ((eid_Home.f t103 t104 t105 t106 t107).bind fun bt148 => ((postriderref06_Home.f k t103 t104 t105 t106 t107).bind fun bt155 => (if t102 = true then ((eid_Right.f t103 t104 t105 t106 t107).bind fun t162 => ((postriderref06_Right.f k t103 t104 t105 t106 t107).bind fun t163 => (if (t162 == t163) = true then (if bt110.1.toList = bt113.1.toList then (if bt110.2.1.toList = bt113.2.1.toList then (if bt110.2.2 = bt113.2.2 then (if (bt116.1 == bt123.1 && (bt116.2.1.toList == bt123.2.1.toList && (bt116.2.2.1.toList == bt123.2.2.1.toList && (bt116.2.2.2.1 == bt123.2.2.2.1 && (bt116.2.2.2.2.1 == bt123.2.2.2.2.1))))) = true then (if bt116.2.2.2.2.2 = bt123.2.2.2.2.2 then (if bt130.1.toList = bt132.1.toList then (if bt130.2 = bt132.2 then (if (bt134.1 == bt141.1 && (bt134.2.1.toList == bt141.2.1.toList && (bt134.2.2.1.toList == bt141.2.2.1.toList && (bt134.2.2.2.1 == bt141.2.2.2.1 && (bt134.2.2.2.2.1 == bt141.2.2.2.2.1))))) = true then (if bt134.2.2.2.2.2 = bt141.2.2.2.2.2 then (if (bt148.1 == bt155.1 && (bt148.2.1.toList == bt155.2.1.toList && (bt148.2.2.1.toList == bt155.2.2.1.toList && (bt148.2.2.2.1 == bt155.2.2.2.1 && (bt148.2.2.2.2.1 == bt155.2.2.2.2.1))))) = true then (some (bt148.2.2.2.2.2 == bt155.2.2.2.2.2)) else (none)) else (none)) else (none)) else (none)) else (none)) else (none)) else (none)) else (none)) else (none)) else (none)) else (none)))) else (none)))))))))))) = some r := H
  have A7 := Aside0.mk A70
  clear A70
  replace H := Option.bind_eq_some_iff.mp H
  obtain ⟨⟨t110, t111, t112⟩, A80, H⟩ := H
  replace H : ((postriderref06_Halves.f k t103 t104 t105 t106 t107).bind fun bt113 => ((eid_Join.f t108 t109).bind fun bt116 => ((postriderref06_Join.f k t108 t109).bind fun bt123 => ((eid_Print.f t103 t104 t105 t106 t107).bind fun bt130 => ((postriderref06_Print.f k t103 t104 t105 t106 t107).bind fun bt132 => ((eid_Parse.f t108).bind fun bt134 => ((postriderref06_Parse.f k t108).bind fun bt141 => ((eid_Home.f t103 t104 t105 t106 t107).bind fun bt148 => ((postriderref06_Home.f k t103 t104 t105 t106 t107).bind fun bt155 => (if t102 = true then ((eid_Right.f t103 t104 t105 t106 t107).bind fun t162 => ((postriderref06_Right.f k t103 t104 t105 t106 t107).bind fun t163 => (if (t162 == t163) = true then (if t110.toList = bt113.1.toList then (if t111.toList = bt113.2.1.toList then (if t112 = bt113.2.2 then (if (bt116.1 == bt123.1 && (bt116.2.1.toList == bt123.2.1.toList && (bt116.2.2.1.toList == bt123.2.2.1.toList && (bt116.2.2.2.1 == bt123.2.2.2.1 && (bt116.2.2.2.2.1 == bt123.2.2.2.2.1))))) = true then (if bt116.2.2.2.2.2 = bt123.2.2.2.2.2 then (if bt130.1.toList = bt132.1.toList then (if bt130.2 = bt132.2 then (if (bt134.1 == bt141.1 && (bt134.2.1.toList == bt141.2.1.toList && (bt134.2.2.1.toList == bt141.2.2.1.toList && (bt134.2.2.2.1 == bt141.2.2.2.1 && (bt134.2.2.2.2.1 == bt141.2.2.2.2.1))))) = true then (if bt134.2.2.2.2.2 = bt141.2.2.2.2.2 then (if (bt148.1 == bt155.1 && (bt148.2.1.toList == bt155.2.1.toList && (bt148.2.2.1.toList == bt155.2.2.1.toList && (bt148.2.2.2.1 == bt155.2.2.2.1 && (bt148.2.2.2.2.1 == bt155.2.2.2.2.1))))) = true then (some (bt148.2.2.2.2.2 == bt155.2.2.2.2.2)) else (none)) else (none)) else (none)) else (none)) else (none)) else (none)) else (none)) else (none)) else (none)) else (none)) else (none)))) else (none))))))))))) = some r := H
  have A8 := Aside0.mk A80
  clear A80
  replace H := Option.bind_eq_some_iff.mp H
  obtain ⟨⟨t113, t114, t115⟩, A90, H⟩ := H
  replace H : ((eid_Join.f t108 t109).bind fun bt116 => ((postriderref06_Join.f k t108 t109).bind fun bt123 => ((eid_Print.f t103 t104 t105 t106 t107).bind fun bt130 => ((postriderref06_Print.f k t103 t104 t105 t106 t107).bind fun bt132 => ((eid_Parse.f t108).bind fun bt134 => ((postriderref06_Parse.f k t108).bind fun bt141 => ((eid_Home.f t103 t104 t105 t106 t107).bind fun bt148 => ((postriderref06_Home.f k t103 t104 t105 t106 t107).bind fun bt155 => (if t102 = true then ((eid_Right.f t103 t104 t105 t106 t107).bind fun t162 => ((postriderref06_Right.f k t103 t104 t105 t106 t107).bind fun t163 => (if (t162 == t163) = true then (if t110.toList = t113.toList then (if t111.toList = t114.toList then (if t112 = t115 then (if (bt116.1 == bt123.1 && (bt116.2.1.toList == bt123.2.1.toList && (bt116.2.2.1.toList == bt123.2.2.1.toList && (bt116.2.2.2.1 == bt123.2.2.2.1 && (bt116.2.2.2.2.1 == bt123.2.2.2.2.1))))) = true then (if bt116.2.2.2.2.2 = bt123.2.2.2.2.2 then (if bt130.1.toList = bt132.1.toList then (if bt130.2 = bt132.2 then (if (bt134.1 == bt141.1 && (bt134.2.1.toList == bt141.2.1.toList && (bt134.2.2.1.toList == bt141.2.2.1.toList && (bt134.2.2.2.1 == bt141.2.2.2.1 && (bt134.2.2.2.2.1 == bt141.2.2.2.2.1))))) = true then (if bt134.2.2.2.2.2 = bt141.2.2.2.2.2 then (if (bt148.1 == bt155.1 && (bt148.2.1.toList == bt155.2.1.toList && (bt148.2.2.1.toList == bt155.2.2.1.toList && (bt148.2.2.2.1 == bt155.2.2.2.1 && (bt148.2.2.2.2.1 == bt155.2.2.2.2.1))))) = true then (some (bt148.2.2.2.2.2 == bt155.2.2.2.2.2)) else (none)) else (none)) else (none)) else (none)) else (none)) else (none)) else (none)) else (none)) else (none)) else (none)) else (none)))) else (none)))))))))) = some r := H
  have A9 := Aside0.mk A90
  clear A90
  replace H := Option.bind_eq_some_iff.mp H
  obtain ⟨⟨t116, t117, t118, t119, t120, t121⟩, A100, H⟩ := H
  replace H : ((postriderref06_Join.f k t108 t109).bind fun bt123 => ((eid_Print.f t103 t104 t105 t106 t107).bind fun bt130 => ((postriderref06_Print.f k t103 t104 t105 t106 t107).bind fun bt132 => ((eid_Parse.f t108).bind fun bt134 => ((postriderref06_Parse.f k t108).bind fun bt141 => ((eid_Home.f t103 t104 t105 t106 t107).bind fun bt148 => ((postriderref06_Home.f k t103 t104 t105 t106 t107).bind fun bt155 => (if t102 = true then ((eid_Right.f t103 t104 t105 t106 t107).bind fun t162 => ((postriderref06_Right.f k t103 t104 t105 t106 t107).bind fun t163 => (if (t162 == t163) = true then (if t110.toList = t113.toList then (if t111.toList = t114.toList then (if t112 = t115 then (if (t116 == bt123.1 && (t117.toList == bt123.2.1.toList && (t118.toList == bt123.2.2.1.toList && (t119 == bt123.2.2.2.1 && (t120 == bt123.2.2.2.2.1))))) = true then (if t121 = bt123.2.2.2.2.2 then (if bt130.1.toList = bt132.1.toList then (if bt130.2 = bt132.2 then (if (bt134.1 == bt141.1 && (bt134.2.1.toList == bt141.2.1.toList && (bt134.2.2.1.toList == bt141.2.2.1.toList && (bt134.2.2.2.1 == bt141.2.2.2.1 && (bt134.2.2.2.2.1 == bt141.2.2.2.2.1))))) = true then (if bt134.2.2.2.2.2 = bt141.2.2.2.2.2 then (if (bt148.1 == bt155.1 && (bt148.2.1.toList == bt155.2.1.toList && (bt148.2.2.1.toList == bt155.2.2.1.toList && (bt148.2.2.2.1 == bt155.2.2.2.1 && (bt148.2.2.2.2.1 == bt155.2.2.2.2.1))))) = true then (some (bt148.2.2.2.2.2 == bt155.2.2.2.2.2)) else (none)) else (none)) else (none)) else (none)) else (none)) else (none)) else (none)) else (none)) else (none)) else (none)) else (none)))) else (none))))))))) = some r := H
  have A10 := Aside0.mk A100
  clear A100
  replace H := Option.bind_eq_some_iff.mp H
  obtain ⟨⟨t123, t124, t125, t126, t127, t128⟩, A110, H⟩ := H
  replace H : ((eid_Print.f t103 t104 t105 t106 t107).bind fun bt130 => ((postriderref06_Print.f k t103 t104 t105 t106 t107).bind fun bt132 => ((eid_Parse.f t108).bind fun bt134 => ((postriderref06_Parse.f k t108).bind fun bt141 => ((eid_Home.f t103 t104 t105 t106 t107).bind fun bt148 => ((postriderref06_Home.f k t103 t104 t105 t106 t107).bind fun bt155 => (if t102 = true then ((eid_Right.f t103 t104 t105 t106 t107).bind fun t162 => ((postriderref06_Right.f k t103 t104 t105 t106 t107).bind fun t163 => (if (t162 == t163) = true then (if t110.toList = t113.toList then (if t111.toList = t114.toList then (if t112 = t115 then (if (t116 == t123 && (t117.toList == t124.toList && (t118.toList == t125.toList && (t119 == t126 && (t120 == t127))))) = true then (if t121 = t128 then (if bt130.1.toList = bt132.1.toList then (if bt130.2 = bt132.2 then (if (bt134.1 == bt141.1 && (bt134.2.1.toList == bt141.2.1.toList && (bt134.2.2.1.toList == bt141.2.2.1.toList && (bt134.2.2.2.1 == bt141.2.2.2.1 && (bt134.2.2.2.2.1 == bt141.2.2.2.2.1))))) = true then (if bt134.2.2.2.2.2 = bt141.2.2.2.2.2 then (if (bt148.1 == bt155.1 && (bt148.2.1.toList == bt155.2.1.toList && (bt148.2.2.1.toList == bt155.2.2.1.toList && (bt148.2.2.2.1 == bt155.2.2.2.1 && (bt148.2.2.2.2.1 == bt155.2.2.2.2.1))))) = true then (some (bt148.2.2.2.2.2 == bt155.2.2.2.2.2)) else (none)) else (none)) else (none)) else (none)) else (none)) else (none)) else (none)) else (none)) else (none)) else (none)) else (none)))) else (none)))))))) = some r := H
  have A11 := Aside0.mk A110
  clear A110
  replace H := Option.bind_eq_some_iff.mp H
  obtain ⟨⟨t130, t131⟩, A120, H⟩ := H
  replace H : ((postriderref06_Print.f k t103 t104 t105 t106 t107).bind fun bt132 => ((eid_Parse.f t108).bind fun bt134 => ((postriderref06_Parse.f k t108).bind fun bt141 => ((eid_Home.f t103 t104 t105 t106 t107).bind fun bt148 => ((postriderref06_Home.f k t103 t104 t105 t106 t107).bind fun bt155 => (if t102 = true then ((eid_Right.f t103 t104 t105 t106 t107).bind fun t162 => ((postriderref06_Right.f k t103 t104 t105 t106 t107).bind fun t163 => (if (t162 == t163) = true then (if t110.toList = t113.toList then (if t111.toList = t114.toList then (if t112 = t115 then (if (t116 == t123 && (t117.toList == t124.toList && (t118.toList == t125.toList && (t119 == t126 && (t120 == t127))))) = true then (if t121 = t128 then (if t130.toList = bt132.1.toList then (if t131 = bt132.2 then (if (bt134.1 == bt141.1 && (bt134.2.1.toList == bt141.2.1.toList && (bt134.2.2.1.toList == bt141.2.2.1.toList && (bt134.2.2.2.1 == bt141.2.2.2.1 && (bt134.2.2.2.2.1 == bt141.2.2.2.2.1))))) = true then (if bt134.2.2.2.2.2 = bt141.2.2.2.2.2 then (if (bt148.1 == bt155.1 && (bt148.2.1.toList == bt155.2.1.toList && (bt148.2.2.1.toList == bt155.2.2.1.toList && (bt148.2.2.2.1 == bt155.2.2.2.1 && (bt148.2.2.2.2.1 == bt155.2.2.2.2.1))))) = true then (some (bt148.2.2.2.2.2 == bt155.2.2.2.2.2)) else (none)) else (none)) else (none)) else (none)) else (none)) else (none)) else (none)) else (none)) else (none)) else (none)) else (none)))) else (none))))))) = some r := H
  have A12 := Aside0.mk A120
  clear A120
  replace H := Option.bind_eq_some_iff.mp H
  obtain ⟨⟨t132, t133⟩, A130, H⟩ := H
  replace H : ((eid_Parse.f t108).bind fun bt134 => ((postriderref06_Parse.f k t108).bind fun bt141 => ((eid_Home.f t103 t104 t105 t106 t107).bind fun bt148 => ((postriderref06_Home.f k t103 t104 t105 t106 t107).bind fun bt155 => (if t102 = true then ((eid_Right.f t103 t104 t105 t106 t107).bind fun t162 => ((postriderref06_Right.f k t103 t104 t105 t106 t107).bind fun t163 => (if (t162 == t163) = true then (if t110.toList = t113.toList then (if t111.toList = t114.toList then (if t112 = t115 then (if (t116 == t123 && (t117.toList == t124.toList && (t118.toList == t125.toList && (t119 == t126 && (t120 == t127))))) = true then (if t121 = t128 then (if t130.toList = t132.toList then (if t131 = t133 then (if (bt134.1 == bt141.1 && (bt134.2.1.toList == bt141.2.1.toList && (bt134.2.2.1.toList == bt141.2.2.1.toList && (bt134.2.2.2.1 == bt141.2.2.2.1 && (bt134.2.2.2.2.1 == bt141.2.2.2.2.1))))) = true then (if bt134.2.2.2.2.2 = bt141.2.2.2.2.2 then (if (bt148.1 == bt155.1 && (bt148.2.1.toList == bt155.2.1.toList && (bt148.2.2.1.toList == bt155.2.2.1.toList && (bt148.2.2.2.1 == bt155.2.2.2.1 && (bt148.2.2.2.2.1 == bt155.2.2.2.2.1))))) = true then (some (bt148.2.2.2.2.2 == bt155.2.2.2.2.2)) else (none)) else (none)) else (none)) else (none)) else (none)) else (none)) else (none)) else (none)) else (none)) else (none)) else (none)))) else (none)))))) = some r := H
  have A13 := Aside0.mk A130
  clear A130
  replace H := Option.bind_eq_some_iff.mp H
  obtain ⟨⟨t134, t135, t136, t137, t138, t139⟩, A140, H⟩ := H
  replace H : ((postriderref06_Parse.f k t108).bind fun bt141 => ((eid_Home.f t103 t104 t105 t106 t107).bind fun bt148 => ((postriderref06_Home.f k t103 t104 t105 t106 t107).bind fun bt155 => (if t102 = true then ((eid_Right.f t103 t104 t105 t106 t107).bind fun t162 => ((postriderref06_Right.f k t103 t104 t105 t106 t107).bind fun t163 => (if (t162 == t163) = true then (if t110.toList = t113.toList then (if t111.toList = t114.toList then (if t112 = t115 then (if (t116 == t123 && (t117.toList == t124.toList && (t118.toList == t125.toList && (t119 == t126 && (t120 == t127))))) = true then (if t121 = t128 then (if t130.toList = t132.toList then (if t131 = t133 then (if (t134 == bt141.1 && (t135.toList == bt141.2.1.toList && (t136.toList == bt141.2.2.1.toList && (t137 == bt141.2.2.2.1 && (t138 == bt141.2.2.2.2.1))))) = true then (if t139 = bt141.2.2.2.2.2 then (if (bt148.1 == bt155.1 && (bt148.2.1.toList == bt155.2.1.toList && (bt148.2.2.1.toList == bt155.2.2.1.toList && (bt148.2.2.2.1 == bt155.2.2.2.1 && (bt148.2.2.2.2.1 == bt155.2.2.2.2.1))))) = true then (some (bt148.2.2.2.2.2 == bt155.2.2.2.2.2)) else (none)) else (none)) else (none)) else (none)) else (none)) else (none)) else (none)) else (none)) else (none)) else (none)) else (none)))) else (none))))) = some r := H
  have A14 := Aside0.mk A140
  clear A140
  replace H := Option.bind_eq_some_iff.mp H
  obtain ⟨⟨t141, t142, t143, t144, t145, t146⟩, A150, H⟩ := H
  replace H : ((eid_Home.f t103 t104 t105 t106 t107).bind fun bt148 => ((postriderref06_Home.f k t103 t104 t105 t106 t107).bind fun bt155 => (if t102 = true then ((eid_Right.f t103 t104 t105 t106 t107).bind fun t162 => ((postriderref06_Right.f k t103 t104 t105 t106 t107).bind fun t163 => (if (t162 == t163) = true then (if t110.toList = t113.toList then (if t111.toList = t114.toList then (if t112 = t115 then (if (t116 == t123 && (t117.toList == t124.toList && (t118.toList == t125.toList && (t119 == t126 && (t120 == t127))))) = true then (if t121 = t128 then (if t130.toList = t132.toList then (if t131 = t133 then (if (t134 == t141 && (t135.toList == t142.toList && (t136.toList == t143.toList && (t137 == t144 && (t138 == t145))))) = true then (if t139 = t146 then (if (bt148.1 == bt155.1 && (bt148.2.1.toList == bt155.2.1.toList && (bt148.2.2.1.toList == bt155.2.2.1.toList && (bt148.2.2.2.1 == bt155.2.2.2.1 && (bt148.2.2.2.2.1 == bt155.2.2.2.2.1))))) = true then (some (bt148.2.2.2.2.2 == bt155.2.2.2.2.2)) else (none)) else (none)) else (none)) else (none)) else (none)) else (none)) else (none)) else (none)) else (none)) else (none)) else (none)))) else (none)))) = some r := H
  have A15 := Aside0.mk A150
  clear A150
  replace H := Option.bind_eq_some_iff.mp H
  obtain ⟨⟨t148, t149, t150, t151, t152, t153⟩, A160, H⟩ := H
  replace H : ((postriderref06_Home.f k t103 t104 t105 t106 t107).bind fun bt155 => (if t102 = true then ((eid_Right.f t103 t104 t105 t106 t107).bind fun t162 => ((postriderref06_Right.f k t103 t104 t105 t106 t107).bind fun t163 => (if (t162 == t163) = true then (if t110.toList = t113.toList then (if t111.toList = t114.toList then (if t112 = t115 then (if (t116 == t123 && (t117.toList == t124.toList && (t118.toList == t125.toList && (t119 == t126 && (t120 == t127))))) = true then (if t121 = t128 then (if t130.toList = t132.toList then (if t131 = t133 then (if (t134 == t141 && (t135.toList == t142.toList && (t136.toList == t143.toList && (t137 == t144 && (t138 == t145))))) = true then (if t139 = t146 then (if (t148 == bt155.1 && (t149.toList == bt155.2.1.toList && (t150.toList == bt155.2.2.1.toList && (t151 == bt155.2.2.2.1 && (t152 == bt155.2.2.2.2.1))))) = true then (some (t153 == bt155.2.2.2.2.2)) else (none)) else (none)) else (none)) else (none)) else (none)) else (none)) else (none)) else (none)) else (none)) else (none)) else (none)))) else (none))) = some r := H
  have A16 := Aside0.mk A160
  clear A160
  replace H := Option.bind_eq_some_iff.mp H
  obtain ⟨⟨t155, t156, t157, t158, t159, t160⟩, A170, H⟩ := H
  replace H : (if t102 = true then ((eid_Right.f t103 t104 t105 t106 t107).bind fun t162 => ((postriderref06_Right.f k t103 t104 t105 t106 t107).bind fun t163 => (if (t162 == t163) = true then (if t110.toList = t113.toList then (if t111.toList = t114.toList then (if t112 = t115 then (if (t116 == t123 && (t117.toList == t124.toList && (t118.toList == t125.toList && (t119 == t126 && (t120 == t127))))) = true then (if t121 = t128 then (if t130.toList = t132.toList then (if t131 = t133 then (if (t134 == t141 && (t135.toList == t142.toList && (t136.toList == t143.toList && (t137 == t144 && (t138 == t145))))) = true then (if t139 = t146 then (if (t148 == t155 && (t149.toList == t156.toList && (t150.toList == t157.toList && (t151 == t158 && (t152 == t159))))) = true then (some (t153 == t160)) else (none)) else (none)) else (none)) else (none)) else (none)) else (none)) else (none)) else (none)) else (none)) else (none)) else (none)))) else (none)) = some r := H
  have A17 := Aside0.mk A170
  clear A170
  by_cases c18 : t102 = true
  · subst c18
    have H1 : ((eid_Right.f t103 t104 t105 t106 t107).bind fun t162 => ((postriderref06_Right.f k t103 t104 t105 t106 t107).bind fun t163 => (if (t162 == t163) = true then (if t110.toList = t113.toList then (if t111.toList = t114.toList then (if t112 = t115 then (if (t116 == t123 && (t117.toList == t124.toList && (t118.toList == t125.toList && (t119 == t126 && (t120 == t127))))) = true then (if t121 = t128 then (if t130.toList = t132.toList then (if t131 = t133 then (if (t134 == t141 && (t135.toList == t142.toList && (t136.toList == t143.toList && (t137 == t144 && (t138 == t145))))) = true then (if t139 = t146 then (if (t148 == t155 && (t149.toList == t156.toList && (t150.toList == t157.toList && (t151 == t158 && (t152 == t159))))) = true then (some (t153 == t160)) else (none)) else (none)) else (none)) else (none)) else (none)) else (none)) else (none)) else (none)) else (none)) else (none)) else (none)))) = some r := by rw [if_pos rfl] at H; exact H
    clear H
    have H := H1
    clear H1
    replace H := Option.bind_eq_some_iff.mp H
    obtain ⟨t162, A190, H⟩ := H
    replace H : ((postriderref06_Right.f k t103 t104 t105 t106 t107).bind fun t163 => (if (t162 == t163) = true then (if t110.toList = t113.toList then (if t111.toList = t114.toList then (if t112 = t115 then (if (t116 == t123 && (t117.toList == t124.toList && (t118.toList == t125.toList && (t119 == t126 && (t120 == t127))))) = true then (if t121 = t128 then (if t130.toList = t132.toList then (if t131 = t133 then (if (t134 == t141 && (t135.toList == t142.toList && (t136.toList == t143.toList && (t137 == t144 && (t138 == t145))))) = true then (if t139 = t146 then (if (t148 == t155 && (t149.toList == t156.toList && (t150.toList == t157.toList && (t151 == t158 && (t152 == t159))))) = true then (some (t153 == t160)) else (none)) else (none)) else (none)) else (none)) else (none)) else (none)) else (none)) else (none)) else (none)) else (none)) else (none))) = some r := H
    have A19 := Aside0.mk A190
    clear A190
    replace H := Option.bind_eq_some_iff.mp H
    obtain ⟨t163, A200, H⟩ := H
    replace H : (if (t162 == t163) = true then (if t110.toList = t113.toList then (if t111.toList = t114.toList then (if t112 = t115 then (if (t116 == t123 && (t117.toList == t124.toList && (t118.toList == t125.toList && (t119 == t126 && (t120 == t127))))) = true then (if t121 = t128 then (if t130.toList = t132.toList then (if t131 = t133 then (if (t134 == t141 && (t135.toList == t142.toList && (t136.toList == t143.toList && (t137 == t144 && (t138 == t145))))) = true then (if t139 = t146 then (if (t148 == t155 && (t149.toList == t156.toList && (t150.toList == t157.toList && (t151 == t158 && (t152 == t159))))) = true then (some (t153 == t160)) else (none)) else (none)) else (none)) else (none)) else (none)) else (none)) else (none)) else (none)) else (none)) else (none)) else (none)) = some r := H
    have A20 := Aside0.mk A200
    clear A200
    by_cases c21 : (t162 == t163) = true
    · rw [if_pos c21] at H
      have c21b0 : (t162 == t163) = true := c21
      (try (have c21b1 : decide (t162 = t163) = true := by simpa using c21))
      (try (have c21b2 : (t162 == t163) = true := by simpa using c21))
      clear c21
      by_cases c22 : t110.toList = t113.toList
      · rw [if_pos c22] at H
        have c22b0 : (t110.toList == t113.toList) = true := beq_iff_eq.mpr c22
        have c22b1 : (t110.toList != t113.toList) = false := bne_eq_false_iff_eq.mpr c22
        clear c22
        by_cases c23 : t111.toList = t114.toList
        · rw [if_pos c23] at H
          have c23b0 : (t111.toList == t114.toList) = true := beq_iff_eq.mpr c23
          have c23b1 : (t111.toList != t114.toList) = false := bne_eq_false_iff_eq.mpr c23
          clear c23
          by_cases c24 : t112 = t115
          · rw [if_pos c24] at H
            have c24b0 : (t112 == t115) = true := beq_iff_eq.mpr c24
            have c24b1 : (t112 != t115) = false := bne_eq_false_iff_eq.mpr c24
            clear c24
            by_cases c25 : (t116 == t123 && (t117.toList == t124.toList && (t118.toList == t125.toList && (t119 == t126 && (t120 == t127))))) = true
            · rw [if_pos c25] at H
              have c25b0 : (t116 == t123 && (t117.toList == t124.toList && (t118.toList == t125.toList && (t119 == t126 && (t120 == t127))))) = true := c25
              (try (have c25b1 : decide (t116 = t123 && (t117.toList == t124.toList && (t118.toList == t125.toList && (t119 == t126 && (t120 == t127))))) = true := by simpa using c25))
              (try (have c25b2 : (t116 == t123 && (t117.toList == t124.toList && (t118.toList == t125.toList && (t119 == t126 && (t120 == t127))))) = true := by simpa using c25))
              clear c25
              by_cases c26 : t121 = t128
              · rw [if_pos c26] at H
                have c26b0 : (t121 == t128) = true := beq_iff_eq.mpr c26
                have c26b1 : (t121 != t128) = false := bne_eq_false_iff_eq.mpr c26
                clear c26
                by_cases c27 : t130.toList = t132.toList
                · rw [if_pos c27] at H
                  have c27b0 : (t130.toList == t132.toList) = true := beq_iff_eq.mpr c27
                  have c27b1 : (t130.toList != t132.toList) = false := bne_eq_false_iff_eq.mpr c27
                  clear c27
                  by_cases c28 : t131 = t133
                  · rw [if_pos c28] at H
                    have c28b0 : (t131 == t133) = true := beq_iff_eq.mpr c28
                    have c28b1 : (t131 != t133) = false := bne_eq_false_iff_eq.mpr c28
                    clear c28
                    by_cases c29 : (t134 == t141 && (t135.toList == t142.toList && (t136.toList == t143.toList && (t137 == t144 && (t138 == t145))))) = true
                    · rw [if_pos c29] at H
                      have c29b0 : (t134 == t141 && (t135.toList == t142.toList && (t136.toList == t143.toList && (t137 == t144 && (t138 == t145))))) = true := c29
                      (try (have c29b1 : decide (t134 = t141 && (t135.toList == t142.toList && (t136.toList == t143.toList && (t137 == t144 && (t138 == t145))))) = true := by simpa using c29))
                      (try (have c29b2 : (t134 == t141 && (t135.toList == t142.toList && (t136.toList == t143.toList && (t137 == t144 && (t138 == t145))))) = true := by simpa using c29))
                      clear c29
                      by_cases c30 : t139 = t146
                      · rw [if_pos c30] at H
                        have c30b0 : (t139 == t146) = true := beq_iff_eq.mpr c30
                        have c30b1 : (t139 != t146) = false := bne_eq_false_iff_eq.mpr c30
                        clear c30
                        by_cases c31 : (t148 == t155 && (t149.toList == t156.toList && (t150.toList == t157.toList && (t151 == t158 && (t152 == t159))))) = true
                        · rw [if_pos c31] at H
                          have c31b0 : (t148 == t155 && (t149.toList == t156.toList && (t150.toList == t157.toList && (t151 == t158 && (t152 == t159))))) = true := c31
                          (try (have c31b1 : decide (t148 = t155 && (t149.toList == t156.toList && (t150.toList == t157.toList && (t151 == t158 && (t152 == t159))))) = true := by simpa using c31))
                          (try (have c31b2 : (t148 == t155 && (t149.toList == t156.toList && (t150.toList == t157.toList && (t151 == t158 && (t152 == t159))))) = true := by simpa using c31))
                          clear c31
                          obtain rfl := Option.some.inj H
                          go_enter Tryd.func3, Tryd.ntmps3
                          try go_wp2_with (first | ((with_reducible refine gate_dst (N := 3) rfl ?_); refine box_event ?hg (N := 3) ?hd (cs := #[.int .i64 a0_0, .string a0_1, .string a0_2, .int .i64 a0_3, .int .i64 a0_4]) (t := 23) ?hr ?_; (case hd => rfl); (case hg => rfl); (case hr => first | (go_simp; done) | (go_simp; rfl) | (go_simp; simp only [isEmpty_ne, isEmpty_eq]; done) | (go_simp; simp only [isEmpty_ne, isEmpty_eq]; rfl)); intro gb101 hg w32 hbox hb; have n0_ := Aside0.mk (below_step (by repeat (first | (with_reducible first | exact HB.out | apply below_alloc | apply pw_below_drewN | apply below_drew1) | exact HB.out)) hb); have n1_ := Aside0.mk (hbox); have n2_ := Aside0.mk ((by rw [hg]; exact (below_size (by repeat (first | (with_reducible first | exact HB.out | apply below_alloc | apply pw_below_drewN | apply below_drew1) | exact HB.out))) : w.heap.size ≤ gb101)); have n3_ := Aside0.mk ((by rw [hg]; exact (below_size (by repeat (first | (with_reducible first | exact HB.out | apply below_alloc | apply pw_below_drewN | apply below_drew1) | exact HB.out))) : w.heap.size ≤ gb101)); clear HB; have HB := n0_; have BK101 := n1_; have GW101 := n2_; have GE101 := n3_; clear n0_ n1_ n2_ n3_; clear hb hbox hg) | ((with_reducible refine gate_callee (f := 8) rfl ?_); refine goesL_ (some 30) rfl rfl Tryd.func8 (by kernel_rfl) rfl #[] rfl (by (try simp only [List.map_toArray, List.map_cons, List.map_nil]); first | done | rfl | (simp only [List.length_drop, List.length_take]; rfl)) ?_; (with_reducible refine (postriderlaw06_shown.calls  true _ ?side1 A4.out).mono ?_); (case side1 => exact Laid.below HLD.out (by repeat (first | (with_reducible first | exact HB.out | apply below_alloc | apply pw_below_drewN | apply below_drew1 | refine below_set ?_ GE101.out) | exact HB.out))); rintro e w33 ⟨rfl, hb⟩; refine ⟨_, rfl, ?_⟩; have n0_ := Aside0.mk (blk_below (g := gb101) (o := .cells #[.int .i64 a0_0, .string a0_1, .string a0_2, .int .i64 a0_3, .int .i64 a0_4] 23 (0, 0)) (by (with_reducible repeat (first | refine blk_drewN ?_ _ | refine blk_drew ?_ | refine blk_alloc ?_ _)); exact BK101.out) hb); have n1_ := Aside0.mk (below_step (by repeat (first | (with_reducible first | exact HB.out | apply below_alloc | apply pw_below_drewN | apply below_drew1 | refine below_set ?_ GE101.out) | exact HB.out)) hb); clear BK101; clear HB; have BK101 := n0_; have HB := n1_; clear n0_ n1_; (try clear hb); (try clear hb2); (try clear hk); (try clear hi); have hcz34_0 : w33.cell? ⟨gb101, 0, none⟩ = some (.int .i64 a0_0) := (blk_cell BK101.out 0).trans rfl; have hcz34_1 : w33.cell? ⟨gb101, 1, none⟩ = some (.string a0_1) := (blk_cell BK101.out 1).trans rfl; have hcz34_2 : w33.cell? ⟨gb101, 2, none⟩ = some (.string a0_2) := (blk_cell BK101.out 2).trans rfl; have hcz34_3 : w33.cell? ⟨gb101, 3, none⟩ = some (.int .i64 a0_3) := (blk_cell BK101.out 3).trans rfl; have hcz34_4 : w33.cell? ⟨gb101, 4, none⟩ = some (.int .i64 a0_4) := (blk_cell BK101.out 4).trans rfl; have hfz34_0 := blk_frozen BK101.out 0; have hfz34_1 := blk_frozen BK101.out 1; have hfz34_2 := blk_frozen BK101.out 2; have hfz34_3 := blk_frozen BK101.out 3; have hfz34_4 := blk_frozen BK101.out 4) | ((with_reducible refine gate_callee (f := 9) rfl ?_); refine goesL_ (some 32) rfl rfl Tryd.func9 (by kernel_rfl) rfl #[.agg #[.int .i64 a0_0, .string a0_1, .string a0_2, .int .i64 a0_3, .int .i64 a0_4]] rfl (by (try simp only [List.map_toArray, List.map_cons, List.map_nil]); first | done | rfl | (simp only [List.length_drop, List.length_take]; rfl)) ?_; (with_reducible refine (postriderlaw06_Cut.calls a0_0 a0_1 a0_2 a0_3 a0_4 t103 t104 t105 t106 t107 _ A5.out).mono ?_); rintro e w35 ⟨rfl, hb⟩; refine ⟨_, rfl, ?_⟩; have n0_ := Aside0.mk (blk_below (g := gb101) (o := .cells #[.int .i64 a0_0, .string a0_1, .string a0_2, .int .i64 a0_3, .int .i64 a0_4] 23 (0, 0)) (by (with_reducible repeat (first | refine blk_drewN ?_ _ | refine blk_drew ?_ | refine blk_alloc ?_ _)); exact BK101.out) hb); have n1_ := Aside0.mk (below_step (by repeat (first | (with_reducible first | exact HB.out | apply below_alloc | apply pw_below_drewN | apply below_drew1 | refine below_set ?_ GE101.out) | exact HB.out)) hb); clear BK101; clear HB; have BK101 := n0_; have HB := n1_; clear n0_ n1_; (try clear hb); (try clear hb2); (try clear hk); (try clear hi); have hcz36_0 : w35.cell? ⟨gb101, 0, none⟩ = some (.int .i64 a0_0) := (blk_cell BK101.out 0).trans rfl; have hcz36_1 : w35.cell? ⟨gb101, 1, none⟩ = some (.string a0_1) := (blk_cell BK101.out 1).trans rfl; have hcz36_2 : w35.cell? ⟨gb101, 2, none⟩ = some (.string a0_2) := (blk_cell BK101.out 2).trans rfl; have hcz36_3 : w35.cell? ⟨gb101, 3, none⟩ = some (.int .i64 a0_3) := (blk_cell BK101.out 3).trans rfl; have hcz36_4 : w35.cell? ⟨gb101, 4, none⟩ = some (.int .i64 a0_4) := (blk_cell BK101.out 4).trans rfl; have hfz36_0 := blk_frozen BK101.out 0; have hfz36_1 := blk_frozen BK101.out 1; have hfz36_2 := blk_frozen BK101.out 2; have hfz36_3 := blk_frozen BK101.out 3; have hfz36_4 := blk_frozen BK101.out 4) | ((with_reducible refine gate_callee (f := 10) rfl ?_); refine goesL_ (some 34) rfl rfl Tryd.func10 (by kernel_rfl) rfl #[.string a1] rfl (by (try simp only [List.map_toArray, List.map_cons, List.map_nil]); first | done | rfl | (simp only [List.length_drop, List.length_take]; rfl)) ?_; (with_reducible refine (postriderlaw06_cut.calls a1 t108 _ A6.out).mono ?_); rintro e w37 ⟨rfl, hb⟩; refine ⟨_, rfl, ?_⟩; have n0_ := Aside0.mk (blk_below (g := gb101) (o := .cells #[.int .i64 t103, .string t104, .string t105, .int .i64 t106, .int .i64 t107] 23 (0, 0)) (by (with_reducible repeat (first | refine blk_drewN ?_ _ | refine blk_drew ?_ | refine blk_alloc ?_ _)); refine blk_put (cs := #[.int .i64 t103, .string t104, .string t105, .int .i64 t106, .int .i64 a0_4]) ?_ 4 _ rfl; (with_reducible repeat (first | refine blk_drewN ?_ _ | refine blk_drew ?_ | refine blk_alloc ?_ _)); refine blk_put (cs := #[.int .i64 t103, .string t104, .string t105, .int .i64 a0_3, .int .i64 a0_4]) ?_ 3 _ rfl; (with_reducible repeat (first | refine blk_drewN ?_ _ | refine blk_drew ?_ | refine blk_alloc ?_ _)); refine blk_put (cs := #[.int .i64 t103, .string t104, .string a0_2, .int .i64 a0_3, .int .i64 a0_4]) ?_ 2 _ rfl; (with_reducible repeat (first | refine blk_drewN ?_ _ | refine blk_drew ?_ | refine blk_alloc ?_ _)); refine blk_put (cs := #[.int .i64 t103, .string a0_1, .string a0_2, .int .i64 a0_3, .int .i64 a0_4]) ?_ 1 _ rfl; (with_reducible repeat (first | refine blk_drewN ?_ _ | refine blk_drew ?_ | refine blk_alloc ?_ _)); refine blk_put (cs := #[.int .i64 a0_0, .string a0_1, .string a0_2, .int .i64 a0_3, .int .i64 a0_4]) ?_ 0 _ rfl; (with_reducible repeat (first | refine blk_drewN ?_ _ | refine blk_drew ?_ | refine blk_alloc ?_ _)); exact BK101.out) hb); have n1_ := Aside0.mk (below_step (by repeat (first | (with_reducible first | exact HB.out | apply below_alloc | apply pw_below_drewN | apply below_drew1 | refine below_set ?_ GE101.out) | exact HB.out)) hb); clear BK101; clear HB; have BK101 := n0_; have HB := n1_; clear n0_ n1_; (try clear hb); (try clear hb2); (try clear hk); (try clear hi)) | ((with_reducible refine gate_callee (f := 10) rfl ?_); refine goesL_ (some 36) rfl rfl Tryd.func10 (by kernel_rfl) rfl #[.string a2] rfl (by (try simp only [List.map_toArray, List.map_cons, List.map_nil]); first | done | rfl | (simp only [List.length_drop, List.length_take]; rfl)) ?_; (with_reducible refine (postriderlaw06_cut.calls a2 t109 _ A7.out).mono ?_); rintro e w38 ⟨rfl, hb⟩; refine ⟨_, rfl, ?_⟩; have n0_ := Aside0.mk (blk_below (g := gb101) (o := .cells #[.int .i64 t103, .string t104, .string t105, .int .i64 t106, .int .i64 t107] 23 (0, 0)) (by (with_reducible repeat (first | refine blk_drewN ?_ _ | refine blk_drew ?_ | refine blk_alloc ?_ _)); exact BK101.out) hb); have n1_ := Aside0.mk (below_step (by repeat (first | (with_reducible first | exact HB.out | apply below_alloc | apply pw_below_drewN | apply below_drew1 | refine below_set ?_ GE101.out) | exact HB.out)) hb); clear BK101; clear HB; have BK101 := n0_; have HB := n1_; clear n0_ n1_; (try clear hb); (try clear hb2); (try clear hk); (try clear hi); have hcz39_0 : w38.cell? ⟨gb101, 0, none⟩ = some (.int .i64 t103) := (blk_cell BK101.out 0).trans rfl; have hcz39_1 : w38.cell? ⟨gb101, 1, none⟩ = some (.string t104) := (blk_cell BK101.out 1).trans rfl; have hcz39_2 : w38.cell? ⟨gb101, 2, none⟩ = some (.string t105) := (blk_cell BK101.out 2).trans rfl; have hcz39_3 : w38.cell? ⟨gb101, 3, none⟩ = some (.int .i64 t106) := (blk_cell BK101.out 3).trans rfl; have hcz39_4 : w38.cell? ⟨gb101, 4, none⟩ = some (.int .i64 t107) := (blk_cell BK101.out 4).trans rfl; have hfz39_0 := blk_frozen BK101.out 0; have hfz39_1 := blk_frozen BK101.out 1; have hfz39_2 := blk_frozen BK101.out 2; have hfz39_3 := blk_frozen BK101.out 3; have hfz39_4 := blk_frozen BK101.out 4) | ((with_reducible refine gate_callee (f := 11) rfl ?_); refine goesL_ (some 39) rfl rfl Tryd.func11 (by kernel_rfl) rfl #[.agg #[.int .i64 t103, .string t104, .string t105, .int .i64 t106, .int .i64 t107]] rfl (by (try simp only [List.map_toArray, List.map_cons, List.map_nil]); first | done | rfl | (simp only [List.length_drop, List.length_take]; rfl)) ?_; (with_reducible refine (eid_Halves.calls t103 t104 t105 t106 t107 t110 t111 t112 _ ?side1 A8.out).mono ?_); (case side1 => exact Laid.below HLD.out (by repeat (first | (with_reducible first | exact HB.out | apply below_alloc | apply pw_below_drewN | apply below_drew1 | refine below_set ?_ GE101.out) | exact HB.out))); rintro e w40 ⟨rfl, hb⟩; refine ⟨_, rfl, ?_⟩; have n0_ := Aside0.mk (blk_below (g := gb101) (o := .cells #[.int .i64 t103, .string t104, .string t105, .int .i64 t106, .int .i64 t107] 23 (0, 0)) (by (with_reducible repeat (first | refine blk_drewN ?_ _ | refine blk_drew ?_ | refine blk_alloc ?_ _)); exact BK101.out) hb); have n1_ := Aside0.mk (below_step (by repeat (first | (with_reducible first | exact HB.out | apply below_alloc | apply pw_below_drewN | apply below_drew1 | refine below_set ?_ GE101.out) | exact HB.out)) hb); clear BK101; clear HB; have BK101 := n0_; have HB := n1_; clear n0_ n1_; (try clear hb); (try clear hb2); (try clear hk); (try clear hi); have hcz41_0 : w40.cell? ⟨gb101, 0, none⟩ = some (.int .i64 t103) := (blk_cell BK101.out 0).trans rfl; have hcz41_1 : w40.cell? ⟨gb101, 1, none⟩ = some (.string t104) := (blk_cell BK101.out 1).trans rfl; have hcz41_2 : w40.cell? ⟨gb101, 2, none⟩ = some (.string t105) := (blk_cell BK101.out 2).trans rfl; have hcz41_3 : w40.cell? ⟨gb101, 3, none⟩ = some (.int .i64 t106) := (blk_cell BK101.out 3).trans rfl; have hcz41_4 : w40.cell? ⟨gb101, 4, none⟩ = some (.int .i64 t107) := (blk_cell BK101.out 4).trans rfl; have hfz41_0 := blk_frozen BK101.out 0; have hfz41_1 := blk_frozen BK101.out 1; have hfz41_2 := blk_frozen BK101.out 2; have hfz41_3 := blk_frozen BK101.out 3; have hfz41_4 := blk_frozen BK101.out 4) | ((with_reducible refine gate_callee (f := 12) rfl ?_); refine goesL_ (some 45) rfl rfl Tryd.func12 (by kernel_rfl) rfl #[.agg #[.int .i64 t103, .string t104, .string t105, .int .i64 t106, .int .i64 t107]] rfl (by (try simp only [List.map_toArray, List.map_cons, List.map_nil]); first | done | rfl | (simp only [List.length_drop, List.length_take]; rfl)) ?_; (with_reducible refine (postriderref06_Halves.calls k t103 t104 t105 t106 t107 t113 t114 t115 _ A9.out).mono ?_); rintro e w42 ⟨rfl, hb⟩; refine ⟨_, rfl, ?_⟩; have n0_ := Aside0.mk (blk_below (g := gb101) (o := .cells #[.int .i64 t103, .string t104, .string t105, .int .i64 t106, .int .i64 t107] 23 (0, 0)) (by (with_reducible repeat (first | refine blk_drewN ?_ _ | refine blk_drew ?_ | refine blk_alloc ?_ _)); exact BK101.out) hb); have n1_ := Aside0.mk (below_step (by repeat (first | (with_reducible first | exact HB.out | apply below_alloc | apply pw_below_drewN | apply below_drew1 | refine below_set ?_ GE101.out) | exact HB.out)) hb); clear BK101; clear HB; have BK101 := n0_; have HB := n1_; clear n0_ n1_; (try clear hb); (try clear hb2); (try clear hk); (try clear hi)) | ((with_reducible refine gate_callee (f := 13) rfl ?_); refine goesL_ (some 52) rfl rfl Tryd.func13 (by kernel_rfl) rfl #[.string t108, .string t109] rfl (by (try simp only [List.map_toArray, List.map_cons, List.map_nil]); first | done | rfl | (simp only [List.length_drop, List.length_take]; rfl)) ?_; (with_reducible refine (eid_Join.calls t108 t109 t116 t117 t118 t119 t120 t121 _ ?side1 A10.out).mono ?_); (case side1 => exact Laid.below HLD.out (by repeat (first | (with_reducible first | exact HB.out | apply below_alloc | apply pw_below_drewN | apply below_drew1 | refine below_set ?_ GE101.out) | exact HB.out))); rintro e w43 ⟨rfl, hb⟩; refine ⟨_, rfl, ?_⟩; have n0_ := Aside0.mk (blk_below (g := gb101) (o := .cells #[.int .i64 t103, .string t104, .string t105, .int .i64 t106, .int .i64 t107] 23 (0, 0)) (by (with_reducible repeat (first | refine blk_drewN ?_ _ | refine blk_drew ?_ | refine blk_alloc ?_ _)); exact BK101.out) hb); have n1_ := Aside0.mk (below_step (by repeat (first | (with_reducible first | exact HB.out | apply below_alloc | apply pw_below_drewN | apply below_drew1 | refine below_set ?_ GE101.out) | exact HB.out)) hb); clear BK101; clear HB; have BK101 := n0_; have HB := n1_; clear n0_ n1_; (try clear hb); (try clear hb2); (try clear hk); (try clear hi)) | ((with_reducible refine gate_dst (N := 14) rfl ?_); refine box_event ?hg (N := 14) ?hd (cs := #[.int .i64 0, .string (⟨#[]⟩ : ByteArray), .string (⟨#[]⟩ : ByteArray), .int .i64 0, .int .i64 0]) (t := 23) ?hr ?_; (case hd => rfl); (case hg => rfl); (case hr => first | (go_simp; done) | (go_simp; rfl) | (go_simp; simp only [isEmpty_ne, isEmpty_eq]; done) | (go_simp; simp only [isEmpty_ne, isEmpty_eq]; rfl)); intro gb122 hg w44 hbox hb; have n0_ := Aside0.mk (blk_below (g := gb101) (o := .cells #[.int .i64 t103, .string t104, .string t105, .int .i64 t106, .int .i64 t107] 23 (0, 0)) (by (with_reducible repeat (first | refine blk_drewN ?_ _ | refine blk_drew ?_ | refine blk_alloc ?_ _)); exact BK101.out) hb); have n1_ := Aside0.mk (below_step (by repeat (first | (with_reducible first | exact HB.out | apply below_alloc | apply pw_below_drewN | apply below_drew1 | refine below_set ?_ GE101.out) | exact HB.out)) hb); have n2_ := Aside0.mk (hbox); have n3_ := Aside0.mk ((by rw [hg]; exact (below_size (by repeat (first | (with_reducible first | exact HB.out | apply below_alloc | apply pw_below_drewN | apply below_drew1 | refine below_set ?_ GE101.out) | exact HB.out))) : w.heap.size ≤ gb122)); have n4_ := Aside0.mk ((by rw [hg]; exact (below_size (by repeat (first | (with_reducible first | exact HB.out | apply below_alloc | apply pw_below_drewN | apply below_drew1 | refine below_set ?_ GE101.out) | exact HB.out))) : w.heap.size ≤ gb122)); have n5_ := Aside0.mk ((by rw [hg]; exact Nat.ne_of_lt (blk_lt (g := gb101) (o := .cells #[.int .i64 t103, .string t104, .string t105, .int .i64 t106, .int .i64 t107] 23 (0, 0)) (by (with_reducible repeat (first | refine blk_drewN ?_ _ | refine blk_drew ?_ | refine blk_alloc ?_ _)); exact BK101.out)) : gb101 ≠ gb122)); have n6_ := Aside0.mk ((by rw [hg]; exact Nat.ne_of_gt (blk_lt (g := gb101) (o := .cells #[.int .i64 t103, .string t104, .string t105, .int .i64 t106, .int .i64 t107] 23 (0, 0)) (by (with_reducible repeat (first | refine blk_drewN ?_ _ | refine blk_drew ?_ | refine blk_alloc ?_ _)); exact BK101.out)) : gb122 ≠ gb101)); clear BK101; clear HB; have BK101 := n0_; have HB := n1_; have BK122 := n2_; have GW122 := n3_; have GE122 := n4_; have NB101_122 := n5_; have NB122_101 := n6_; clear n0_ n1_ n2_ n3_ n4_ n5_ n6_; clear hb hbox hg; have hnb45 := NB122_101.out; have hnc45 := NB101_122.out; have hcz46_0 : w44.cell? ⟨gb122, 0, none⟩ = some (.int .i64 0) := (blk_cell BK122.out 0).trans rfl; have hcz46_1 : w44.cell? ⟨gb122, 1, none⟩ = some (.string (⟨#[]⟩ : ByteArray)) := (blk_cell BK122.out 1).trans rfl; have hcz46_2 : w44.cell? ⟨gb122, 2, none⟩ = some (.string (⟨#[]⟩ : ByteArray)) := (blk_cell BK122.out 2).trans rfl; have hcz46_3 : w44.cell? ⟨gb122, 3, none⟩ = some (.int .i64 0) := (blk_cell BK122.out 3).trans rfl; have hcz46_4 : w44.cell? ⟨gb122, 4, none⟩ = some (.int .i64 0) := (blk_cell BK122.out 4).trans rfl; have hfz46_0 := blk_frozen BK122.out 0; have hfz46_1 := blk_frozen BK122.out 1; have hfz46_2 := blk_frozen BK122.out 2; have hfz46_3 := blk_frozen BK122.out 3; have hfz46_4 := blk_frozen BK122.out 4) | ((with_reducible refine gate_callee (f := 14) rfl ?_); refine goesL_ (some 58) rfl rfl Tryd.func14 (by kernel_rfl) rfl #[.string t108, .string t109] rfl (by (try simp only [List.map_toArray, List.map_cons, List.map_nil]); first | done | rfl | (simp only [List.length_drop, List.length_take]; rfl)) ?_; (with_reducible refine (postriderref06_Join.calls k t108 t109 t123 t124 t125 t126 t127 t128 _ A11.out).mono ?_); rintro e w47 ⟨rfl, hb⟩; refine ⟨_, rfl, ?_⟩; have n0_ := Aside0.mk (blk_below (g := gb101) (o := .cells #[.int .i64 t103, .string t104, .string t105, .int .i64 t106, .int .i64 t107] 23 (0, 0)) (by (with_reducible repeat (first | refine blk_drewN ?_ _ | refine blk_drew ?_ | refine blk_alloc ?_ _)); refine blk_far ?_ NB101_122.out _; (with_reducible repeat (first | refine blk_drewN ?_ _ | refine blk_drew ?_ | refine blk_alloc ?_ _)); refine blk_far ?_ NB101_122.out _; (with_reducible repeat (first | refine blk_drewN ?_ _ | refine blk_drew ?_ | refine blk_alloc ?_ _)); refine blk_far ?_ NB101_122.out _; (with_reducible repeat (first | refine blk_drewN ?_ _ | refine blk_drew ?_ | refine blk_alloc ?_ _)); refine blk_far ?_ NB101_122.out _; (with_reducible repeat (first | refine blk_drewN ?_ _ | refine blk_drew ?_ | refine blk_alloc ?_ _)); refine blk_far ?_ NB101_122.out _; (with_reducible repeat (first | refine blk_drewN ?_ _ | refine blk_drew ?_ | refine blk_alloc ?_ _)); exact BK101.out) hb); have n1_ := Aside0.mk (blk_below (g := gb122) (o := .cells #[.int .i64 t116, .string t117, .string t118, .int .i64 t119, .int .i64 t120] 23 (0, 0)) (by (with_reducible repeat (first | refine blk_drewN ?_ _ | refine blk_drew ?_ | refine blk_alloc ?_ _)); refine blk_put (cs := #[.int .i64 t116, .string t117, .string t118, .int .i64 t119, .int .i64 0]) ?_ 4 _ rfl; (with_reducible repeat (first | refine blk_drewN ?_ _ | refine blk_drew ?_ | refine blk_alloc ?_ _)); refine blk_put (cs := #[.int .i64 t116, .string t117, .string t118, .int .i64 0, .int .i64 0]) ?_ 3 _ rfl; (with_reducible repeat (first | refine blk_drewN ?_ _ | refine blk_drew ?_ | refine blk_alloc ?_ _)); refine blk_put (cs := #[.int .i64 t116, .string t117, .string (⟨#[]⟩ : ByteArray), .int .i64 0, .int .i64 0]) ?_ 2 _ rfl; (with_reducible repeat (first | refine blk_drewN ?_ _ | refine blk_drew ?_ | refine blk_alloc ?_ _)); refine blk_put (cs := #[.int .i64 t116, .string (⟨#[]⟩ : ByteArray), .string (⟨#[]⟩ : ByteArray), .int .i64 0, .int .i64 0]) ?_ 1 _ rfl; (with_reducible repeat (first | refine blk_drewN ?_ _ | refine blk_drew ?_ | refine blk_alloc ?_ _)); refine blk_put (cs := #[.int .i64 0, .string (⟨#[]⟩ : ByteArray), .string (⟨#[]⟩ : ByteArray), .int .i64 0, .int .i64 0]) ?_ 0 _ rfl; (with_reducible repeat (first | refine blk_drewN ?_ _ | refine blk_drew ?_ | refine blk_alloc ?_ _)); exact BK122.out) hb); have n2_ := Aside0.mk (below_step (by repeat (first | (with_reducible first | exact HB.out | apply below_alloc | apply pw_below_drewN | apply below_drew1 | refine below_set ?_ GE101.out | refine below_set ?_ GE122.out) | exact HB.out)) hb); clear BK101; clear BK122; clear HB; have BK101 := n0_; have BK122 := n1_; have HB := n2_; clear n0_ n1_ n2_; (try clear hb); (try clear hb2); (try clear hk); (try clear hi)) | ((with_reducible refine gate_dst (N := 16) rfl ?_); refine box_event ?hg (N := 16) ?hd (cs := #[.int .i64 0, .string (⟨#[]⟩ : ByteArray), .string (⟨#[]⟩ : ByteArray), .int .i64 0, .int .i64 0]) (t := 23) ?hr ?_; (case hd => rfl); (case hg => rfl); (case hr => first | (go_simp; done) | (go_simp; rfl) | (go_simp; simp only [isEmpty_ne, isEmpty_eq]; done) | (go_simp; simp only [isEmpty_ne, isEmpty_eq]; rfl)); intro gb129 hg w48 hbox hb; have n0_ := Aside0.mk (blk_below (g := gb101) (o := .cells #[.int .i64 t103, .string t104, .string t105, .int .i64 t106, .int .i64 t107] 23 (0, 0)) (by (with_reducible repeat (first | refine blk_drewN ?_ _ | refine blk_drew ?_ | refine blk_alloc ?_ _)); exact BK101.out) hb); have n1_ := Aside0.mk (blk_below (g := gb122) (o := .cells #[.int .i64 t116, .string t117, .string t118, .int .i64 t119, .int .i64 t120] 23 (0, 0)) (by (with_reducible repeat (first | refine blk_drewN ?_ _ | refine blk_drew ?_ | refine blk_alloc ?_ _)); exact BK122.out) hb); have n2_ := Aside0.mk (below_step (by repeat (first | (with_reducible first | exact HB.out | apply below_alloc | apply pw_below_drewN | apply below_drew1 | refine below_set ?_ GE101.out | refine below_set ?_ GE122.out) | exact HB.out)) hb); have n3_ := Aside0.mk (hbox); have n4_ := Aside0.mk ((by rw [hg]; exact (below_size (by repeat (first | (with_reducible first | exact HB.out | apply below_alloc | apply pw_below_drewN | apply below_drew1 | refine below_set ?_ GE101.out | refine below_set ?_ GE122.out) | exact HB.out))) : w.heap.size ≤ gb129)); have n5_ := Aside0.mk ((by rw [hg]; exact (below_size (by repeat (first | (with_reducible first | exact HB.out | apply below_alloc | apply pw_below_drewN | apply below_drew1 | refine below_set ?_ GE101.out | refine below_set ?_ GE122.out) | exact HB.out))) : w.heap.size ≤ gb129)); have n6_ := Aside0.mk ((by rw [hg]; exact Nat.ne_of_lt (blk_lt (g := gb101) (o := .cells #[.int .i64 t103, .string t104, .string t105, .int .i64 t106, .int .i64 t107] 23 (0, 0)) (by (with_reducible repeat (first | refine blk_drewN ?_ _ | refine blk_drew ?_ | refine blk_alloc ?_ _)); exact BK101.out)) : gb101 ≠ gb129)); have n7_ := Aside0.mk ((by rw [hg]; exact Nat.ne_of_gt (blk_lt (g := gb101) (o := .cells #[.int .i64 t103, .string t104, .string t105, .int .i64 t106, .int .i64 t107] 23 (0, 0)) (by (with_reducible repeat (first | refine blk_drewN ?_ _ | refine blk_drew ?_ | refine blk_alloc ?_ _)); exact BK101.out)) : gb129 ≠ gb101)); have n8_ := Aside0.mk ((by rw [hg]; exact Nat.ne_of_lt (blk_lt (g := gb122) (o := .cells #[.int .i64 t116, .string t117, .string t118, .int .i64 t119, .int .i64 t120] 23 (0, 0)) (by (with_reducible repeat (first | refine blk_drewN ?_ _ | refine blk_drew ?_ | refine blk_alloc ?_ _)); exact BK122.out)) : gb122 ≠ gb129)); have n9_ := Aside0.mk ((by rw [hg]; exact Nat.ne_of_gt (blk_lt (g := gb122) (o := .cells #[.int .i64 t116, .string t117, .string t118, .int .i64 t119, .int .i64 t120] 23 (0, 0)) (by (with_reducible repeat (first | refine blk_drewN ?_ _ | refine blk_drew ?_ | refine blk_alloc ?_ _)); exact BK122.out)) : gb129 ≠ gb122)); clear BK101; clear BK122; clear HB; have BK101 := n0_; have BK122 := n1_; have HB := n2_; have BK129 := n3_; have GW129 := n4_; have GE129 := n5_; have NB101_129 := n6_; have NB129_101 := n7_; have NB122_129 := n8_; have NB129_122 := n9_; clear n0_ n1_ n2_ n3_ n4_ n5_ n6_ n7_ n8_ n9_; clear hb hbox hg; have hnb49 := NB129_101.out; have hnc49 := NB101_129.out; have hnb50 := NB129_122.out; have hnc50 := NB122_129.out; have hcz51_0 : w48.cell? ⟨gb129, 0, none⟩ = some (.int .i64 0) := (blk_cell BK129.out 0).trans rfl; have hcz51_1 : w48.cell? ⟨gb129, 1, none⟩ = some (.string (⟨#[]⟩ : ByteArray)) := (blk_cell BK129.out 1).trans rfl; have hcz51_2 : w48.cell? ⟨gb129, 2, none⟩ = some (.string (⟨#[]⟩ : ByteArray)) := (blk_cell BK129.out 2).trans rfl; have hcz51_3 : w48.cell? ⟨gb129, 3, none⟩ = some (.int .i64 0) := (blk_cell BK129.out 3).trans rfl; have hcz51_4 : w48.cell? ⟨gb129, 4, none⟩ = some (.int .i64 0) := (blk_cell BK129.out 4).trans rfl; have hfz51_0 := blk_frozen BK129.out 0; have hfz51_1 := blk_frozen BK129.out 1; have hfz51_2 := blk_frozen BK129.out 2; have hfz51_3 := blk_frozen BK129.out 3; have hfz51_4 := blk_frozen BK129.out 4; have hcz52_0 : w48.cell? ⟨gb101, 0, none⟩ = some (.int .i64 t103) := (blk_cell BK101.out 0).trans rfl; have hcz52_1 : w48.cell? ⟨gb101, 1, none⟩ = some (.string t104) := (blk_cell BK101.out 1).trans rfl; have hcz52_2 : w48.cell? ⟨gb101, 2, none⟩ = some (.string t105) := (blk_cell BK101.out 2).trans rfl; have hcz52_3 : w48.cell? ⟨gb101, 3, none⟩ = some (.int .i64 t106) := (blk_cell BK101.out 3).trans rfl; have hcz52_4 : w48.cell? ⟨gb101, 4, none⟩ = some (.int .i64 t107) := (blk_cell BK101.out 4).trans rfl; have hfz52_0 := blk_frozen BK101.out 0; have hfz52_1 := blk_frozen BK101.out 1; have hfz52_2 := blk_frozen BK101.out 2; have hfz52_3 := blk_frozen BK101.out 3; have hfz52_4 := blk_frozen BK101.out 4) | ((with_reducible refine gate_callee (f := 15) rfl ?_); refine goesL_ (some 63) rfl rfl Tryd.func15 (by kernel_rfl) rfl #[.agg #[.int .i64 t103, .string t104, .string t105, .int .i64 t106, .int .i64 t107]] rfl (by (try simp only [List.map_toArray, List.map_cons, List.map_nil]); first | done | rfl | (simp only [List.length_drop, List.length_take]; rfl)) ?_; (with_reducible refine (eid_Print.calls t103 t104 t105 t106 t107 t130 t131 _ ?side1 A12.out).mono ?_); (case side1 => exact Laid.below HLD.out (by repeat (first | (with_reducible first | exact HB.out | apply below_alloc | apply pw_below_drewN | apply below_drew1 | refine below_set ?_ GE101.out | refine below_set ?_ GE122.out | refine below_set ?_ GE129.out) | exact HB.out))); rintro e w53 ⟨rfl, hb⟩; refine ⟨_, rfl, ?_⟩; have n0_ := Aside0.mk (blk_below (g := gb101) (o := .cells #[.int .i64 t103, .string t104, .string t105, .int .i64 t106, .int .i64 t107] 23 (0, 0)) (by (with_reducible repeat (first | refine blk_drewN ?_ _ | refine blk_drew ?_ | refine blk_alloc ?_ _)); refine blk_far ?_ NB101_129.out _; (with_reducible repeat (first | refine blk_drewN ?_ _ | refine blk_drew ?_ | refine blk_alloc ?_ _)); refine blk_far ?_ NB101_129.out _; (with_reducible repeat (first | refine blk_drewN ?_ _ | refine blk_drew ?_ | refine blk_alloc ?_ _)); refine blk_far ?_ NB101_129.out _; (with_reducible repeat (first | refine blk_drewN ?_ _ | refine blk_drew ?_ | refine blk_alloc ?_ _)); refine blk_far ?_ NB101_129.out _; (with_reducible repeat (first | refine blk_drewN ?_ _ | refine blk_drew ?_ | refine blk_alloc ?_ _)); refine blk_far ?_ NB101_129.out _; (with_reducible repeat (first | refine blk_drewN ?_ _ | refine blk_drew ?_ | refine blk_alloc ?_ _)); exact BK101.out) hb); have n1_ := Aside0.mk (blk_below (g := gb122) (o := .cells #[.int .i64 t116, .string t117, .string t118, .int .i64 t119, .int .i64 t120] 23 (0, 0)) (by (with_reducible repeat (first | refine blk_drewN ?_ _ | refine blk_drew ?_ | refine blk_alloc ?_ _)); refine blk_far ?_ NB122_129.out _; (with_reducible repeat (first | refine blk_drewN ?_ _ | refine blk_drew ?_ | refine blk_alloc ?_ _)); refine blk_far ?_ NB122_129.out _; (with_reducible repeat (first | refine blk_drewN ?_ _ | refine blk_drew ?_ | refine blk_alloc ?_ _)); refine blk_far ?_ NB122_129.out _; (with_reducible repeat (first | refine blk_drewN ?_ _ | refine blk_drew ?_ | refine blk_alloc ?_ _)); refine blk_far ?_ NB122_129.out _; (with_reducible repeat (first | refine blk_drewN ?_ _ | refine blk_drew ?_ | refine blk_alloc ?_ _)); refine blk_far ?_ NB122_129.out _; (with_reducible repeat (first | refine blk_drewN ?_ _ | refine blk_drew ?_ | refine blk_alloc ?_ _)); exact BK122.out) hb); have n2_ := Aside0.mk (blk_below (g := gb129) (o := .cells #[.int .i64 t123, .string t124, .string t125, .int .i64 t126, .int .i64 t127] 23 (0, 0)) (by (with_reducible repeat (first | refine blk_drewN ?_ _ | refine blk_drew ?_ | refine blk_alloc ?_ _)); refine blk_put (cs := #[.int .i64 t123, .string t124, .string t125, .int .i64 t126, .int .i64 0]) ?_ 4 _ rfl; (with_reducible repeat (first | refine blk_drewN ?_ _ | refine blk_drew ?_ | refine blk_alloc ?_ _)); refine blk_put (cs := #[.int .i64 t123, .string t124, .string t125, .int .i64 0, .int .i64 0]) ?_ 3 _ rfl; (with_reducible repeat (first | refine blk_drewN ?_ _ | refine blk_drew ?_ | refine blk_alloc ?_ _)); refine blk_put (cs := #[.int .i64 t123, .string t124, .string (⟨#[]⟩ : ByteArray), .int .i64 0, .int .i64 0]) ?_ 2 _ rfl; (with_reducible repeat (first | refine blk_drewN ?_ _ | refine blk_drew ?_ | refine blk_alloc ?_ _)); refine blk_put (cs := #[.int .i64 t123, .string (⟨#[]⟩ : ByteArray), .string (⟨#[]⟩ : ByteArray), .int .i64 0, .int .i64 0]) ?_ 1 _ rfl; (with_reducible repeat (first | refine blk_drewN ?_ _ | refine blk_drew ?_ | refine blk_alloc ?_ _)); refine blk_put (cs := #[.int .i64 0, .string (⟨#[]⟩ : ByteArray), .string (⟨#[]⟩ : ByteArray), .int .i64 0, .int .i64 0]) ?_ 0 _ rfl; (with_reducible repeat (first | refine blk_drewN ?_ _ | refine blk_drew ?_ | refine blk_alloc ?_ _)); exact BK129.out) hb); have n3_ := Aside0.mk (below_step (by repeat (first | (with_reducible first | exact HB.out | apply below_alloc | apply pw_below_drewN | apply below_drew1 | refine below_set ?_ GE101.out | refine below_set ?_ GE122.out | refine below_set ?_ GE129.out) | exact HB.out)) hb); clear BK101; clear BK122; clear BK129; clear HB; have BK101 := n0_; have BK122 := n1_; have BK129 := n2_; have HB := n3_; clear n0_ n1_ n2_ n3_; (try clear hb); (try clear hb2); (try clear hk); (try clear hi); have hcz54_0 : w53.cell? ⟨gb101, 0, none⟩ = some (.int .i64 t103) := (blk_cell BK101.out 0).trans rfl; have hcz54_1 : w53.cell? ⟨gb101, 1, none⟩ = some (.string t104) := (blk_cell BK101.out 1).trans rfl; have hcz54_2 : w53.cell? ⟨gb101, 2, none⟩ = some (.string t105) := (blk_cell BK101.out 2).trans rfl; have hcz54_3 : w53.cell? ⟨gb101, 3, none⟩ = some (.int .i64 t106) := (blk_cell BK101.out 3).trans rfl; have hcz54_4 : w53.cell? ⟨gb101, 4, none⟩ = some (.int .i64 t107) := (blk_cell BK101.out 4).trans rfl; have hfz54_0 := blk_frozen BK101.out 0; have hfz54_1 := blk_frozen BK101.out 1; have hfz54_2 := blk_frozen BK101.out 2; have hfz54_3 := blk_frozen BK101.out 3; have hfz54_4 := blk_frozen BK101.out 4) | ((with_reducible refine gate_callee (f := 16) rfl ?_); refine goesL_ (some 68) rfl rfl Tryd.func16 (by kernel_rfl) rfl #[.agg #[.int .i64 t103, .string t104, .string t105, .int .i64 t106, .int .i64 t107]] rfl (by (try simp only [List.map_toArray, List.map_cons, List.map_nil]); first | done | rfl | (simp only [List.length_drop, List.length_take]; rfl)) ?_; (with_reducible refine (postriderref06_Print.calls k t103 t104 t105 t106 t107 t132 t133 _ A13.out).mono ?_); rintro e w55 ⟨rfl, hb⟩; refine ⟨_, rfl, ?_⟩; have n0_ := Aside0.mk (blk_below (g := gb101) (o := .cells #[.int .i64 t103, .string t104, .string t105, .int .i64 t106, .int .i64 t107] 23 (0, 0)) (by (with_reducible repeat (first | refine blk_drewN ?_ _ | refine blk_drew ?_ | refine blk_alloc ?_ _)); exact BK101.out) hb); have n1_ := Aside0.mk (blk_below (g := gb122) (o := .cells #[.int .i64 t116, .string t117, .string t118, .int .i64 t119, .int .i64 t120] 23 (0, 0)) (by (with_reducible repeat (first | refine blk_drewN ?_ _ | refine blk_drew ?_ | refine blk_alloc ?_ _)); exact BK122.out) hb); have n2_ := Aside0.mk (blk_below (g := gb129) (o := .cells #[.int .i64 t123, .string t124, .string t125, .int .i64 t126, .int .i64 t127] 23 (0, 0)) (by (with_reducible repeat (first | refine blk_drewN ?_ _ | refine blk_drew ?_ | refine blk_alloc ?_ _)); exact BK129.out) hb); have n3_ := Aside0.mk (below_step (by repeat (first | (with_reducible first | exact HB.out | apply below_alloc | apply pw_below_drewN | apply below_drew1 | refine below_set ?_ GE101.out | refine below_set ?_ GE122.out | refine below_set ?_ GE129.out) | exact HB.out)) hb); clear BK101; clear BK122; clear BK129; clear HB; have BK101 := n0_; have BK122 := n1_; have BK129 := n2_; have HB := n3_; clear n0_ n1_ n2_ n3_; (try clear hb); (try clear hb2); (try clear hk); (try clear hi)) | ((with_reducible refine gate_callee (f := 17) rfl ?_); refine goesL_ (some 73) rfl rfl Tryd.func17 (by kernel_rfl) rfl #[.string t108] rfl (by (try simp only [List.map_toArray, List.map_cons, List.map_nil]); first | done | rfl | (simp only [List.length_drop, List.length_take]; rfl)) ?_; (with_reducible refine (eid_Parse.calls t108 t134 t135 t136 t137 t138 t139 _ ?side1 A14.out).mono ?_); (case side1 => exact Laid.below HLD.out (by repeat (first | (with_reducible first | exact HB.out | apply below_alloc | apply pw_below_drewN | apply below_drew1 | refine below_set ?_ GE101.out | refine below_set ?_ GE122.out | refine below_set ?_ GE129.out) | exact HB.out))); rintro e w56 ⟨rfl, hb⟩; refine ⟨_, rfl, ?_⟩; have n0_ := Aside0.mk (blk_below (g := gb101) (o := .cells #[.int .i64 t103, .string t104, .string t105, .int .i64 t106, .int .i64 t107] 23 (0, 0)) (by (with_reducible repeat (first | refine blk_drewN ?_ _ | refine blk_drew ?_ | refine blk_alloc ?_ _)); exact BK101.out) hb); have n1_ := Aside0.mk (blk_below (g := gb122) (o := .cells #[.int .i64 t116, .string t117, .string t118, .int .i64 t119, .int .i64 t120] 23 (0, 0)) (by (with_reducible repeat (first | refine blk_drewN ?_ _ | refine blk_drew ?_ | refine blk_alloc ?_ _)); exact BK122.out) hb); have n2_ := Aside0.mk (blk_below (g := gb129) (o := .cells #[.int .i64 t123, .string t124, .string t125, .int .i64 t126, .int .i64 t127] 23 (0, 0)) (by (with_reducible repeat (first | refine blk_drewN ?_ _ | refine blk_drew ?_ | refine blk_alloc ?_ _)); exact BK129.out) hb); have n3_ := Aside0.mk (below_step (by repeat (first | (with_reducible first | exact HB.out | apply below_alloc | apply pw_below_drewN | apply below_drew1 | refine below_set ?_ GE101.out | refine below_set ?_ GE122.out | refine below_set ?_ GE129.out) | exact HB.out)) hb); clear BK101; clear BK122; clear BK129; clear HB; have BK101 := n0_; have BK122 := n1_; have BK129 := n2_; have HB := n3_; clear n0_ n1_ n2_ n3_; (try clear hb); (try clear hb2); (try clear hk); (try clear hi)) | ((with_reducible refine gate_dst (N := 22) rfl ?_); refine box_event ?hg (N := 22) ?hd (cs := #[.int .i64 0, .string (⟨#[]⟩ : ByteArray), .string (⟨#[]⟩ : ByteArray), .int .i64 0, .int .i64 0]) (t := 23) ?hr ?_; (case hd => rfl); (case hg => rfl); (case hr => first | (go_simp; done) | (go_simp; rfl) | (go_simp; simp only [isEmpty_ne, isEmpty_eq]; done) | (go_simp; simp only [isEmpty_ne, isEmpty_eq]; rfl)); intro gb140 hg w57 hbox hb; have n0_ := Aside0.mk (blk_below (g := gb101) (o := .cells #[.int .i64 t103, .string t104, .string t105, .int .i64 t106, .int .i64 t107] 23 (0, 0)) (by (with_reducible repeat (first | refine blk_drewN ?_ _ | refine blk_drew ?_ | refine blk_alloc ?_ _)); exact BK101.out) hb); have n1_ := Aside0.mk (blk_below (g := gb122) (o := .cells #[.int .i64 t116, .string t117, .string t118, .int .i64 t119, .int .i64 t120] 23 (0, 0)) (by (with_reducible repeat (first | refine blk_drewN ?_ _ | refine blk_drew ?_ | refine blk_alloc ?_ _)); exact BK122.out) hb); have n2_ := Aside0.mk (blk_below (g := gb129) (o := .cells #[.int .i64 t123, .string t124, .string t125, .int .i64 t126, .int .i64 t127] 23 (0, 0)) (by (with_reducible repeat (first | refine blk_drewN ?_ _ | refine blk_drew ?_ | refine blk_alloc ?_ _)); exact BK129.out) hb); have n3_ := Aside0.mk (below_step (by repeat (first | (with_reducible first | exact HB.out | apply below_alloc | apply pw_below_drewN | apply below_drew1 | refine below_set ?_ GE101.out | refine below_set ?_ GE122.out | refine below_set ?_ GE129.out) | exact HB.out)) hb); have n4_ := Aside0.mk (hbox); have n5_ := Aside0.mk ((by rw [hg]; exact (below_size (by repeat (first | (with_reducible first | exact HB.out | apply below_alloc | apply pw_below_drewN | apply below_drew1 | refine below_set ?_ GE101.out | refine below_set ?_ GE122.out | refine below_set ?_ GE129.out) | exact HB.out))) : w.heap.size ≤ gb140)); have n6_ := Aside0.mk ((by rw [hg]; exact (below_size (by repeat (first | (with_reducible first | exact HB.out | apply below_alloc | apply pw_below_drewN | apply below_drew1 | refine below_set ?_ GE101.out | refine below_set ?_ GE122.out | refine below_set ?_ GE129.out) | exact HB.out))) : w.heap.size ≤ gb140)); have n7_ := Aside0.mk ((by rw [hg]; exact Nat.ne_of_lt (blk_lt (g := gb101) (o := .cells #[.int .i64 t103, .string t104, .string t105, .int .i64 t106, .int .i64 t107] 23 (0, 0)) (by (with_reducible repeat (first | refine blk_drewN ?_ _ | refine blk_drew ?_ | refine blk_alloc ?_ _)); exact BK101.out)) : gb101 ≠ gb140)); have n8_ := Aside0.mk ((by rw [hg]; exact Nat.ne_of_gt (blk_lt (g := gb101) (o := .cells #[.int .i64 t103, .string t104, .string t105, .int .i64 t106, .int .i64 t107] 23 (0, 0)) (by (with_reducible repeat (first | refine blk_drewN ?_ _ | refine blk_drew ?_ | refine blk_alloc ?_ _)); exact BK101.out)) : gb140 ≠ gb101)); have n9_ := Aside0.mk ((by rw [hg]; exact Nat.ne_of_lt (blk_lt (g := gb122) (o := .cells #[.int .i64 t116, .string t117, .string t118, .int .i64 t119, .int .i64 t120] 23 (0, 0)) (by (with_reducible repeat (first | refine blk_drewN ?_ _ | refine blk_drew ?_ | refine blk_alloc ?_ _)); exact BK122.out)) : gb122 ≠ gb140)); have n10_ := Aside0.mk ((by rw [hg]; exact Nat.ne_of_gt (blk_lt (g := gb122) (o := .cells #[.int .i64 t116, .string t117, .string t118, .int .i64 t119, .int .i64 t120] 23 (0, 0)) (by (with_reducible repeat (first | refine blk_drewN ?_ _ | refine blk_drew ?_ | refine blk_alloc ?_ _)); exact BK122.out)) : gb140 ≠ gb122)); have n11_ := Aside0.mk ((by rw [hg]; exact Nat.ne_of_lt (blk_lt (g := gb129) (o := .cells #[.int .i64 t123, .string t124, .string t125, .int .i64 t126, .int .i64 t127] 23 (0, 0)) (by (with_reducible repeat (first | refine blk_drewN ?_ _ | refine blk_drew ?_ | refine blk_alloc ?_ _)); exact BK129.out)) : gb129 ≠ gb140)); have n12_ := Aside0.mk ((by rw [hg]; exact Nat.ne_of_gt (blk_lt (g := gb129) (o := .cells #[.int .i64 t123, .string t124, .string t125, .int .i64 t126, .int .i64 t127] 23 (0, 0)) (by (with_reducible repeat (first | refine blk_drewN ?_ _ | refine blk_drew ?_ | refine blk_alloc ?_ _)); exact BK129.out)) : gb140 ≠ gb129)); clear BK101; clear BK122; clear BK129; clear HB; have BK101 := n0_; have BK122 := n1_; have BK129 := n2_; have HB := n3_; have BK140 := n4_; have GW140 := n5_; have GE140 := n6_; have NB101_140 := n7_; have NB140_101 := n8_; have NB122_140 := n9_; have NB140_122 := n10_; have NB129_140 := n11_; have NB140_129 := n12_; clear n0_ n1_ n2_ n3_ n4_ n5_ n6_ n7_ n8_ n9_ n10_ n11_ n12_; clear hb hbox hg; have hnb58 := NB140_101.out; have hnc58 := NB101_140.out; have hnb59 := NB140_122.out; have hnc59 := NB122_140.out; have hnb60 := NB140_129.out; have hnc60 := NB129_140.out; have hcz61_0 : w57.cell? ⟨gb140, 0, none⟩ = some (.int .i64 0) := (blk_cell BK140.out 0).trans rfl; have hcz61_1 : w57.cell? ⟨gb140, 1, none⟩ = some (.string (⟨#[]⟩ : ByteArray)) := (blk_cell BK140.out 1).trans rfl; have hcz61_2 : w57.cell? ⟨gb140, 2, none⟩ = some (.string (⟨#[]⟩ : ByteArray)) := (blk_cell BK140.out 2).trans rfl; have hcz61_3 : w57.cell? ⟨gb140, 3, none⟩ = some (.int .i64 0) := (blk_cell BK140.out 3).trans rfl; have hcz61_4 : w57.cell? ⟨gb140, 4, none⟩ = some (.int .i64 0) := (blk_cell BK140.out 4).trans rfl; have hfz61_0 := blk_frozen BK140.out 0; have hfz61_1 := blk_frozen BK140.out 1; have hfz61_2 := blk_frozen BK140.out 2; have hfz61_3 := blk_frozen BK140.out 3; have hfz61_4 := blk_frozen BK140.out 4) | ((with_reducible refine gate_callee (f := 18) rfl ?_); refine goesL_ (some 78) rfl rfl Tryd.func18 (by kernel_rfl) rfl #[.string t108] rfl (by (try simp only [List.map_toArray, List.map_cons, List.map_nil]); first | done | rfl | (simp only [List.length_drop, List.length_take]; rfl)) ?_; (with_reducible refine (postriderref06_Parse.calls k t108 t141 t142 t143 t144 t145 t146 _ A15.out).mono ?_); rintro e w62 ⟨rfl, hb⟩; refine ⟨_, rfl, ?_⟩; have n0_ := Aside0.mk (blk_below (g := gb101) (o := .cells #[.int .i64 t103, .string t104, .string t105, .int .i64 t106, .int .i64 t107] 23 (0, 0)) (by (with_reducible repeat (first | refine blk_drewN ?_ _ | refine blk_drew ?_ | refine blk_alloc ?_ _)); refine blk_far ?_ NB101_140.out _; (with_reducible repeat (first | refine blk_drewN ?_ _ | refine blk_drew ?_ | refine blk_alloc ?_ _)); refine blk_far ?_ NB101_140.out _; (with_reducible repeat (first | refine blk_drewN ?_ _ | refine blk_drew ?_ | refine blk_alloc ?_ _)); refine blk_far ?_ NB101_140.out _; (with_reducible repeat (first | refine blk_drewN ?_ _ | refine blk_drew ?_ | refine blk_alloc ?_ _)); refine blk_far ?_ NB101_140.out _; (with_reducible repeat (first | refine blk_drewN ?_ _ | refine blk_drew ?_ | refine blk_alloc ?_ _)); refine blk_far ?_ NB101_140.out _; (with_reducible repeat (first | refine blk_drewN ?_ _ | refine blk_drew ?_ | refine blk_alloc ?_ _)); exact BK101.out) hb); have n1_ := Aside0.mk (blk_below (g := gb122) (o := .cells #[.int .i64 t116, .string t117, .string t118, .int .i64 t119, .int .i64 t120] 23 (0, 0)) (by (with_reducible repeat (first | refine blk_drewN ?_ _ | refine blk_drew ?_ | refine blk_alloc ?_ _)); refine blk_far ?_ NB122_140.out _; (with_reducible repeat (first | refine blk_drewN ?_ _ | refine blk_drew ?_ | refine blk_alloc ?_ _)); refine blk_far ?_ NB122_140.out _; (with_reducible repeat (first | refine blk_drewN ?_ _ | refine blk_drew ?_ | refine blk_alloc ?_ _)); refine blk_far ?_ NB122_140.out _; (with_reducible repeat (first | refine blk_drewN ?_ _ | refine blk_drew ?_ | refine blk_alloc ?_ _)); refine blk_far ?_ NB122_140.out _; (with_reducible repeat (first | refine blk_drewN ?_ _ | refine blk_drew ?_ | refine blk_alloc ?_ _)); refine blk_far ?_ NB122_140.out _; (with_reducible repeat (first | refine blk_drewN ?_ _ | refine blk_drew ?_ | refine blk_alloc ?_ _)); exact BK122.out) hb); have n2_ := Aside0.mk (blk_below (g := gb129) (o := .cells #[.int .i64 t123, .string t124, .string t125, .int .i64 t126, .int .i64 t127] 23 (0, 0)) (by (with_reducible repeat (first | refine blk_drewN ?_ _ | refine blk_drew ?_ | refine blk_alloc ?_ _)); refine blk_far ?_ NB129_140.out _; (with_reducible repeat (first | refine blk_drewN ?_ _ | refine blk_drew ?_ | refine blk_alloc ?_ _)); refine blk_far ?_ NB129_140.out _; (with_reducible repeat (first | refine blk_drewN ?_ _ | refine blk_drew ?_ | refine blk_alloc ?_ _)); refine blk_far ?_ NB129_140.out _; (with_reducible repeat (first | refine blk_drewN ?_ _ | refine blk_drew ?_ | refine blk_alloc ?_ _)); refine blk_far ?_ NB129_140.out _; (with_reducible repeat (first | refine blk_drewN ?_ _ | refine blk_drew ?_ | refine blk_alloc ?_ _)); refine blk_far ?_ NB129_140.out _; (with_reducible repeat (first | refine blk_drewN ?_ _ | refine blk_drew ?_ | refine blk_alloc ?_ _)); exact BK129.out) hb); have n3_ := Aside0.mk (blk_below (g := gb140) (o := .cells #[.int .i64 t134, .string t135, .string t136, .int .i64 t137, .int .i64 t138] 23 (0, 0)) (by (with_reducible repeat (first | refine blk_drewN ?_ _ | refine blk_drew ?_ | refine blk_alloc ?_ _)); refine blk_put (cs := #[.int .i64 t134, .string t135, .string t136, .int .i64 t137, .int .i64 0]) ?_ 4 _ rfl; (with_reducible repeat (first | refine blk_drewN ?_ _ | refine blk_drew ?_ | refine blk_alloc ?_ _)); refine blk_put (cs := #[.int .i64 t134, .string t135, .string t136, .int .i64 0, .int .i64 0]) ?_ 3 _ rfl; (with_reducible repeat (first | refine blk_drewN ?_ _ | refine blk_drew ?_ | refine blk_alloc ?_ _)); refine blk_put (cs := #[.int .i64 t134, .string t135, .string (⟨#[]⟩ : ByteArray), .int .i64 0, .int .i64 0]) ?_ 2 _ rfl; (with_reducible repeat (first | refine blk_drewN ?_ _ | refine blk_drew ?_ | refine blk_alloc ?_ _)); refine blk_put (cs := #[.int .i64 t134, .string (⟨#[]⟩ : ByteArray), .string (⟨#[]⟩ : ByteArray), .int .i64 0, .int .i64 0]) ?_ 1 _ rfl; (with_reducible repeat (first | refine blk_drewN ?_ _ | refine blk_drew ?_ | refine blk_alloc ?_ _)); refine blk_put (cs := #[.int .i64 0, .string (⟨#[]⟩ : ByteArray), .string (⟨#[]⟩ : ByteArray), .int .i64 0, .int .i64 0]) ?_ 0 _ rfl; (with_reducible repeat (first | refine blk_drewN ?_ _ | refine blk_drew ?_ | refine blk_alloc ?_ _)); exact BK140.out) hb); have n4_ := Aside0.mk (below_step (by repeat (first | (with_reducible first | exact HB.out | apply below_alloc | apply pw_below_drewN | apply below_drew1 | refine below_set ?_ GE101.out | refine below_set ?_ GE122.out | refine below_set ?_ GE129.out | refine below_set ?_ GE140.out) | exact HB.out)) hb); clear BK101; clear BK122; clear BK129; clear BK140; clear HB; have BK101 := n0_; have BK122 := n1_; have BK129 := n2_; have BK140 := n3_; have HB := n4_; clear n0_ n1_ n2_ n3_ n4_; (try clear hb); (try clear hb2); (try clear hk); (try clear hi)) | ((with_reducible refine gate_dst (N := 24) rfl ?_); refine box_event ?hg (N := 24) ?hd (cs := #[.int .i64 0, .string (⟨#[]⟩ : ByteArray), .string (⟨#[]⟩ : ByteArray), .int .i64 0, .int .i64 0]) (t := 23) ?hr ?_; (case hd => rfl); (case hg => rfl); (case hr => first | (go_simp; done) | (go_simp; rfl) | (go_simp; simp only [isEmpty_ne, isEmpty_eq]; done) | (go_simp; simp only [isEmpty_ne, isEmpty_eq]; rfl)); intro gb147 hg w63 hbox hb; have n0_ := Aside0.mk (blk_below (g := gb101) (o := .cells #[.int .i64 t103, .string t104, .string t105, .int .i64 t106, .int .i64 t107] 23 (0, 0)) (by (with_reducible repeat (first | refine blk_drewN ?_ _ | refine blk_drew ?_ | refine blk_alloc ?_ _)); exact BK101.out) hb); have n1_ := Aside0.mk (blk_below (g := gb122) (o := .cells #[.int .i64 t116, .string t117, .string t118, .int .i64 t119, .int .i64 t120] 23 (0, 0)) (by (with_reducible repeat (first | refine blk_drewN ?_ _ | refine blk_drew ?_ | refine blk_alloc ?_ _)); exact BK122.out) hb); have n2_ := Aside0.mk (blk_below (g := gb129) (o := .cells #[.int .i64 t123, .string t124, .string t125, .int .i64 t126, .int .i64 t127] 23 (0, 0)) (by (with_reducible repeat (first | refine blk_drewN ?_ _ | refine blk_drew ?_ | refine blk_alloc ?_ _)); exact BK129.out) hb); have n3_ := Aside0.mk (blk_below (g := gb140) (o := .cells #[.int .i64 t134, .string t135, .string t136, .int .i64 t137, .int .i64 t138] 23 (0, 0)) (by (with_reducible repeat (first | refine blk_drewN ?_ _ | refine blk_drew ?_ | refine blk_alloc ?_ _)); exact BK140.out) hb); have n4_ := Aside0.mk (below_step (by repeat (first | (with_reducible first | exact HB.out | apply below_alloc | apply pw_below_drewN | apply below_drew1 | refine below_set ?_ GE101.out | refine below_set ?_ GE122.out | refine below_set ?_ GE129.out | refine below_set ?_ GE140.out) | exact HB.out)) hb); have n5_ := Aside0.mk (hbox); have n6_ := Aside0.mk ((by rw [hg]; exact (below_size (by repeat (first | (with_reducible first | exact HB.out | apply below_alloc | apply pw_below_drewN | apply below_drew1 | refine below_set ?_ GE101.out | refine below_set ?_ GE122.out | refine below_set ?_ GE129.out | refine below_set ?_ GE140.out) | exact HB.out))) : w.heap.size ≤ gb147)); have n7_ := Aside0.mk ((by rw [hg]; exact (below_size (by repeat (first | (with_reducible first | exact HB.out | apply below_alloc | apply pw_below_drewN | apply below_drew1 | refine below_set ?_ GE101.out | refine below_set ?_ GE122.out | refine below_set ?_ GE129.out | refine below_set ?_ GE140.out) | exact HB.out))) : w.heap.size ≤ gb147)); have n8_ := Aside0.mk ((by rw [hg]; exact Nat.ne_of_lt (blk_lt (g := gb101) (o := .cells #[.int .i64 t103, .string t104, .string t105, .int .i64 t106, .int .i64 t107] 23 (0, 0)) (by (with_reducible repeat (first | refine blk_drewN ?_ _ | refine blk_drew ?_ | refine blk_alloc ?_ _)); exact BK101.out)) : gb101 ≠ gb147)); have n9_ := Aside0.mk ((by rw [hg]; exact Nat.ne_of_gt (blk_lt (g := gb101) (o := .cells #[.int .i64 t103, .string t104, .string t105, .int .i64 t106, .int .i64 t107] 23 (0, 0)) (by (with_reducible repeat (first | refine blk_drewN ?_ _ | refine blk_drew ?_ | refine blk_alloc ?_ _)); exact BK101.out)) : gb147 ≠ gb101)); have n10_ := Aside0.mk ((by rw [hg]; exact Nat.ne_of_lt (blk_lt (g := gb122) (o := .cells #[.int .i64 t116, .string t117, .string t118, .int .i64 t119, .int .i64 t120] 23 (0, 0)) (by (with_reducible repeat (first | refine blk_drewN ?_ _ | refine blk_drew ?_ | refine blk_alloc ?_ _)); exact BK122.out)) : gb122 ≠ gb147)); have n11_ := Aside0.mk ((by rw [hg]; exact Nat.ne_of_gt (blk_lt (g := gb122) (o := .cells #[.int .i64 t116, .string t117, .string t118, .int .i64 t119, .int .i64 t120] 23 (0, 0)) (by (with_reducible repeat (first | refine blk_drewN ?_ _ | refine blk_drew ?_ | refine blk_alloc ?_ _)); exact BK122.out)) : gb147 ≠ gb122)); have n12_ := Aside0.mk ((by rw [hg]; exact Nat.ne_of_lt (blk_lt (g := gb129) (o := .cells #[.int .i64 t123, .string t124, .string t125, .int .i64 t126, .int .i64 t127] 23 (0, 0)) (by (with_reducible repeat (first | refine blk_drewN ?_ _ | refine blk_drew ?_ | refine blk_alloc ?_ _)); exact BK129.out)) : gb129 ≠ gb147)); have n13_ := Aside0.mk ((by rw [hg]; exact Nat.ne_of_gt (blk_lt (g := gb129) (o := .cells #[.int .i64 t123, .string t124, .string t125, .int .i64 t126, .int .i64 t127] 23 (0, 0)) (by (with_reducible repeat (first | refine blk_drewN ?_ _ | refine blk_drew ?_ | refine blk_alloc ?_ _)); exact BK129.out)) : gb147 ≠ gb129)); have n14_ := Aside0.mk ((by rw [hg]; exact Nat.ne_of_lt (blk_lt (g := gb140) (o := .cells #[.int .i64 t134, .string t135, .string t136, .int .i64 t137, .int .i64 t138] 23 (0, 0)) (by (with_reducible repeat (first | refine blk_drewN ?_ _ | refine blk_drew ?_ | refine blk_alloc ?_ _)); exact BK140.out)) : gb140 ≠ gb147)); have n15_ := Aside0.mk ((by rw [hg]; exact Nat.ne_of_gt (blk_lt (g := gb140) (o := .cells #[.int .i64 t134, .string t135, .string t136, .int .i64 t137, .int .i64 t138] 23 (0, 0)) (by (with_reducible repeat (first | refine blk_drewN ?_ _ | refine blk_drew ?_ | refine blk_alloc ?_ _)); exact BK140.out)) : gb147 ≠ gb140)); clear BK101; clear BK122; clear BK129; clear BK140; clear HB; have BK101 := n0_; have BK122 := n1_; have BK129 := n2_; have BK140 := n3_; have HB := n4_; have BK147 := n5_; have GW147 := n6_; have GE147 := n7_; have NB101_147 := n8_; have NB147_101 := n9_; have NB122_147 := n10_; have NB147_122 := n11_; have NB129_147 := n12_; have NB147_129 := n13_; have NB140_147 := n14_; have NB147_140 := n15_; clear n0_ n1_ n2_ n3_ n4_ n5_ n6_ n7_ n8_ n9_ n10_ n11_ n12_ n13_ n14_ n15_; clear hb hbox hg; have hnb64 := NB147_101.out; have hnc64 := NB101_147.out; have hnb65 := NB147_122.out; have hnc65 := NB122_147.out; have hnb66 := NB147_129.out; have hnc66 := NB129_147.out; have hnb67 := NB147_140.out; have hnc67 := NB140_147.out; have hcz68_0 : w63.cell? ⟨gb147, 0, none⟩ = some (.int .i64 0) := (blk_cell BK147.out 0).trans rfl; have hcz68_1 : w63.cell? ⟨gb147, 1, none⟩ = some (.string (⟨#[]⟩ : ByteArray)) := (blk_cell BK147.out 1).trans rfl; have hcz68_2 : w63.cell? ⟨gb147, 2, none⟩ = some (.string (⟨#[]⟩ : ByteArray)) := (blk_cell BK147.out 2).trans rfl; have hcz68_3 : w63.cell? ⟨gb147, 3, none⟩ = some (.int .i64 0) := (blk_cell BK147.out 3).trans rfl; have hcz68_4 : w63.cell? ⟨gb147, 4, none⟩ = some (.int .i64 0) := (blk_cell BK147.out 4).trans rfl; have hfz68_0 := blk_frozen BK147.out 0; have hfz68_1 := blk_frozen BK147.out 1; have hfz68_2 := blk_frozen BK147.out 2; have hfz68_3 := blk_frozen BK147.out 3; have hfz68_4 := blk_frozen BK147.out 4; have hcz69_0 : w63.cell? ⟨gb101, 0, none⟩ = some (.int .i64 t103) := (blk_cell BK101.out 0).trans rfl; have hcz69_1 : w63.cell? ⟨gb101, 1, none⟩ = some (.string t104) := (blk_cell BK101.out 1).trans rfl; have hcz69_2 : w63.cell? ⟨gb101, 2, none⟩ = some (.string t105) := (blk_cell BK101.out 2).trans rfl; have hcz69_3 : w63.cell? ⟨gb101, 3, none⟩ = some (.int .i64 t106) := (blk_cell BK101.out 3).trans rfl; have hcz69_4 : w63.cell? ⟨gb101, 4, none⟩ = some (.int .i64 t107) := (blk_cell BK101.out 4).trans rfl; have hfz69_0 := blk_frozen BK101.out 0; have hfz69_1 := blk_frozen BK101.out 1; have hfz69_2 := blk_frozen BK101.out 2; have hfz69_3 := blk_frozen BK101.out 3; have hfz69_4 := blk_frozen BK101.out 4) | ((with_reducible refine gate_callee (f := 19) rfl ?_); refine goesL_ (some 83) rfl rfl Tryd.func19 (by kernel_rfl) rfl #[.agg #[.int .i64 t103, .string t104, .string t105, .int .i64 t106, .int .i64 t107]] rfl (by (try simp only [List.map_toArray, List.map_cons, List.map_nil]); first | done | rfl | (simp only [List.length_drop, List.length_take]; rfl)) ?_; (with_reducible refine (eid_Home.calls t103 t104 t105 t106 t107 t148 t149 t150 t151 t152 t153 _ A16.out).mono ?_); rintro e w70 ⟨rfl, hb⟩; refine ⟨_, rfl, ?_⟩; have n0_ := Aside0.mk (blk_below (g := gb101) (o := .cells #[.int .i64 t103, .string t104, .string t105, .int .i64 t106, .int .i64 t107] 23 (0, 0)) (by (with_reducible repeat (first | refine blk_drewN ?_ _ | refine blk_drew ?_ | refine blk_alloc ?_ _)); refine blk_far ?_ NB101_147.out _; (with_reducible repeat (first | refine blk_drewN ?_ _ | refine blk_drew ?_ | refine blk_alloc ?_ _)); refine blk_far ?_ NB101_147.out _; (with_reducible repeat (first | refine blk_drewN ?_ _ | refine blk_drew ?_ | refine blk_alloc ?_ _)); refine blk_far ?_ NB101_147.out _; (with_reducible repeat (first | refine blk_drewN ?_ _ | refine blk_drew ?_ | refine blk_alloc ?_ _)); refine blk_far ?_ NB101_147.out _; (with_reducible repeat (first | refine blk_drewN ?_ _ | refine blk_drew ?_ | refine blk_alloc ?_ _)); refine blk_far ?_ NB101_147.out _; (with_reducible repeat (first | refine blk_drewN ?_ _ | refine blk_drew ?_ | refine blk_alloc ?_ _)); exact BK101.out) hb); have n1_ := Aside0.mk (blk_below (g := gb122) (o := .cells #[.int .i64 t116, .string t117, .string t118, .int .i64 t119, .int .i64 t120] 23 (0, 0)) (by (with_reducible repeat (first | refine blk_drewN ?_ _ | refine blk_drew ?_ | refine blk_alloc ?_ _)); refine blk_far ?_ NB122_147.out _; (with_reducible repeat (first | refine blk_drewN ?_ _ | refine blk_drew ?_ | refine blk_alloc ?_ _)); refine blk_far ?_ NB122_147.out _; (with_reducible repeat (first | refine blk_drewN ?_ _ | refine blk_drew ?_ | refine blk_alloc ?_ _)); refine blk_far ?_ NB122_147.out _; (with_reducible repeat (first | refine blk_drewN ?_ _ | refine blk_drew ?_ | refine blk_alloc ?_ _)); refine blk_far ?_ NB122_147.out _; (with_reducible repeat (first | refine blk_drewN ?_ _ | refine blk_drew ?_ | refine blk_alloc ?_ _)); refine blk_far ?_ NB122_147.out _; (with_reducible repeat (first | refine blk_drewN ?_ _ | refine blk_drew ?_ | refine blk_alloc ?_ _)); exact BK122.out) hb); have n2_ := Aside0.mk (blk_below (g := gb129) (o := .cells #[.int .i64 t123, .string t124, .string t125, .int .i64 t126, .int .i64 t127] 23 (0, 0)) (by (with_reducible repeat (first | refine blk_drewN ?_ _ | refine blk_drew ?_ | refine blk_alloc ?_ _)); refine blk_far ?_ NB129_147.out _; (with_reducible repeat (first | refine blk_drewN ?_ _ | refine blk_drew ?_ | refine blk_alloc ?_ _)); refine blk_far ?_ NB129_147.out _; (with_reducible repeat (first | refine blk_drewN ?_ _ | refine blk_drew ?_ | refine blk_alloc ?_ _)); refine blk_far ?_ NB129_147.out _; (with_reducible repeat (first | refine blk_drewN ?_ _ | refine blk_drew ?_ | refine blk_alloc ?_ _)); refine blk_far ?_ NB129_147.out _; (with_reducible repeat (first | refine blk_drewN ?_ _ | refine blk_drew ?_ | refine blk_alloc ?_ _)); refine blk_far ?_ NB129_147.out _; (with_reducible repeat (first | refine blk_drewN ?_ _ | refine blk_drew ?_ | refine blk_alloc ?_ _)); exact BK129.out) hb); have n3_ := Aside0.mk (blk_below (g := gb140) (o := .cells #[.int .i64 t134, .string t135, .string t136, .int .i64 t137, .int .i64 t138] 23 (0, 0)) (by (with_reducible repeat (first | refine blk_drewN ?_ _ | refine blk_drew ?_ | refine blk_alloc ?_ _)); refine blk_far ?_ NB140_147.out _; (with_reducible repeat (first | refine blk_drewN ?_ _ | refine blk_drew ?_ | refine blk_alloc ?_ _)); refine blk_far ?_ NB140_147.out _; (with_reducible repeat (first | refine blk_drewN ?_ _ | refine blk_drew ?_ | refine blk_alloc ?_ _)); refine blk_far ?_ NB140_147.out _; (with_reducible repeat (first | refine blk_drewN ?_ _ | refine blk_drew ?_ | refine blk_alloc ?_ _)); refine blk_far ?_ NB140_147.out _; (with_reducible repeat (first | refine blk_drewN ?_ _ | refine blk_drew ?_ | refine blk_alloc ?_ _)); refine blk_far ?_ NB140_147.out _; (with_reducible repeat (first | refine blk_drewN ?_ _ | refine blk_drew ?_ | refine blk_alloc ?_ _)); exact BK140.out) hb); have n4_ := Aside0.mk (blk_below (g := gb147) (o := .cells #[.int .i64 t141, .string t142, .string t143, .int .i64 t144, .int .i64 t145] 23 (0, 0)) (by (with_reducible repeat (first | refine blk_drewN ?_ _ | refine blk_drew ?_ | refine blk_alloc ?_ _)); refine blk_put (cs := #[.int .i64 t141, .string t142, .string t143, .int .i64 t144, .int .i64 0]) ?_ 4 _ rfl; (with_reducible repeat (first | refine blk_drewN ?_ _ | refine blk_drew ?_ | refine blk_alloc ?_ _)); refine blk_put (cs := #[.int .i64 t141, .string t142, .string t143, .int .i64 0, .int .i64 0]) ?_ 3 _ rfl; (with_reducible repeat (first | refine blk_drewN ?_ _ | refine blk_drew ?_ | refine blk_alloc ?_ _)); refine blk_put (cs := #[.int .i64 t141, .string t142, .string (⟨#[]⟩ : ByteArray), .int .i64 0, .int .i64 0]) ?_ 2 _ rfl; (with_reducible repeat (first | refine blk_drewN ?_ _ | refine blk_drew ?_ | refine blk_alloc ?_ _)); refine blk_put (cs := #[.int .i64 t141, .string (⟨#[]⟩ : ByteArray), .string (⟨#[]⟩ : ByteArray), .int .i64 0, .int .i64 0]) ?_ 1 _ rfl; (with_reducible repeat (first | refine blk_drewN ?_ _ | refine blk_drew ?_ | refine blk_alloc ?_ _)); refine blk_put (cs := #[.int .i64 0, .string (⟨#[]⟩ : ByteArray), .string (⟨#[]⟩ : ByteArray), .int .i64 0, .int .i64 0]) ?_ 0 _ rfl; (with_reducible repeat (first | refine blk_drewN ?_ _ | refine blk_drew ?_ | refine blk_alloc ?_ _)); exact BK147.out) hb); have n5_ := Aside0.mk (below_step (by repeat (first | (with_reducible first | exact HB.out | apply below_alloc | apply pw_below_drewN | apply below_drew1 | refine below_set ?_ GE101.out | refine below_set ?_ GE122.out | refine below_set ?_ GE129.out | refine below_set ?_ GE140.out | refine below_set ?_ GE147.out) | exact HB.out)) hb); clear BK101; clear BK122; clear BK129; clear BK140; clear BK147; clear HB; have BK101 := n0_; have BK122 := n1_; have BK129 := n2_; have BK140 := n3_; have BK147 := n4_; have HB := n5_; clear n0_ n1_ n2_ n3_ n4_ n5_; (try clear hb); (try clear hb2); (try clear hk); (try clear hi)) | ((with_reducible refine gate_dst (N := 26) rfl ?_); refine box_event ?hg (N := 26) ?hd (cs := #[.int .i64 0, .string (⟨#[]⟩ : ByteArray), .string (⟨#[]⟩ : ByteArray), .int .i64 0, .int .i64 0]) (t := 23) ?hr ?_; (case hd => rfl); (case hg => rfl); (case hr => first | (go_simp; done) | (go_simp; rfl) | (go_simp; simp only [isEmpty_ne, isEmpty_eq]; done) | (go_simp; simp only [isEmpty_ne, isEmpty_eq]; rfl)); intro gb154 hg w71 hbox hb; have n0_ := Aside0.mk (blk_below (g := gb101) (o := .cells #[.int .i64 t103, .string t104, .string t105, .int .i64 t106, .int .i64 t107] 23 (0, 0)) (by (with_reducible repeat (first | refine blk_drewN ?_ _ | refine blk_drew ?_ | refine blk_alloc ?_ _)); exact BK101.out) hb); have n1_ := Aside0.mk (blk_below (g := gb122) (o := .cells #[.int .i64 t116, .string t117, .string t118, .int .i64 t119, .int .i64 t120] 23 (0, 0)) (by (with_reducible repeat (first | refine blk_drewN ?_ _ | refine blk_drew ?_ | refine blk_alloc ?_ _)); exact BK122.out) hb); have n2_ := Aside0.mk (blk_below (g := gb129) (o := .cells #[.int .i64 t123, .string t124, .string t125, .int .i64 t126, .int .i64 t127] 23 (0, 0)) (by (with_reducible repeat (first | refine blk_drewN ?_ _ | refine blk_drew ?_ | refine blk_alloc ?_ _)); exact BK129.out) hb); have n3_ := Aside0.mk (blk_below (g := gb140) (o := .cells #[.int .i64 t134, .string t135, .string t136, .int .i64 t137, .int .i64 t138] 23 (0, 0)) (by (with_reducible repeat (first | refine blk_drewN ?_ _ | refine blk_drew ?_ | refine blk_alloc ?_ _)); exact BK140.out) hb); have n4_ := Aside0.mk (blk_below (g := gb147) (o := .cells #[.int .i64 t141, .string t142, .string t143, .int .i64 t144, .int .i64 t145] 23 (0, 0)) (by (with_reducible repeat (first | refine blk_drewN ?_ _ | refine blk_drew ?_ | refine blk_alloc ?_ _)); exact BK147.out) hb); have n5_ := Aside0.mk (below_step (by repeat (first | (with_reducible first | exact HB.out | apply below_alloc | apply pw_below_drewN | apply below_drew1 | refine below_set ?_ GE101.out | refine below_set ?_ GE122.out | refine below_set ?_ GE129.out | refine below_set ?_ GE140.out | refine below_set ?_ GE147.out) | exact HB.out)) hb); have n6_ := Aside0.mk (hbox); have n7_ := Aside0.mk ((by rw [hg]; exact (below_size (by repeat (first | (with_reducible first | exact HB.out | apply below_alloc | apply pw_below_drewN | apply below_drew1 | refine below_set ?_ GE101.out | refine below_set ?_ GE122.out | refine below_set ?_ GE129.out | refine below_set ?_ GE140.out | refine below_set ?_ GE147.out) | exact HB.out))) : w.heap.size ≤ gb154)); have n8_ := Aside0.mk ((by rw [hg]; exact (below_size (by repeat (first | (with_reducible first | exact HB.out | apply below_alloc | apply pw_below_drewN | apply below_drew1 | refine below_set ?_ GE101.out | refine below_set ?_ GE122.out | refine below_set ?_ GE129.out | refine below_set ?_ GE140.out | refine below_set ?_ GE147.out) | exact HB.out))) : w.heap.size ≤ gb154)); have n9_ := Aside0.mk ((by rw [hg]; exact Nat.ne_of_lt (blk_lt (g := gb101) (o := .cells #[.int .i64 t103, .string t104, .string t105, .int .i64 t106, .int .i64 t107] 23 (0, 0)) (by (with_reducible repeat (first | refine blk_drewN ?_ _ | refine blk_drew ?_ | refine blk_alloc ?_ _)); exact BK101.out)) : gb101 ≠ gb154)); have n10_ := Aside0.mk ((by rw [hg]; exact Nat.ne_of_gt (blk_lt (g := gb101) (o := .cells #[.int .i64 t103, .string t104, .string t105, .int .i64 t106, .int .i64 t107] 23 (0, 0)) (by (with_reducible repeat (first | refine blk_drewN ?_ _ | refine blk_drew ?_ | refine blk_alloc ?_ _)); exact BK101.out)) : gb154 ≠ gb101)); have n11_ := Aside0.mk ((by rw [hg]; exact Nat.ne_of_lt (blk_lt (g := gb122) (o := .cells #[.int .i64 t116, .string t117, .string t118, .int .i64 t119, .int .i64 t120] 23 (0, 0)) (by (with_reducible repeat (first | refine blk_drewN ?_ _ | refine blk_drew ?_ | refine blk_alloc ?_ _)); exact BK122.out)) : gb122 ≠ gb154)); have n12_ := Aside0.mk ((by rw [hg]; exact Nat.ne_of_gt (blk_lt (g := gb122) (o := .cells #[.int .i64 t116, .string t117, .string t118, .int .i64 t119, .int .i64 t120] 23 (0, 0)) (by (with_reducible repeat (first | refine blk_drewN ?_ _ | refine blk_drew ?_ | refine blk_alloc ?_ _)); exact BK122.out)) : gb154 ≠ gb122)); have n13_ := Aside0.mk ((by rw [hg]; exact Nat.ne_of_lt (blk_lt (g := gb129) (o := .cells #[.int .i64 t123, .string t124, .string t125, .int .i64 t126, .int .i64 t127] 23 (0, 0)) (by (with_reducible repeat (first | refine blk_drewN ?_ _ | refine blk_drew ?_ | refine blk_alloc ?_ _)); exact BK129.out)) : gb129 ≠ gb154)); have n14_ := Aside0.mk ((by rw [hg]; exact Nat.ne_of_gt (blk_lt (g := gb129) (o := .cells #[.int .i64 t123, .string t124, .string t125, .int .i64 t126, .int .i64 t127] 23 (0, 0)) (by (with_reducible repeat (first | refine blk_drewN ?_ _ | refine blk_drew ?_ | refine blk_alloc ?_ _)); exact BK129.out)) : gb154 ≠ gb129)); have n15_ := Aside0.mk ((by rw [hg]; exact Nat.ne_of_lt (blk_lt (g := gb140) (o := .cells #[.int .i64 t134, .string t135, .string t136, .int .i64 t137, .int .i64 t138] 23 (0, 0)) (by (with_reducible repeat (first | refine blk_drewN ?_ _ | refine blk_drew ?_ | refine blk_alloc ?_ _)); exact BK140.out)) : gb140 ≠ gb154)); have n16_ := Aside0.mk ((by rw [hg]; exact Nat.ne_of_gt (blk_lt (g := gb140) (o := .cells #[.int .i64 t134, .string t135, .string t136, .int .i64 t137, .int .i64 t138] 23 (0, 0)) (by (with_reducible repeat (first | refine blk_drewN ?_ _ | refine blk_drew ?_ | refine blk_alloc ?_ _)); exact BK140.out)) : gb154 ≠ gb140)); have n17_ := Aside0.mk ((by rw [hg]; exact Nat.ne_of_lt (blk_lt (g := gb147) (o := .cells #[.int .i64 t141, .string t142, .string t143, .int .i64 t144, .int .i64 t145] 23 (0, 0)) (by (with_reducible repeat (first | refine blk_drewN ?_ _ | refine blk_drew ?_ | refine blk_alloc ?_ _)); exact BK147.out)) : gb147 ≠ gb154)); have n18_ := Aside0.mk ((by rw [hg]; exact Nat.ne_of_gt (blk_lt (g := gb147) (o := .cells #[.int .i64 t141, .string t142, .string t143, .int .i64 t144, .int .i64 t145] 23 (0, 0)) (by (with_reducible repeat (first | refine blk_drewN ?_ _ | refine blk_drew ?_ | refine blk_alloc ?_ _)); exact BK147.out)) : gb154 ≠ gb147)); clear BK101; clear BK122; clear BK129; clear BK140; clear BK147; clear HB; have BK101 := n0_; have BK122 := n1_; have BK129 := n2_; have BK140 := n3_; have BK147 := n4_; have HB := n5_; have BK154 := n6_; have GW154 := n7_; have GE154 := n8_; have NB101_154 := n9_; have NB154_101 := n10_; have NB122_154 := n11_; have NB154_122 := n12_; have NB129_154 := n13_; have NB154_129 := n14_; have NB140_154 := n15_; have NB154_140 := n16_; have NB147_154 := n17_; have NB154_147 := n18_; clear n0_ n1_ n2_ n3_ n4_ n5_ n6_ n7_ n8_ n9_ n10_ n11_ n12_ n13_ n14_ n15_ n16_ n17_ n18_; clear hb hbox hg; have hnb72 := NB154_101.out; have hnc72 := NB101_154.out; have hnb73 := NB154_122.out; have hnc73 := NB122_154.out; have hnb74 := NB154_129.out; have hnc74 := NB129_154.out; have hnb75 := NB154_140.out; have hnc75 := NB140_154.out; have hnb76 := NB154_147.out; have hnc76 := NB147_154.out; have hcz77_0 : w71.cell? ⟨gb154, 0, none⟩ = some (.int .i64 0) := (blk_cell BK154.out 0).trans rfl; have hcz77_1 : w71.cell? ⟨gb154, 1, none⟩ = some (.string (⟨#[]⟩ : ByteArray)) := (blk_cell BK154.out 1).trans rfl; have hcz77_2 : w71.cell? ⟨gb154, 2, none⟩ = some (.string (⟨#[]⟩ : ByteArray)) := (blk_cell BK154.out 2).trans rfl; have hcz77_3 : w71.cell? ⟨gb154, 3, none⟩ = some (.int .i64 0) := (blk_cell BK154.out 3).trans rfl; have hcz77_4 : w71.cell? ⟨gb154, 4, none⟩ = some (.int .i64 0) := (blk_cell BK154.out 4).trans rfl; have hfz77_0 := blk_frozen BK154.out 0; have hfz77_1 := blk_frozen BK154.out 1; have hfz77_2 := blk_frozen BK154.out 2; have hfz77_3 := blk_frozen BK154.out 3; have hfz77_4 := blk_frozen BK154.out 4; have hcz78_0 : w71.cell? ⟨gb101, 0, none⟩ = some (.int .i64 t103) := (blk_cell BK101.out 0).trans rfl; have hcz78_1 : w71.cell? ⟨gb101, 1, none⟩ = some (.string t104) := (blk_cell BK101.out 1).trans rfl; have hcz78_2 : w71.cell? ⟨gb101, 2, none⟩ = some (.string t105) := (blk_cell BK101.out 2).trans rfl; have hcz78_3 : w71.cell? ⟨gb101, 3, none⟩ = some (.int .i64 t106) := (blk_cell BK101.out 3).trans rfl; have hcz78_4 : w71.cell? ⟨gb101, 4, none⟩ = some (.int .i64 t107) := (blk_cell BK101.out 4).trans rfl; have hfz78_0 := blk_frozen BK101.out 0; have hfz78_1 := blk_frozen BK101.out 1; have hfz78_2 := blk_frozen BK101.out 2; have hfz78_3 := blk_frozen BK101.out 3; have hfz78_4 := blk_frozen BK101.out 4) | ((with_reducible refine gate_callee (f := 20) rfl ?_); refine goesL_ (some 88) rfl rfl Tryd.func20 (by kernel_rfl) rfl #[.agg #[.int .i64 t103, .string t104, .string t105, .int .i64 t106, .int .i64 t107]] rfl (by (try simp only [List.map_toArray, List.map_cons, List.map_nil]); first | done | rfl | (simp only [List.length_drop, List.length_take]; rfl)) ?_; (with_reducible refine (postriderref06_Home.calls k t103 t104 t105 t106 t107 t155 t156 t157 t158 t159 t160 _ A17.out).mono ?_); rintro e w79 ⟨rfl, hb⟩; refine ⟨_, rfl, ?_⟩; have n0_ := Aside0.mk (blk_below (g := gb101) (o := .cells #[.int .i64 t103, .string t104, .string t105, .int .i64 t106, .int .i64 t107] 23 (0, 0)) (by (with_reducible repeat (first | refine blk_drewN ?_ _ | refine blk_drew ?_ | refine blk_alloc ?_ _)); refine blk_far ?_ NB101_154.out _; (with_reducible repeat (first | refine blk_drewN ?_ _ | refine blk_drew ?_ | refine blk_alloc ?_ _)); refine blk_far ?_ NB101_154.out _; (with_reducible repeat (first | refine blk_drewN ?_ _ | refine blk_drew ?_ | refine blk_alloc ?_ _)); refine blk_far ?_ NB101_154.out _; (with_reducible repeat (first | refine blk_drewN ?_ _ | refine blk_drew ?_ | refine blk_alloc ?_ _)); refine blk_far ?_ NB101_154.out _; (with_reducible repeat (first | refine blk_drewN ?_ _ | refine blk_drew ?_ | refine blk_alloc ?_ _)); refine blk_far ?_ NB101_154.out _; (with_reducible repeat (first | refine blk_drewN ?_ _ | refine blk_drew ?_ | refine blk_alloc ?_ _)); exact BK101.out) hb); have n1_ := Aside0.mk (blk_below (g := gb122) (o := .cells #[.int .i64 t116, .string t117, .string t118, .int .i64 t119, .int .i64 t120] 23 (0, 0)) (by (with_reducible repeat (first | refine blk_drewN ?_ _ | refine blk_drew ?_ | refine blk_alloc ?_ _)); refine blk_far ?_ NB122_154.out _; (with_reducible repeat (first | refine blk_drewN ?_ _ | refine blk_drew ?_ | refine blk_alloc ?_ _)); refine blk_far ?_ NB122_154.out _; (with_reducible repeat (first | refine blk_drewN ?_ _ | refine blk_drew ?_ | refine blk_alloc ?_ _)); refine blk_far ?_ NB122_154.out _; (with_reducible repeat (first | refine blk_drewN ?_ _ | refine blk_drew ?_ | refine blk_alloc ?_ _)); refine blk_far ?_ NB122_154.out _; (with_reducible repeat (first | refine blk_drewN ?_ _ | refine blk_drew ?_ | refine blk_alloc ?_ _)); refine blk_far ?_ NB122_154.out _; (with_reducible repeat (first | refine blk_drewN ?_ _ | refine blk_drew ?_ | refine blk_alloc ?_ _)); exact BK122.out) hb); have n2_ := Aside0.mk (blk_below (g := gb129) (o := .cells #[.int .i64 t123, .string t124, .string t125, .int .i64 t126, .int .i64 t127] 23 (0, 0)) (by (with_reducible repeat (first | refine blk_drewN ?_ _ | refine blk_drew ?_ | refine blk_alloc ?_ _)); refine blk_far ?_ NB129_154.out _; (with_reducible repeat (first | refine blk_drewN ?_ _ | refine blk_drew ?_ | refine blk_alloc ?_ _)); refine blk_far ?_ NB129_154.out _; (with_reducible repeat (first | refine blk_drewN ?_ _ | refine blk_drew ?_ | refine blk_alloc ?_ _)); refine blk_far ?_ NB129_154.out _; (with_reducible repeat (first | refine blk_drewN ?_ _ | refine blk_drew ?_ | refine blk_alloc ?_ _)); refine blk_far ?_ NB129_154.out _; (with_reducible repeat (first | refine blk_drewN ?_ _ | refine blk_drew ?_ | refine blk_alloc ?_ _)); refine blk_far ?_ NB129_154.out _; (with_reducible repeat (first | refine blk_drewN ?_ _ | refine blk_drew ?_ | refine blk_alloc ?_ _)); exact BK129.out) hb); have n3_ := Aside0.mk (blk_below (g := gb140) (o := .cells #[.int .i64 t134, .string t135, .string t136, .int .i64 t137, .int .i64 t138] 23 (0, 0)) (by (with_reducible repeat (first | refine blk_drewN ?_ _ | refine blk_drew ?_ | refine blk_alloc ?_ _)); refine blk_far ?_ NB140_154.out _; (with_reducible repeat (first | refine blk_drewN ?_ _ | refine blk_drew ?_ | refine blk_alloc ?_ _)); refine blk_far ?_ NB140_154.out _; (with_reducible repeat (first | refine blk_drewN ?_ _ | refine blk_drew ?_ | refine blk_alloc ?_ _)); refine blk_far ?_ NB140_154.out _; (with_reducible repeat (first | refine blk_drewN ?_ _ | refine blk_drew ?_ | refine blk_alloc ?_ _)); refine blk_far ?_ NB140_154.out _; (with_reducible repeat (first | refine blk_drewN ?_ _ | refine blk_drew ?_ | refine blk_alloc ?_ _)); refine blk_far ?_ NB140_154.out _; (with_reducible repeat (first | refine blk_drewN ?_ _ | refine blk_drew ?_ | refine blk_alloc ?_ _)); exact BK140.out) hb); have n4_ := Aside0.mk (blk_below (g := gb147) (o := .cells #[.int .i64 t141, .string t142, .string t143, .int .i64 t144, .int .i64 t145] 23 (0, 0)) (by (with_reducible repeat (first | refine blk_drewN ?_ _ | refine blk_drew ?_ | refine blk_alloc ?_ _)); refine blk_far ?_ NB147_154.out _; (with_reducible repeat (first | refine blk_drewN ?_ _ | refine blk_drew ?_ | refine blk_alloc ?_ _)); refine blk_far ?_ NB147_154.out _; (with_reducible repeat (first | refine blk_drewN ?_ _ | refine blk_drew ?_ | refine blk_alloc ?_ _)); refine blk_far ?_ NB147_154.out _; (with_reducible repeat (first | refine blk_drewN ?_ _ | refine blk_drew ?_ | refine blk_alloc ?_ _)); refine blk_far ?_ NB147_154.out _; (with_reducible repeat (first | refine blk_drewN ?_ _ | refine blk_drew ?_ | refine blk_alloc ?_ _)); refine blk_far ?_ NB147_154.out _; (with_reducible repeat (first | refine blk_drewN ?_ _ | refine blk_drew ?_ | refine blk_alloc ?_ _)); exact BK147.out) hb); have n5_ := Aside0.mk (blk_below (g := gb154) (o := .cells #[.int .i64 t148, .string t149, .string t150, .int .i64 t151, .int .i64 t152] 23 (0, 0)) (by (with_reducible repeat (first | refine blk_drewN ?_ _ | refine blk_drew ?_ | refine blk_alloc ?_ _)); refine blk_put (cs := #[.int .i64 t148, .string t149, .string t150, .int .i64 t151, .int .i64 0]) ?_ 4 _ rfl; (with_reducible repeat (first | refine blk_drewN ?_ _ | refine blk_drew ?_ | refine blk_alloc ?_ _)); refine blk_put (cs := #[.int .i64 t148, .string t149, .string t150, .int .i64 0, .int .i64 0]) ?_ 3 _ rfl; (with_reducible repeat (first | refine blk_drewN ?_ _ | refine blk_drew ?_ | refine blk_alloc ?_ _)); refine blk_put (cs := #[.int .i64 t148, .string t149, .string (⟨#[]⟩ : ByteArray), .int .i64 0, .int .i64 0]) ?_ 2 _ rfl; (with_reducible repeat (first | refine blk_drewN ?_ _ | refine blk_drew ?_ | refine blk_alloc ?_ _)); refine blk_put (cs := #[.int .i64 t148, .string (⟨#[]⟩ : ByteArray), .string (⟨#[]⟩ : ByteArray), .int .i64 0, .int .i64 0]) ?_ 1 _ rfl; (with_reducible repeat (first | refine blk_drewN ?_ _ | refine blk_drew ?_ | refine blk_alloc ?_ _)); refine blk_put (cs := #[.int .i64 0, .string (⟨#[]⟩ : ByteArray), .string (⟨#[]⟩ : ByteArray), .int .i64 0, .int .i64 0]) ?_ 0 _ rfl; (with_reducible repeat (first | refine blk_drewN ?_ _ | refine blk_drew ?_ | refine blk_alloc ?_ _)); exact BK154.out) hb); have n6_ := Aside0.mk (below_step (by repeat (first | (with_reducible first | exact HB.out | apply below_alloc | apply pw_below_drewN | apply below_drew1 | refine below_set ?_ GE101.out | refine below_set ?_ GE122.out | refine below_set ?_ GE129.out | refine below_set ?_ GE140.out | refine below_set ?_ GE147.out | refine below_set ?_ GE154.out) | exact HB.out)) hb); clear BK101; clear BK122; clear BK129; clear BK140; clear BK147; clear BK154; clear HB; have BK101 := n0_; have BK122 := n1_; have BK129 := n2_; have BK140 := n3_; have BK147 := n4_; have BK154 := n5_; have HB := n6_; clear n0_ n1_ n2_ n3_ n4_ n5_ n6_; (try clear hb); (try clear hb2); (try clear hk); (try clear hi)) | ((with_reducible refine gate_dst (N := 28) rfl ?_); refine box_event ?hg (N := 28) ?hd (cs := #[.int .i64 0, .string (⟨#[]⟩ : ByteArray), .string (⟨#[]⟩ : ByteArray), .int .i64 0, .int .i64 0]) (t := 23) ?hr ?_; (case hd => rfl); (case hg => rfl); (case hr => first | (go_simp; done) | (go_simp; rfl) | (go_simp; simp only [isEmpty_ne, isEmpty_eq]; done) | (go_simp; simp only [isEmpty_ne, isEmpty_eq]; rfl)); intro gb161 hg w80 hbox hb; have n0_ := Aside0.mk (blk_below (g := gb101) (o := .cells #[.int .i64 t103, .string t104, .string t105, .int .i64 t106, .int .i64 t107] 23 (0, 0)) (by (with_reducible repeat (first | refine blk_drewN ?_ _ | refine blk_drew ?_ | refine blk_alloc ?_ _)); exact BK101.out) hb); have n1_ := Aside0.mk (blk_below (g := gb122) (o := .cells #[.int .i64 t116, .string t117, .string t118, .int .i64 t119, .int .i64 t120] 23 (0, 0)) (by (with_reducible repeat (first | refine blk_drewN ?_ _ | refine blk_drew ?_ | refine blk_alloc ?_ _)); exact BK122.out) hb); have n2_ := Aside0.mk (blk_below (g := gb129) (o := .cells #[.int .i64 t123, .string t124, .string t125, .int .i64 t126, .int .i64 t127] 23 (0, 0)) (by (with_reducible repeat (first | refine blk_drewN ?_ _ | refine blk_drew ?_ | refine blk_alloc ?_ _)); exact BK129.out) hb); have n3_ := Aside0.mk (blk_below (g := gb140) (o := .cells #[.int .i64 t134, .string t135, .string t136, .int .i64 t137, .int .i64 t138] 23 (0, 0)) (by (with_reducible repeat (first | refine blk_drewN ?_ _ | refine blk_drew ?_ | refine blk_alloc ?_ _)); exact BK140.out) hb); have n4_ := Aside0.mk (blk_below (g := gb147) (o := .cells #[.int .i64 t141, .string t142, .string t143, .int .i64 t144, .int .i64 t145] 23 (0, 0)) (by (with_reducible repeat (first | refine blk_drewN ?_ _ | refine blk_drew ?_ | refine blk_alloc ?_ _)); exact BK147.out) hb); have n5_ := Aside0.mk (blk_below (g := gb154) (o := .cells #[.int .i64 t148, .string t149, .string t150, .int .i64 t151, .int .i64 t152] 23 (0, 0)) (by (with_reducible repeat (first | refine blk_drewN ?_ _ | refine blk_drew ?_ | refine blk_alloc ?_ _)); exact BK154.out) hb); have n6_ := Aside0.mk (below_step (by repeat (first | (with_reducible first | exact HB.out | apply below_alloc | apply pw_below_drewN | apply below_drew1 | refine below_set ?_ GE101.out | refine below_set ?_ GE122.out | refine below_set ?_ GE129.out | refine below_set ?_ GE140.out | refine below_set ?_ GE147.out | refine below_set ?_ GE154.out) | exact HB.out)) hb); have n7_ := Aside0.mk (hbox); have n8_ := Aside0.mk ((by rw [hg]; exact (below_size (by repeat (first | (with_reducible first | exact HB.out | apply below_alloc | apply pw_below_drewN | apply below_drew1 | refine below_set ?_ GE101.out | refine below_set ?_ GE122.out | refine below_set ?_ GE129.out | refine below_set ?_ GE140.out | refine below_set ?_ GE147.out | refine below_set ?_ GE154.out) | exact HB.out))) : w.heap.size ≤ gb161)); have n9_ := Aside0.mk ((by rw [hg]; exact (below_size (by repeat (first | (with_reducible first | exact HB.out | apply below_alloc | apply pw_below_drewN | apply below_drew1 | refine below_set ?_ GE101.out | refine below_set ?_ GE122.out | refine below_set ?_ GE129.out | refine below_set ?_ GE140.out | refine below_set ?_ GE147.out | refine below_set ?_ GE154.out) | exact HB.out))) : w.heap.size ≤ gb161)); have n10_ := Aside0.mk ((by rw [hg]; exact Nat.ne_of_lt (blk_lt (g := gb101) (o := .cells #[.int .i64 t103, .string t104, .string t105, .int .i64 t106, .int .i64 t107] 23 (0, 0)) (by (with_reducible repeat (first | refine blk_drewN ?_ _ | refine blk_drew ?_ | refine blk_alloc ?_ _)); exact BK101.out)) : gb101 ≠ gb161)); have n11_ := Aside0.mk ((by rw [hg]; exact Nat.ne_of_gt (blk_lt (g := gb101) (o := .cells #[.int .i64 t103, .string t104, .string t105, .int .i64 t106, .int .i64 t107] 23 (0, 0)) (by (with_reducible repeat (first | refine blk_drewN ?_ _ | refine blk_drew ?_ | refine blk_alloc ?_ _)); exact BK101.out)) : gb161 ≠ gb101)); have n12_ := Aside0.mk ((by rw [hg]; exact Nat.ne_of_lt (blk_lt (g := gb122) (o := .cells #[.int .i64 t116, .string t117, .string t118, .int .i64 t119, .int .i64 t120] 23 (0, 0)) (by (with_reducible repeat (first | refine blk_drewN ?_ _ | refine blk_drew ?_ | refine blk_alloc ?_ _)); exact BK122.out)) : gb122 ≠ gb161)); have n13_ := Aside0.mk ((by rw [hg]; exact Nat.ne_of_gt (blk_lt (g := gb122) (o := .cells #[.int .i64 t116, .string t117, .string t118, .int .i64 t119, .int .i64 t120] 23 (0, 0)) (by (with_reducible repeat (first | refine blk_drewN ?_ _ | refine blk_drew ?_ | refine blk_alloc ?_ _)); exact BK122.out)) : gb161 ≠ gb122)); have n14_ := Aside0.mk ((by rw [hg]; exact Nat.ne_of_lt (blk_lt (g := gb129) (o := .cells #[.int .i64 t123, .string t124, .string t125, .int .i64 t126, .int .i64 t127] 23 (0, 0)) (by (with_reducible repeat (first | refine blk_drewN ?_ _ | refine blk_drew ?_ | refine blk_alloc ?_ _)); exact BK129.out)) : gb129 ≠ gb161)); have n15_ := Aside0.mk ((by rw [hg]; exact Nat.ne_of_gt (blk_lt (g := gb129) (o := .cells #[.int .i64 t123, .string t124, .string t125, .int .i64 t126, .int .i64 t127] 23 (0, 0)) (by (with_reducible repeat (first | refine blk_drewN ?_ _ | refine blk_drew ?_ | refine blk_alloc ?_ _)); exact BK129.out)) : gb161 ≠ gb129)); have n16_ := Aside0.mk ((by rw [hg]; exact Nat.ne_of_lt (blk_lt (g := gb140) (o := .cells #[.int .i64 t134, .string t135, .string t136, .int .i64 t137, .int .i64 t138] 23 (0, 0)) (by (with_reducible repeat (first | refine blk_drewN ?_ _ | refine blk_drew ?_ | refine blk_alloc ?_ _)); exact BK140.out)) : gb140 ≠ gb161)); have n17_ := Aside0.mk ((by rw [hg]; exact Nat.ne_of_gt (blk_lt (g := gb140) (o := .cells #[.int .i64 t134, .string t135, .string t136, .int .i64 t137, .int .i64 t138] 23 (0, 0)) (by (with_reducible repeat (first | refine blk_drewN ?_ _ | refine blk_drew ?_ | refine blk_alloc ?_ _)); exact BK140.out)) : gb161 ≠ gb140)); have n18_ := Aside0.mk ((by rw [hg]; exact Nat.ne_of_lt (blk_lt (g := gb147) (o := .cells #[.int .i64 t141, .string t142, .string t143, .int .i64 t144, .int .i64 t145] 23 (0, 0)) (by (with_reducible repeat (first | refine blk_drewN ?_ _ | refine blk_drew ?_ | refine blk_alloc ?_ _)); exact BK147.out)) : gb147 ≠ gb161)); have n19_ := Aside0.mk ((by rw [hg]; exact Nat.ne_of_gt (blk_lt (g := gb147) (o := .cells #[.int .i64 t141, .string t142, .string t143, .int .i64 t144, .int .i64 t145] 23 (0, 0)) (by (with_reducible repeat (first | refine blk_drewN ?_ _ | refine blk_drew ?_ | refine blk_alloc ?_ _)); exact BK147.out)) : gb161 ≠ gb147)); have n20_ := Aside0.mk ((by rw [hg]; exact Nat.ne_of_lt (blk_lt (g := gb154) (o := .cells #[.int .i64 t148, .string t149, .string t150, .int .i64 t151, .int .i64 t152] 23 (0, 0)) (by (with_reducible repeat (first | refine blk_drewN ?_ _ | refine blk_drew ?_ | refine blk_alloc ?_ _)); exact BK154.out)) : gb154 ≠ gb161)); have n21_ := Aside0.mk ((by rw [hg]; exact Nat.ne_of_gt (blk_lt (g := gb154) (o := .cells #[.int .i64 t148, .string t149, .string t150, .int .i64 t151, .int .i64 t152] 23 (0, 0)) (by (with_reducible repeat (first | refine blk_drewN ?_ _ | refine blk_drew ?_ | refine blk_alloc ?_ _)); exact BK154.out)) : gb161 ≠ gb154)); clear BK101; clear BK122; clear BK129; clear BK140; clear BK147; clear BK154; clear HB; have BK101 := n0_; have BK122 := n1_; have BK129 := n2_; have BK140 := n3_; have BK147 := n4_; have BK154 := n5_; have HB := n6_; have BK161 := n7_; have GW161 := n8_; have GE161 := n9_; have NB101_161 := n10_; have NB161_101 := n11_; have NB122_161 := n12_; have NB161_122 := n13_; have NB129_161 := n14_; have NB161_129 := n15_; have NB140_161 := n16_; have NB161_140 := n17_; have NB147_161 := n18_; have NB161_147 := n19_; have NB154_161 := n20_; have NB161_154 := n21_; clear n0_ n1_ n2_ n3_ n4_ n5_ n6_ n7_ n8_ n9_ n10_ n11_ n12_ n13_ n14_ n15_ n16_ n17_ n18_ n19_ n20_ n21_; clear hb hbox hg; have hnb81 := NB161_101.out; have hnc81 := NB101_161.out; have hnb82 := NB161_122.out; have hnc82 := NB122_161.out; have hnb83 := NB161_129.out; have hnc83 := NB129_161.out; have hnb84 := NB161_140.out; have hnc84 := NB140_161.out; have hnb85 := NB161_147.out; have hnc85 := NB147_161.out; have hnb86 := NB161_154.out; have hnc86 := NB154_161.out; have hcz87_0 : w80.cell? ⟨gb161, 0, none⟩ = some (.int .i64 0) := (blk_cell BK161.out 0).trans rfl; have hcz87_1 : w80.cell? ⟨gb161, 1, none⟩ = some (.string (⟨#[]⟩ : ByteArray)) := (blk_cell BK161.out 1).trans rfl; have hcz87_2 : w80.cell? ⟨gb161, 2, none⟩ = some (.string (⟨#[]⟩ : ByteArray)) := (blk_cell BK161.out 2).trans rfl; have hcz87_3 : w80.cell? ⟨gb161, 3, none⟩ = some (.int .i64 0) := (blk_cell BK161.out 3).trans rfl; have hcz87_4 : w80.cell? ⟨gb161, 4, none⟩ = some (.int .i64 0) := (blk_cell BK161.out 4).trans rfl; have hfz87_0 := blk_frozen BK161.out 0; have hfz87_1 := blk_frozen BK161.out 1; have hfz87_2 := blk_frozen BK161.out 2; have hfz87_3 := blk_frozen BK161.out 3; have hfz87_4 := blk_frozen BK161.out 4))
                          have n0_ : Aside0 ((((((w80.setCell ⟨gb161, 0, none⟩ (.int .i64 t155)).setCell ⟨gb161, 1, none⟩ (.string t156)).setCell ⟨gb161, 2, none⟩ (.string t157)).setCell ⟨gb161, 3, none⟩ (.int .i64 t158)).setCell ⟨gb161, 4, none⟩ (.int .i64 t159)).heap[gb101]? = some (.cells #[.int .i64 t103, .string t104, .string t105, .int .i64 t106, .int .i64 t107] 23 (0, 0))) := ⟨by (with_reducible repeat (first | refine blk_drewN ?_ _ | refine blk_drew ?_ | refine blk_alloc ?_ _)); refine blk_far ?_ NB101_161.out _; (with_reducible repeat (first | refine blk_drewN ?_ _ | refine blk_drew ?_ | refine blk_alloc ?_ _)); refine blk_far ?_ NB101_161.out _; (with_reducible repeat (first | refine blk_drewN ?_ _ | refine blk_drew ?_ | refine blk_alloc ?_ _)); refine blk_far ?_ NB101_161.out _; (with_reducible repeat (first | refine blk_drewN ?_ _ | refine blk_drew ?_ | refine blk_alloc ?_ _)); refine blk_far ?_ NB101_161.out _; (with_reducible repeat (first | refine blk_drewN ?_ _ | refine blk_drew ?_ | refine blk_alloc ?_ _)); refine blk_far ?_ NB101_161.out _; (with_reducible repeat (first | refine blk_drewN ?_ _ | refine blk_drew ?_ | refine blk_alloc ?_ _)); exact BK101.out⟩
                          have n1_ : Aside0 ((((((w80.setCell ⟨gb161, 0, none⟩ (.int .i64 t155)).setCell ⟨gb161, 1, none⟩ (.string t156)).setCell ⟨gb161, 2, none⟩ (.string t157)).setCell ⟨gb161, 3, none⟩ (.int .i64 t158)).setCell ⟨gb161, 4, none⟩ (.int .i64 t159)).heap[gb122]? = some (.cells #[.int .i64 t116, .string t117, .string t118, .int .i64 t119, .int .i64 t120] 23 (0, 0))) := ⟨by (with_reducible repeat (first | refine blk_drewN ?_ _ | refine blk_drew ?_ | refine blk_alloc ?_ _)); refine blk_far ?_ NB122_161.out _; (with_reducible repeat (first | refine blk_drewN ?_ _ | refine blk_drew ?_ | refine blk_alloc ?_ _)); refine blk_far ?_ NB122_161.out _; (with_reducible repeat (first | refine blk_drewN ?_ _ | refine blk_drew ?_ | refine blk_alloc ?_ _)); refine blk_far ?_ NB122_161.out _; (with_reducible repeat (first | refine blk_drewN ?_ _ | refine blk_drew ?_ | refine blk_alloc ?_ _)); refine blk_far ?_ NB122_161.out _; (with_reducible repeat (first | refine blk_drewN ?_ _ | refine blk_drew ?_ | refine blk_alloc ?_ _)); refine blk_far ?_ NB122_161.out _; (with_reducible repeat (first | refine blk_drewN ?_ _ | refine blk_drew ?_ | refine blk_alloc ?_ _)); exact BK122.out⟩
                          have n2_ : Aside0 ((((((w80.setCell ⟨gb161, 0, none⟩ (.int .i64 t155)).setCell ⟨gb161, 1, none⟩ (.string t156)).setCell ⟨gb161, 2, none⟩ (.string t157)).setCell ⟨gb161, 3, none⟩ (.int .i64 t158)).setCell ⟨gb161, 4, none⟩ (.int .i64 t159)).heap[gb129]? = some (.cells #[.int .i64 t123, .string t124, .string t125, .int .i64 t126, .int .i64 t127] 23 (0, 0))) := ⟨by (with_reducible repeat (first | refine blk_drewN ?_ _ | refine blk_drew ?_ | refine blk_alloc ?_ _)); refine blk_far ?_ NB129_161.out _; (with_reducible repeat (first | refine blk_drewN ?_ _ | refine blk_drew ?_ | refine blk_alloc ?_ _)); refine blk_far ?_ NB129_161.out _; (with_reducible repeat (first | refine blk_drewN ?_ _ | refine blk_drew ?_ | refine blk_alloc ?_ _)); refine blk_far ?_ NB129_161.out _; (with_reducible repeat (first | refine blk_drewN ?_ _ | refine blk_drew ?_ | refine blk_alloc ?_ _)); refine blk_far ?_ NB129_161.out _; (with_reducible repeat (first | refine blk_drewN ?_ _ | refine blk_drew ?_ | refine blk_alloc ?_ _)); refine blk_far ?_ NB129_161.out _; (with_reducible repeat (first | refine blk_drewN ?_ _ | refine blk_drew ?_ | refine blk_alloc ?_ _)); exact BK129.out⟩
                          have n3_ : Aside0 ((((((w80.setCell ⟨gb161, 0, none⟩ (.int .i64 t155)).setCell ⟨gb161, 1, none⟩ (.string t156)).setCell ⟨gb161, 2, none⟩ (.string t157)).setCell ⟨gb161, 3, none⟩ (.int .i64 t158)).setCell ⟨gb161, 4, none⟩ (.int .i64 t159)).heap[gb140]? = some (.cells #[.int .i64 t134, .string t135, .string t136, .int .i64 t137, .int .i64 t138] 23 (0, 0))) := ⟨by (with_reducible repeat (first | refine blk_drewN ?_ _ | refine blk_drew ?_ | refine blk_alloc ?_ _)); refine blk_far ?_ NB140_161.out _; (with_reducible repeat (first | refine blk_drewN ?_ _ | refine blk_drew ?_ | refine blk_alloc ?_ _)); refine blk_far ?_ NB140_161.out _; (with_reducible repeat (first | refine blk_drewN ?_ _ | refine blk_drew ?_ | refine blk_alloc ?_ _)); refine blk_far ?_ NB140_161.out _; (with_reducible repeat (first | refine blk_drewN ?_ _ | refine blk_drew ?_ | refine blk_alloc ?_ _)); refine blk_far ?_ NB140_161.out _; (with_reducible repeat (first | refine blk_drewN ?_ _ | refine blk_drew ?_ | refine blk_alloc ?_ _)); refine blk_far ?_ NB140_161.out _; (with_reducible repeat (first | refine blk_drewN ?_ _ | refine blk_drew ?_ | refine blk_alloc ?_ _)); exact BK140.out⟩
                          have n4_ : Aside0 ((((((w80.setCell ⟨gb161, 0, none⟩ (.int .i64 t155)).setCell ⟨gb161, 1, none⟩ (.string t156)).setCell ⟨gb161, 2, none⟩ (.string t157)).setCell ⟨gb161, 3, none⟩ (.int .i64 t158)).setCell ⟨gb161, 4, none⟩ (.int .i64 t159)).heap[gb147]? = some (.cells #[.int .i64 t141, .string t142, .string t143, .int .i64 t144, .int .i64 t145] 23 (0, 0))) := ⟨by (with_reducible repeat (first | refine blk_drewN ?_ _ | refine blk_drew ?_ | refine blk_alloc ?_ _)); refine blk_far ?_ NB147_161.out _; (with_reducible repeat (first | refine blk_drewN ?_ _ | refine blk_drew ?_ | refine blk_alloc ?_ _)); refine blk_far ?_ NB147_161.out _; (with_reducible repeat (first | refine blk_drewN ?_ _ | refine blk_drew ?_ | refine blk_alloc ?_ _)); refine blk_far ?_ NB147_161.out _; (with_reducible repeat (first | refine blk_drewN ?_ _ | refine blk_drew ?_ | refine blk_alloc ?_ _)); refine blk_far ?_ NB147_161.out _; (with_reducible repeat (first | refine blk_drewN ?_ _ | refine blk_drew ?_ | refine blk_alloc ?_ _)); refine blk_far ?_ NB147_161.out _; (with_reducible repeat (first | refine blk_drewN ?_ _ | refine blk_drew ?_ | refine blk_alloc ?_ _)); exact BK147.out⟩
                          have n5_ : Aside0 ((((((w80.setCell ⟨gb161, 0, none⟩ (.int .i64 t155)).setCell ⟨gb161, 1, none⟩ (.string t156)).setCell ⟨gb161, 2, none⟩ (.string t157)).setCell ⟨gb161, 3, none⟩ (.int .i64 t158)).setCell ⟨gb161, 4, none⟩ (.int .i64 t159)).heap[gb154]? = some (.cells #[.int .i64 t148, .string t149, .string t150, .int .i64 t151, .int .i64 t152] 23 (0, 0))) := ⟨by (with_reducible repeat (first | refine blk_drewN ?_ _ | refine blk_drew ?_ | refine blk_alloc ?_ _)); refine blk_far ?_ NB154_161.out _; (with_reducible repeat (first | refine blk_drewN ?_ _ | refine blk_drew ?_ | refine blk_alloc ?_ _)); refine blk_far ?_ NB154_161.out _; (with_reducible repeat (first | refine blk_drewN ?_ _ | refine blk_drew ?_ | refine blk_alloc ?_ _)); refine blk_far ?_ NB154_161.out _; (with_reducible repeat (first | refine blk_drewN ?_ _ | refine blk_drew ?_ | refine blk_alloc ?_ _)); refine blk_far ?_ NB154_161.out _; (with_reducible repeat (first | refine blk_drewN ?_ _ | refine blk_drew ?_ | refine blk_alloc ?_ _)); refine blk_far ?_ NB154_161.out _; (with_reducible repeat (first | refine blk_drewN ?_ _ | refine blk_drew ?_ | refine blk_alloc ?_ _)); exact BK154.out⟩
                          have n6_ : Aside0 ((((((w80.setCell ⟨gb161, 0, none⟩ (.int .i64 t155)).setCell ⟨gb161, 1, none⟩ (.string t156)).setCell ⟨gb161, 2, none⟩ (.string t157)).setCell ⟨gb161, 3, none⟩ (.int .i64 t158)).setCell ⟨gb161, 4, none⟩ (.int .i64 t159)).heap[gb161]? = some (.cells #[.int .i64 t155, .string t156, .string t157, .int .i64 t158, .int .i64 t159] 23 (0, 0))) := ⟨by (with_reducible repeat (first | refine blk_drewN ?_ _ | refine blk_drew ?_ | refine blk_alloc ?_ _)); refine blk_put (cs := #[.int .i64 t155, .string t156, .string t157, .int .i64 t158, .int .i64 0]) ?_ 4 _ rfl; (with_reducible repeat (first | refine blk_drewN ?_ _ | refine blk_drew ?_ | refine blk_alloc ?_ _)); refine blk_put (cs := #[.int .i64 t155, .string t156, .string t157, .int .i64 0, .int .i64 0]) ?_ 3 _ rfl; (with_reducible repeat (first | refine blk_drewN ?_ _ | refine blk_drew ?_ | refine blk_alloc ?_ _)); refine blk_put (cs := #[.int .i64 t155, .string t156, .string (⟨#[]⟩ : ByteArray), .int .i64 0, .int .i64 0]) ?_ 2 _ rfl; (with_reducible repeat (first | refine blk_drewN ?_ _ | refine blk_drew ?_ | refine blk_alloc ?_ _)); refine blk_put (cs := #[.int .i64 t155, .string (⟨#[]⟩ : ByteArray), .string (⟨#[]⟩ : ByteArray), .int .i64 0, .int .i64 0]) ?_ 1 _ rfl; (with_reducible repeat (first | refine blk_drewN ?_ _ | refine blk_drew ?_ | refine blk_alloc ?_ _)); refine blk_put (cs := #[.int .i64 0, .string (⟨#[]⟩ : ByteArray), .string (⟨#[]⟩ : ByteArray), .int .i64 0, .int .i64 0]) ?_ 0 _ rfl; (with_reducible repeat (first | refine blk_drewN ?_ _ | refine blk_drew ?_ | refine blk_alloc ?_ _)); exact BK161.out⟩
                          have n7_ : Aside0 (Below w.heap.size w (((((w80.setCell ⟨gb161, 0, none⟩ (.int .i64 t155)).setCell ⟨gb161, 1, none⟩ (.string t156)).setCell ⟨gb161, 2, none⟩ (.string t157)).setCell ⟨gb161, 3, none⟩ (.int .i64 t158)).setCell ⟨gb161, 4, none⟩ (.int .i64 t159))) := ⟨by repeat (first | (with_reducible first | exact HB.out | apply below_alloc | apply pw_below_drewN | apply below_drew1 | refine below_set ?_ GE101.out | refine below_set ?_ GE122.out | refine below_set ?_ GE129.out | refine below_set ?_ GE140.out | refine below_set ?_ GE147.out | refine below_set ?_ GE154.out | refine below_set ?_ GE161.out) | exact HB.out)⟩
                          (try clear BK101)
                          (try clear BK122)
                          (try clear BK129)
                          (try clear BK140)
                          (try clear BK147)
                          (try clear BK154)
                          (try clear BK161)
                          (try clear HB)
                          generalize (((((w80.setCell ⟨gb161, 0, none⟩ (.int .i64 t155)).setCell ⟨gb161, 1, none⟩ (.string t156)).setCell ⟨gb161, 2, none⟩ (.string t157)).setCell ⟨gb161, 3, none⟩ (.int .i64 t158)).setCell ⟨gb161, 4, none⟩ (.int .i64 t159)) = w88 at n0_ n1_ n2_ n3_ n4_ n5_ n6_ n7_ ⊢
                          have BK101 := n0_
                          have BK122 := n1_
                          have BK129 := n2_
                          have BK140 := n3_
                          have BK147 := n4_
                          have BK154 := n5_
                          have BK161 := n6_
                          have HB := n7_
                          clear n0_ n1_ n2_ n3_ n4_ n5_ n6_ n7_
                          have n0_ := Aside0.mk (blk_drew BK101.out)
                          have n1_ := Aside0.mk (blk_drew BK122.out)
                          have n2_ := Aside0.mk (blk_drew BK129.out)
                          have n3_ := Aside0.mk (blk_drew BK140.out)
                          have n4_ := Aside0.mk (blk_drew BK147.out)
                          have n5_ := Aside0.mk (blk_drew BK154.out)
                          have n6_ := Aside0.mk (blk_drew BK161.out)
                          have n7_ := Aside0.mk (below_drew1 HB.out)
                          clear BK101
                          clear BK122
                          clear BK129
                          clear BK140
                          clear BK147
                          clear BK154
                          clear BK161
                          clear HB
                          have BK101 := n0_
                          have BK122 := n1_
                          have BK129 := n2_
                          have BK140 := n3_
                          have BK147 := n4_
                          have BK154 := n5_
                          have BK161 := n6_
                          have HB := n7_
                          clear n0_ n1_ n2_ n3_ n4_ n5_ n6_ n7_
                          refine start_ (n := 64) (S := fun w' => w'.cell? ⟨gb101, 0, none⟩ = some (.int .i64 t103) ∧ w'.cell? ⟨gb101, 1, none⟩ = some (.string t104) ∧ w'.cell? ⟨gb101, 2, none⟩ = some (.string t105) ∧ w'.cell? ⟨gb101, 3, none⟩ = some (.int .i64 t106) ∧ w'.cell? ⟨gb101, 4, none⟩ = some (.int .i64 t107) ∧ w'.cell? ⟨gb122, 0, none⟩ = some (.int .i64 t116) ∧ w'.cell? ⟨gb122, 1, none⟩ = some (.string t117) ∧ w'.cell? ⟨gb122, 2, none⟩ = some (.string t118) ∧ w'.cell? ⟨gb122, 3, none⟩ = some (.int .i64 t119) ∧ w'.cell? ⟨gb122, 4, none⟩ = some (.int .i64 t120) ∧ w'.cell? ⟨gb129, 0, none⟩ = some (.int .i64 t123) ∧ w'.cell? ⟨gb129, 1, none⟩ = some (.string t124) ∧ w'.cell? ⟨gb129, 2, none⟩ = some (.string t125) ∧ w'.cell? ⟨gb129, 3, none⟩ = some (.int .i64 t126) ∧ w'.cell? ⟨gb129, 4, none⟩ = some (.int .i64 t127) ∧ w'.cell? ⟨gb140, 0, none⟩ = some (.int .i64 t134) ∧ w'.cell? ⟨gb140, 1, none⟩ = some (.string t135) ∧ w'.cell? ⟨gb140, 2, none⟩ = some (.string t136) ∧ w'.cell? ⟨gb140, 3, none⟩ = some (.int .i64 t137) ∧ w'.cell? ⟨gb140, 4, none⟩ = some (.int .i64 t138) ∧ w'.cell? ⟨gb147, 0, none⟩ = some (.int .i64 t141) ∧ w'.cell? ⟨gb147, 1, none⟩ = some (.string t142) ∧ w'.cell? ⟨gb147, 2, none⟩ = some (.string t143) ∧ w'.cell? ⟨gb147, 3, none⟩ = some (.int .i64 t144) ∧ w'.cell? ⟨gb147, 4, none⟩ = some (.int .i64 t145) ∧ w'.cell? ⟨gb154, 0, none⟩ = some (.int .i64 t148) ∧ w'.cell? ⟨gb154, 1, none⟩ = some (.string t149) ∧ w'.cell? ⟨gb154, 2, none⟩ = some (.string t150) ∧ w'.cell? ⟨gb154, 3, none⟩ = some (.int .i64 t151) ∧ w'.cell? ⟨gb154, 4, none⟩ = some (.int .i64 t152) ∧ w'.cell? ⟨gb161, 0, none⟩ = some (.int .i64 t155) ∧ w'.cell? ⟨gb161, 1, none⟩ = some (.string t156) ∧ w'.cell? ⟨gb161, 2, none⟩ = some (.string t157) ∧ w'.cell? ⟨gb161, 3, none⟩ = some (.int .i64 t158) ∧ w'.cell? ⟨gb161, 4, none⟩ = some (.int .i64 t159)) (ds := []) #[false, false, false, false, false, false, false, false, false, false, false, false, false, false, false, false, false, false, false, false, false, false, false, false, false, false, false, false, false, false, false, false, false, false, false, false, false, false, false, false, false, false, false, false, false, false, false, false, false, false, false, false, false, false, false, false, false, false, false, false, false, false, false, false] (by kernel_rfl) rfl rfl ⟨(blk_cell BK101.out 0).trans rfl, (blk_cell BK101.out 1).trans rfl, (blk_cell BK101.out 2).trans rfl, (blk_cell BK101.out 3).trans rfl, (blk_cell BK101.out 4).trans rfl, (blk_cell BK122.out 0).trans rfl, (blk_cell BK122.out 1).trans rfl, (blk_cell BK122.out 2).trans rfl, (blk_cell BK122.out 3).trans rfl, (blk_cell BK122.out 4).trans rfl, (blk_cell BK129.out 0).trans rfl, (blk_cell BK129.out 1).trans rfl, (blk_cell BK129.out 2).trans rfl, (blk_cell BK129.out 3).trans rfl, (blk_cell BK129.out 4).trans rfl, (blk_cell BK140.out 0).trans rfl, (blk_cell BK140.out 1).trans rfl, (blk_cell BK140.out 2).trans rfl, (blk_cell BK140.out 3).trans rfl, (blk_cell BK140.out 4).trans rfl, (blk_cell BK147.out 0).trans rfl, (blk_cell BK147.out 1).trans rfl, (blk_cell BK147.out 2).trans rfl, (blk_cell BK147.out 3).trans rfl, (blk_cell BK147.out 4).trans rfl, (blk_cell BK154.out 0).trans rfl, (blk_cell BK154.out 1).trans rfl, (blk_cell BK154.out 2).trans rfl, (blk_cell BK154.out 3).trans rfl, (blk_cell BK154.out 4).trans rfl, (blk_cell BK161.out 0).trans rfl, (blk_cell BK161.out 1).trans rfl, (blk_cell BK161.out 2).trans rfl, (blk_cell BK161.out 3).trans rfl, (blk_cell BK161.out 4).trans rfl⟩ (fun hHeld => ?_); refine with_tabW postriderlaw06_EidTexts.tab15 postriderlaw06_EidTexts.bits15 (fun HT_ HW_ => ?_)
                          generalize w88.drew = w89 at BK101 BK122 BK129 BK140 BK147 BK154 BK161 HB hHeld ⊢
                          refine pure_ (i := 0) (N := some 91) (v := ?_) (a' := ?_) #[true, false, false, false, false, false, false, false, false, false, false, false, false, false, false, false, false, false, false, false, false, false, false, false, false, false, false, false, false, false, false, false, false, false, false, false, false, false, false, false, false, false, false, false, false, false, false, false, false, false, false, false, false, false, false, false, false, false, false, false, false, false, false, false] rfl rfl (any_of HT_.out (by kernel_rfl)) (fun _ _ _ h => h) (Or.inl ⟨by rfl, ?_⟩) ?_ ?_
                          rotate_left
                          · intro w'
                            go_simp
                            with_reducible rfl
                          rotate_left
                          · simp only [Act.put, List.setIfInBounds_toArray, List.set_cons_zero, List.set_cons_succ, i64_w, i32_w]
                            rfl
                          refine pure_ (i := 1) (N := some 92) (v := ?_) (a' := ?_) #[true, true, false, false, false, false, false, false, false, false, false, false, false, false, false, false, false, false, false, false, false, false, false, false, false, false, false, false, false, false, false, false, false, false, false, false, false, false, false, false, false, false, false, false, false, false, false, false, false, false, false, false, false, false, false, false, false, false, false, false, false, false, false, false] rfl rfl (any_of HT_.out (by kernel_rfl)) (fun _ _ _ h => h) (Or.inl ⟨by rfl, ?_⟩) ?_ ?_
                          rotate_left
                          · intro w'
                            go_simp
                            with_reducible rfl
                          rotate_left
                          · simp only [Act.put, List.setIfInBounds_toArray, List.set_cons_zero, List.set_cons_succ, i64_w, i32_w]
                            rfl
                          refine take_ (i := 2) (N := some 93) (v := ?_) (a' := ?_) #[true, true, true, false, false, false, false, false, false, false, false, false, false, false, false, false, false, false, false, false, false, false, false, false, false, false, false, false, false, false, false, false, false, false, false, false, false, false, false, false, false, false, false, false, false, false, false, false, false, false, false, false, false, false, false, false, false, false, false, false, false, false, false, false] rfl rfl (take_ofW HT_.out HW_.out (by kernel_rfl)) (fun _ _ _ h => h) (Or.inl ⟨by rfl, ?_⟩) hHeld ?_ ?_
                          rotate_left
                          · rintro w' ⟨s0, s1, s2, s3, s4, s5, s6, s7, s8, s9, s10, s11, s12, s13, s14, s15, s16, s17, s18, s19, s20, s21, s22, s23, s24, s25, s26, s27, s28, s29, s30, s31, s32, s33, s34⟩
                            go_simp
                            with_reducible rfl
                          rotate_left
                          · simp only [Act.put, List.setIfInBounds_toArray, List.set_cons_zero, List.set_cons_succ, i64_w, i32_w]
                            rfl
                          refine take_ (i := 4) (N := some 95) (v := ?_) (a' := ?_) #[true, true, true, false, true, false, false, false, false, false, false, false, false, false, false, false, false, false, false, false, false, false, false, false, false, false, false, false, false, false, false, false, false, false, false, false, false, false, false, false, false, false, false, false, false, false, false, false, false, false, false, false, false, false, false, false, false, false, false, false, false, false, false, false] rfl rfl (take_ofW HT_.out HW_.out (by kernel_rfl)) (fun _ _ _ h => h) (Or.inl ⟨by rfl, ?_⟩) hHeld ?_ ?_
                          rotate_left
                          · rintro w' ⟨s0, s1, s2, s3, s4, s5, s6, s7, s8, s9, s10, s11, s12, s13, s14, s15, s16, s17, s18, s19, s20, s21, s22, s23, s24, s25, s26, s27, s28, s29, s30, s31, s32, s33, s34⟩
                            go_simp
                            with_reducible rfl
                          rotate_left
                          · simp only [Act.put, List.setIfInBounds_toArray, List.set_cons_zero, List.set_cons_succ, i64_w, i32_w]
                            rfl
                          refine one_ (i := 3) (N := some 94) #[true, true, true, true, true, false, false, false, false, false, false, false, false, false, false, false, false, false, false, false, false, false, false, false, false, false, false, false, false, false, false, false, false, false, false, false, false, false, false, false, false, false, false, false, false, false, false, false, false, false, false, false, false, false, false, false, false, false, false, false, false, false, false, false] rfl rfl (one_of HT_.out (by kernel_rfl)) (by decide) (fun K hK => ?_)
                          refine goes_ Tryd.func21 (by kernel_rfl) rfl #[.agg #[.int .i64 t103, .string t104, .string t105, .int .i64 t106, .int .i64 t107]] (by rfl) rfl rfl (by (try simp only [List.map_toArray, List.map_cons, List.map_nil]); first | done | rfl | (simp only [List.length_drop, List.length_take]; rfl)) ?_
                          with_reducible refine (eid_Right.calls t103 t104 t105 t106 t107 t162 _ A19.out).mono ?_
                          rintro e w90 ⟨rfl, hb⟩
                          refine ⟨_, rfl, ?_⟩
                          have n0_ := Aside0.mk (blk_below (g := gb101) (o := .cells #[.int .i64 t103, .string t104, .string t105, .int .i64 t106, .int .i64 t107] 23 (0, 0)) (by (with_reducible repeat (first | refine blk_drewN ?_ _ | refine blk_drew ?_ | refine blk_alloc ?_ _)); exact BK101.out) hb)
                          have n1_ := Aside0.mk (blk_below (g := gb122) (o := .cells #[.int .i64 t116, .string t117, .string t118, .int .i64 t119, .int .i64 t120] 23 (0, 0)) (by (with_reducible repeat (first | refine blk_drewN ?_ _ | refine blk_drew ?_ | refine blk_alloc ?_ _)); exact BK122.out) hb)
                          have n2_ := Aside0.mk (blk_below (g := gb129) (o := .cells #[.int .i64 t123, .string t124, .string t125, .int .i64 t126, .int .i64 t127] 23 (0, 0)) (by (with_reducible repeat (first | refine blk_drewN ?_ _ | refine blk_drew ?_ | refine blk_alloc ?_ _)); exact BK129.out) hb)
                          have n3_ := Aside0.mk (blk_below (g := gb140) (o := .cells #[.int .i64 t134, .string t135, .string t136, .int .i64 t137, .int .i64 t138] 23 (0, 0)) (by (with_reducible repeat (first | refine blk_drewN ?_ _ | refine blk_drew ?_ | refine blk_alloc ?_ _)); exact BK140.out) hb)
                          have n4_ := Aside0.mk (blk_below (g := gb147) (o := .cells #[.int .i64 t141, .string t142, .string t143, .int .i64 t144, .int .i64 t145] 23 (0, 0)) (by (with_reducible repeat (first | refine blk_drewN ?_ _ | refine blk_drew ?_ | refine blk_alloc ?_ _)); exact BK147.out) hb)
                          have n5_ := Aside0.mk (blk_below (g := gb154) (o := .cells #[.int .i64 t148, .string t149, .string t150, .int .i64 t151, .int .i64 t152] 23 (0, 0)) (by (with_reducible repeat (first | refine blk_drewN ?_ _ | refine blk_drew ?_ | refine blk_alloc ?_ _)); exact BK154.out) hb)
                          have n6_ := Aside0.mk (blk_below (g := gb161) (o := .cells #[.int .i64 t155, .string t156, .string t157, .int .i64 t158, .int .i64 t159] 23 (0, 0)) (by (with_reducible repeat (first | refine blk_drewN ?_ _ | refine blk_drew ?_ | refine blk_alloc ?_ _)); exact BK161.out) hb)
                          have n7_ := Aside0.mk (below_step (by repeat (first | (with_reducible first | exact HB.out | apply below_alloc | apply pw_below_drewN | apply below_drew1 | refine below_set ?_ GE101.out | refine below_set ?_ GE122.out | refine below_set ?_ GE129.out | refine below_set ?_ GE140.out | refine below_set ?_ GE147.out | refine below_set ?_ GE154.out | refine below_set ?_ GE161.out) | exact HB.out)) hb)
                          clear BK101
                          clear BK122
                          clear BK129
                          clear BK140
                          clear BK147
                          clear BK154
                          clear BK161
                          clear HB
                          have BK101 := n0_
                          have BK122 := n1_
                          have BK129 := n2_
                          have BK140 := n3_
                          have BK147 := n4_
                          have BK154 := n5_
                          have BK161 := n6_
                          have HB := n7_
                          clear n0_ n1_ n2_ n3_ n4_ n5_ n6_ n7_
                          (try clear hb)
                          (try clear hb2)
                          (try clear hk)
                          (try clear hi)
                          refine hK.out _ _ ⟨(blk_cell BK101.out 0).trans rfl, (blk_cell BK101.out 1).trans rfl, (blk_cell BK101.out 2).trans rfl, (blk_cell BK101.out 3).trans rfl, (blk_cell BK101.out 4).trans rfl, (blk_cell BK122.out 0).trans rfl, (blk_cell BK122.out 1).trans rfl, (blk_cell BK122.out 2).trans rfl, (blk_cell BK122.out 3).trans rfl, (blk_cell BK122.out 4).trans rfl, (blk_cell BK129.out 0).trans rfl, (blk_cell BK129.out 1).trans rfl, (blk_cell BK129.out 2).trans rfl, (blk_cell BK129.out 3).trans rfl, (blk_cell BK129.out 4).trans rfl, (blk_cell BK140.out 0).trans rfl, (blk_cell BK140.out 1).trans rfl, (blk_cell BK140.out 2).trans rfl, (blk_cell BK140.out 3).trans rfl, (blk_cell BK140.out 4).trans rfl, (blk_cell BK147.out 0).trans rfl, (blk_cell BK147.out 1).trans rfl, (blk_cell BK147.out 2).trans rfl, (blk_cell BK147.out 3).trans rfl, (blk_cell BK147.out 4).trans rfl, (blk_cell BK154.out 0).trans rfl, (blk_cell BK154.out 1).trans rfl, (blk_cell BK154.out 2).trans rfl, (blk_cell BK154.out 3).trans rfl, (blk_cell BK154.out 4).trans rfl, (blk_cell BK161.out 0).trans rfl, (blk_cell BK161.out 1).trans rfl, (blk_cell BK161.out 2).trans rfl, (blk_cell BK161.out 3).trans rfl, (blk_cell BK161.out 4).trans rfl⟩ (fun hHeld => ?_)
                          clear hK K
                          refine norm_ (a' := ?_) ?_ ?_
                          rotate_left
                          · show Act.put _ (some 94) _ = _
                            simp only [Act.put, List.setIfInBounds_toArray, List.set_cons_zero, List.set_cons_succ, i64_w, i32_w]
                            rfl
                          refine one_ (i := 5) (N := some 96) #[true, true, true, true, true, true, false, false, false, false, false, false, false, false, false, false, false, false, false, false, false, false, false, false, false, false, false, false, false, false, false, false, false, false, false, false, false, false, false, false, false, false, false, false, false, false, false, false, false, false, false, false, false, false, false, false, false, false, false, false, false, false, false, false] rfl rfl (one_of HT_.out (by kernel_rfl)) (by decide) (fun K hK => ?_)
                          refine goes_ Tryd.func22 (by kernel_rfl) rfl #[.agg #[.int .i64 t103, .string t104, .string t105, .int .i64 t106, .int .i64 t107]] (by rfl) rfl rfl (by (try simp only [List.map_toArray, List.map_cons, List.map_nil]); first | done | rfl | (simp only [List.length_drop, List.length_take]; rfl)) ?_
                          with_reducible refine (postriderref06_Right.calls k t103 t104 t105 t106 t107 t163 _ A20.out).mono ?_
                          rintro e w91 ⟨rfl, hb⟩
                          refine ⟨_, rfl, ?_⟩
                          have n0_ := Aside0.mk (blk_below (g := gb101) (o := .cells #[.int .i64 t103, .string t104, .string t105, .int .i64 t106, .int .i64 t107] 23 (0, 0)) (by (with_reducible repeat (first | refine blk_drewN ?_ _ | refine blk_drew ?_ | refine blk_alloc ?_ _)); exact BK101.out) hb)
                          have n1_ := Aside0.mk (blk_below (g := gb122) (o := .cells #[.int .i64 t116, .string t117, .string t118, .int .i64 t119, .int .i64 t120] 23 (0, 0)) (by (with_reducible repeat (first | refine blk_drewN ?_ _ | refine blk_drew ?_ | refine blk_alloc ?_ _)); exact BK122.out) hb)
                          have n2_ := Aside0.mk (blk_below (g := gb129) (o := .cells #[.int .i64 t123, .string t124, .string t125, .int .i64 t126, .int .i64 t127] 23 (0, 0)) (by (with_reducible repeat (first | refine blk_drewN ?_ _ | refine blk_drew ?_ | refine blk_alloc ?_ _)); exact BK129.out) hb)
                          have n3_ := Aside0.mk (blk_below (g := gb140) (o := .cells #[.int .i64 t134, .string t135, .string t136, .int .i64 t137, .int .i64 t138] 23 (0, 0)) (by (with_reducible repeat (first | refine blk_drewN ?_ _ | refine blk_drew ?_ | refine blk_alloc ?_ _)); exact BK140.out) hb)
                          have n4_ := Aside0.mk (blk_below (g := gb147) (o := .cells #[.int .i64 t141, .string t142, .string t143, .int .i64 t144, .int .i64 t145] 23 (0, 0)) (by (with_reducible repeat (first | refine blk_drewN ?_ _ | refine blk_drew ?_ | refine blk_alloc ?_ _)); exact BK147.out) hb)
                          have n5_ := Aside0.mk (blk_below (g := gb154) (o := .cells #[.int .i64 t148, .string t149, .string t150, .int .i64 t151, .int .i64 t152] 23 (0, 0)) (by (with_reducible repeat (first | refine blk_drewN ?_ _ | refine blk_drew ?_ | refine blk_alloc ?_ _)); exact BK154.out) hb)
                          have n6_ := Aside0.mk (blk_below (g := gb161) (o := .cells #[.int .i64 t155, .string t156, .string t157, .int .i64 t158, .int .i64 t159] 23 (0, 0)) (by (with_reducible repeat (first | refine blk_drewN ?_ _ | refine blk_drew ?_ | refine blk_alloc ?_ _)); exact BK161.out) hb)
                          have n7_ := Aside0.mk (below_step (by repeat (first | (with_reducible first | exact HB.out | apply below_alloc | apply pw_below_drewN | apply below_drew1 | refine below_set ?_ GE101.out | refine below_set ?_ GE122.out | refine below_set ?_ GE129.out | refine below_set ?_ GE140.out | refine below_set ?_ GE147.out | refine below_set ?_ GE154.out | refine below_set ?_ GE161.out) | exact HB.out)) hb)
                          clear BK101
                          clear BK122
                          clear BK129
                          clear BK140
                          clear BK147
                          clear BK154
                          clear BK161
                          clear HB
                          have BK101 := n0_
                          have BK122 := n1_
                          have BK129 := n2_
                          have BK140 := n3_
                          have BK147 := n4_
                          have BK154 := n5_
                          have BK161 := n6_
                          have HB := n7_
                          clear n0_ n1_ n2_ n3_ n4_ n5_ n6_ n7_
                          (try clear hb)
                          (try clear hb2)
                          (try clear hk)
                          (try clear hi)
                          refine hK.out _ _ ⟨(blk_cell BK101.out 0).trans rfl, (blk_cell BK101.out 1).trans rfl, (blk_cell BK101.out 2).trans rfl, (blk_cell BK101.out 3).trans rfl, (blk_cell BK101.out 4).trans rfl, (blk_cell BK122.out 0).trans rfl, (blk_cell BK122.out 1).trans rfl, (blk_cell BK122.out 2).trans rfl, (blk_cell BK122.out 3).trans rfl, (blk_cell BK122.out 4).trans rfl, (blk_cell BK129.out 0).trans rfl, (blk_cell BK129.out 1).trans rfl, (blk_cell BK129.out 2).trans rfl, (blk_cell BK129.out 3).trans rfl, (blk_cell BK129.out 4).trans rfl, (blk_cell BK140.out 0).trans rfl, (blk_cell BK140.out 1).trans rfl, (blk_cell BK140.out 2).trans rfl, (blk_cell BK140.out 3).trans rfl, (blk_cell BK140.out 4).trans rfl, (blk_cell BK147.out 0).trans rfl, (blk_cell BK147.out 1).trans rfl, (blk_cell BK147.out 2).trans rfl, (blk_cell BK147.out 3).trans rfl, (blk_cell BK147.out 4).trans rfl, (blk_cell BK154.out 0).trans rfl, (blk_cell BK154.out 1).trans rfl, (blk_cell BK154.out 2).trans rfl, (blk_cell BK154.out 3).trans rfl, (blk_cell BK154.out 4).trans rfl, (blk_cell BK161.out 0).trans rfl, (blk_cell BK161.out 1).trans rfl, (blk_cell BK161.out 2).trans rfl, (blk_cell BK161.out 3).trans rfl, (blk_cell BK161.out 4).trans rfl⟩ (fun hHeld => ?_)
                          clear hK K
                          refine norm_ (a' := ?_) ?_ ?_
                          rotate_left
                          · show Act.put _ (some 96) _ = _
                            simp only [Act.put, List.setIfInBounds_toArray, List.set_cons_zero, List.set_cons_succ, i64_w, i32_w]
                            rfl
                          refine pure_ (i := 6) (N := some 97) (v := ?_) (a' := ?_) #[true, true, true, true, true, true, true, false, false, false, false, false, false, false, false, false, false, false, false, false, false, false, false, false, false, false, false, false, false, false, false, false, false, false, false, false, false, false, false, false, false, false, false, false, false, false, false, false, false, false, false, false, false, false, false, false, false, false, false, false, false, false, false, false] rfl rfl (any_of HT_.out (by kernel_rfl)) (fun _ _ _ h => h) (Or.inl ⟨by rfl, ?_⟩) ?_ ?_
                          rotate_left
                          · intro w'
                            go_simp
                            with_reducible rfl
                          rotate_left
                          · simp only [Act.put, List.setIfInBounds_toArray, List.set_cons_zero, List.set_cons_succ, i64_w, i32_w]
                            rfl
                          refine pure_ (i := 7) (N := some 98) (v := ?_) (a' := ?_) #[true, true, true, true, true, true, true, true, false, false, false, false, false, false, false, false, false, false, false, false, false, false, false, false, false, false, false, false, false, false, false, false, false, false, false, false, false, false, false, false, false, false, false, false, false, false, false, false, false, false, false, false, false, false, false, false, false, false, false, false, false, false, false, false] rfl rfl (any_of HT_.out (by kernel_rfl)) (fun _ _ _ h => h) (Or.inl ⟨by rfl, ?_⟩) ?_ ?_
                          rotate_left
                          · intro w'
                            go_simp
                            with_reducible rfl
                          rotate_left
                          · simp only [Act.put, List.setIfInBounds_toArray, List.set_cons_zero, List.set_cons_succ, i64_w, i32_w]
                            rfl
                          refine pure_ (i := 8) (N := some 99) (v := ?_) (a' := ?_) #[true, true, true, true, true, true, true, true, true, false, false, false, false, false, false, false, false, false, false, false, false, false, false, false, false, false, false, false, false, false, false, false, false, false, false, false, false, false, false, false, false, false, false, false, false, false, false, false, false, false, false, false, false, false, false, false, false, false, false, false, false, false, false, false] rfl rfl (any_of HT_.out (by kernel_rfl)) (fun _ _ _ h => h) (Or.inl ⟨by rfl, ?_⟩) ?_ ?_
                          rotate_left
                          · intro w'
                            go_simp
                            with_reducible rfl
                          rotate_left
                          · simp only [Act.put, List.setIfInBounds_toArray, List.set_cons_zero, List.set_cons_succ, i64_w, i32_w]
                            rfl
                          refine pure_ (i := 9) (N := some 100) (v := ?_) (a' := ?_) #[true, true, true, true, true, true, true, true, true, true, false, false, false, false, false, false, false, false, false, false, false, false, false, false, false, false, false, false, false, false, false, false, false, false, false, false, false, false, false, false, false, false, false, false, false, false, false, false, false, false, false, false, false, false, false, false, false, false, false, false, false, false, false, false] rfl rfl (any_of HT_.out (by kernel_rfl)) (fun _ _ _ h => h) (Or.inl ⟨by rfl, ?_⟩) ?_ ?_
                          rotate_left
                          · intro w'
                            go_simp
                            with_reducible rfl
                          rotate_left
                          · simp only [Act.put, List.setIfInBounds_toArray, List.set_cons_zero, List.set_cons_succ, i64_w, i32_w]
                            rfl
                          refine pure_ (i := 10) (N := some 101) (v := ?_) (a' := ?_) #[true, true, true, true, true, true, true, true, true, true, true, false, false, false, false, false, false, false, false, false, false, false, false, false, false, false, false, false, false, false, false, false, false, false, false, false, false, false, false, false, false, false, false, false, false, false, false, false, false, false, false, false, false, false, false, false, false, false, false, false, false, false, false, false] rfl rfl (any_of HT_.out (by kernel_rfl)) (fun _ _ _ h => h) (Or.inl ⟨by rfl, ?_⟩) ?_ ?_
                          rotate_left
                          · intro w'
                            go_simp
                            with_reducible rfl
                          rotate_left
                          · simp only [Act.put, List.setIfInBounds_toArray, List.set_cons_zero, List.set_cons_succ, i64_w, i32_w]
                            rfl
                          refine pure_ (i := 11) (N := some 102) (v := ?_) (a' := ?_) #[true, true, true, true, true, true, true, true, true, true, true, true, false, false, false, false, false, false, false, false, false, false, false, false, false, false, false, false, false, false, false, false, false, false, false, false, false, false, false, false, false, false, false, false, false, false, false, false, false, false, false, false, false, false, false, false, false, false, false, false, false, false, false, false] rfl rfl (any_of HT_.out (by kernel_rfl)) (fun _ _ _ h => h) (Or.inl ⟨by rfl, ?_⟩) ?_ ?_
                          rotate_left
                          · intro w'
                            go_simp
                            with_reducible rfl
                          rotate_left
                          · simp only [Act.put, List.setIfInBounds_toArray, List.set_cons_zero, List.set_cons_succ, i64_w, i32_w]
                            rfl
                          refine pure_ (i := 12) (N := some 103) (v := ?_) (a' := ?_) #[true, true, true, true, true, true, true, true, true, true, true, true, true, false, false, false, false, false, false, false, false, false, false, false, false, false, false, false, false, false, false, false, false, false, false, false, false, false, false, false, false, false, false, false, false, false, false, false, false, false, false, false, false, false, false, false, false, false, false, false, false, false, false, false] rfl rfl (any_of HT_.out (by kernel_rfl)) (fun _ _ _ h => h) (Or.inl ⟨by rfl, ?_⟩) ?_ ?_
                          rotate_left
                          · intro w'
                            go_simp
                            with_reducible rfl
                          rotate_left
                          · simp only [Act.put, List.setIfInBounds_toArray, List.set_cons_zero, List.set_cons_succ, i64_w, i32_w]
                            rfl
                          refine pure_ (i := 13) (N := some 104) (v := ?_) (a' := ?_) #[true, true, true, true, true, true, true, true, true, true, true, true, true, true, false, false, false, false, false, false, false, false, false, false, false, false, false, false, false, false, false, false, false, false, false, false, false, false, false, false, false, false, false, false, false, false, false, false, false, false, false, false, false, false, false, false, false, false, false, false, false, false, false, false] rfl rfl (any_of HT_.out (by kernel_rfl)) (fun _ _ _ h => h) (Or.inl ⟨by rfl, ?_⟩) ?_ ?_
                          rotate_left
                          · intro w'
                            go_simp
                            with_reducible rfl
                          rotate_left
                          · simp only [Act.put, List.setIfInBounds_toArray, List.set_cons_zero, List.set_cons_succ, i64_w, i32_w]
                            rfl
                          refine pure_ (i := 14) (N := some 105) (v := ?_) (a' := ?_) #[true, true, true, true, true, true, true, true, true, true, true, true, true, true, true, false, false, false, false, false, false, false, false, false, false, false, false, false, false, false, false, false, false, false, false, false, false, false, false, false, false, false, false, false, false, false, false, false, false, false, false, false, false, false, false, false, false, false, false, false, false, false, false, false] rfl rfl (any_of HT_.out (by kernel_rfl)) (fun _ _ _ h => h) (Or.inl ⟨by rfl, ?_⟩) ?_ ?_
                          rotate_left
                          · intro w'
                            go_simp
                            with_reducible rfl
                          rotate_left
                          · simp only [Act.put, List.setIfInBounds_toArray, List.set_cons_zero, List.set_cons_succ, i64_w, i32_w]
                            rfl
                          refine pure_ (i := 15) (N := some 106) (v := ?_) (a' := ?_) #[true, true, true, true, true, true, true, true, true, true, true, true, true, true, true, true, false, false, false, false, false, false, false, false, false, false, false, false, false, false, false, false, false, false, false, false, false, false, false, false, false, false, false, false, false, false, false, false, false, false, false, false, false, false, false, false, false, false, false, false, false, false, false, false] rfl rfl (any_of HT_.out (by kernel_rfl)) (fun _ _ _ h => h) (Or.inl ⟨by rfl, ?_⟩) ?_ ?_
                          rotate_left
                          · intro w'
                            go_simp
                            with_reducible rfl
                          rotate_left
                          · simp only [Act.put, List.setIfInBounds_toArray, List.set_cons_zero, List.set_cons_succ, i64_w, i32_w]
                            rfl
                          refine pure_ (i := 16) (N := some 107) (v := ?_) (a' := ?_) #[true, true, true, true, true, true, true, true, true, true, true, true, true, true, true, true, true, false, false, false, false, false, false, false, false, false, false, false, false, false, false, false, false, false, false, false, false, false, false, false, false, false, false, false, false, false, false, false, false, false, false, false, false, false, false, false, false, false, false, false, false, false, false, false] rfl rfl (any_of HT_.out (by kernel_rfl)) (fun _ _ _ h => h) (Or.inl ⟨by rfl, ?_⟩) ?_ ?_
                          rotate_left
                          · intro w'
                            go_simp
                            with_reducible rfl
                          rotate_left
                          · simp only [Act.put, List.setIfInBounds_toArray, List.set_cons_zero, List.set_cons_succ, i64_w, i32_w]
                            rfl
                          refine pure_ (i := 17) (N := some 108) (v := ?_) (a' := ?_) #[true, true, true, true, true, true, true, true, true, true, true, true, true, true, true, true, true, true, false, false, false, false, false, false, false, false, false, false, false, false, false, false, false, false, false, false, false, false, false, false, false, false, false, false, false, false, false, false, false, false, false, false, false, false, false, false, false, false, false, false, false, false, false, false] rfl rfl (any_of HT_.out (by kernel_rfl)) (fun _ _ _ h => h) (Or.inl ⟨by rfl, ?_⟩) ?_ ?_
                          rotate_left
                          · intro w'
                            go_simp
                            with_reducible rfl
                          rotate_left
                          · simp only [Act.put, List.setIfInBounds_toArray, List.set_cons_zero, List.set_cons_succ, i64_w, i32_w]
                            rfl
                          refine pure_ (i := 18) (N := some 109) (v := ?_) (a' := ?_) #[true, true, true, true, true, true, true, true, true, true, true, true, true, true, true, true, true, true, true, false, false, false, false, false, false, false, false, false, false, false, false, false, false, false, false, false, false, false, false, false, false, false, false, false, false, false, false, false, false, false, false, false, false, false, false, false, false, false, false, false, false, false, false, false] rfl rfl (any_of HT_.out (by kernel_rfl)) (fun _ _ _ h => h) (Or.inl ⟨by rfl, ?_⟩) ?_ ?_
                          rotate_left
                          · intro w'
                            go_simp
                            with_reducible rfl
                          rotate_left
                          · simp only [Act.put, List.setIfInBounds_toArray, List.set_cons_zero, List.set_cons_succ, i64_w, i32_w]
                            rfl
                          refine pure_ (i := 19) (N := some 110) (v := ?_) (a' := ?_) #[true, true, true, true, true, true, true, true, true, true, true, true, true, true, true, true, true, true, true, true, false, false, false, false, false, false, false, false, false, false, false, false, false, false, false, false, false, false, false, false, false, false, false, false, false, false, false, false, false, false, false, false, false, false, false, false, false, false, false, false, false, false, false, false] rfl rfl (any_of HT_.out (by kernel_rfl)) (fun _ _ _ h => h) (Or.inl ⟨by rfl, ?_⟩) ?_ ?_
                          rotate_left
                          · intro w'
                            go_simp
                            with_reducible rfl
                          rotate_left
                          · simp only [Act.put, List.setIfInBounds_toArray, List.set_cons_zero, List.set_cons_succ, i64_w, i32_w]
                            rfl
                          refine pure_ (i := 20) (N := some 111) (v := ?_) (a' := ?_) #[true, true, true, true, true, true, true, true, true, true, true, true, true, true, true, true, true, true, true, true, true, false, false, false, false, false, false, false, false, false, false, false, false, false, false, false, false, false, false, false, false, false, false, false, false, false, false, false, false, false, false, false, false, false, false, false, false, false, false, false, false, false, false, false] rfl rfl (any_of HT_.out (by kernel_rfl)) (fun _ _ _ h => h) (Or.inl ⟨by rfl, ?_⟩) ?_ ?_
                          rotate_left
                          · intro w'
                            go_simp
                            with_reducible rfl
                          rotate_left
                          · simp only [Act.put, List.setIfInBounds_toArray, List.set_cons_zero, List.set_cons_succ, i64_w, i32_w]
                            rfl
                          refine pure_ (i := 21) (N := some 112) (v := ?_) (a' := ?_) #[true, true, true, true, true, true, true, true, true, true, true, true, true, true, true, true, true, true, true, true, true, true, false, false, false, false, false, false, false, false, false, false, false, false, false, false, false, false, false, false, false, false, false, false, false, false, false, false, false, false, false, false, false, false, false, false, false, false, false, false, false, false, false, false] rfl rfl (any_of HT_.out (by kernel_rfl)) (fun _ _ _ h => h) (Or.inl ⟨by rfl, ?_⟩) ?_ ?_
                          rotate_left
                          · intro w'
                            go_simp
                            with_reducible rfl
                          rotate_left
                          · simp only [Act.put, List.setIfInBounds_toArray, List.set_cons_zero, List.set_cons_succ, i64_w, i32_w]
                            rfl
                          refine pure_ (i := 22) (N := some 113) (v := ?_) (a' := ?_) #[true, true, true, true, true, true, true, true, true, true, true, true, true, true, true, true, true, true, true, true, true, true, true, false, false, false, false, false, false, false, false, false, false, false, false, false, false, false, false, false, false, false, false, false, false, false, false, false, false, false, false, false, false, false, false, false, false, false, false, false, false, false, false, false] rfl rfl (any_of HT_.out (by kernel_rfl)) (fun _ _ _ h => h) (Or.inl ⟨by rfl, ?_⟩) ?_ ?_
                          rotate_left
                          · intro w'
                            go_simp
                            with_reducible rfl
                          rotate_left
                          · simp only [Act.put, List.setIfInBounds_toArray, List.set_cons_zero, List.set_cons_succ, i64_w, i32_w]
                            rfl
                          refine pure_ (i := 23) (N := some 114) (v := ?_) (a' := ?_) #[true, true, true, true, true, true, true, true, true, true, true, true, true, true, true, true, true, true, true, true, true, true, true, true, false, false, false, false, false, false, false, false, false, false, false, false, false, false, false, false, false, false, false, false, false, false, false, false, false, false, false, false, false, false, false, false, false, false, false, false, false, false, false, false] rfl rfl (any_of HT_.out (by kernel_rfl)) (fun _ _ _ h => h) (Or.inl ⟨by rfl, ?_⟩) ?_ ?_
                          rotate_left
                          · intro w'
                            go_simp
                            with_reducible rfl
                          rotate_left
                          · simp only [Act.put, List.setIfInBounds_toArray, List.set_cons_zero, List.set_cons_succ, i64_w, i32_w]
                            rfl
                          refine take_ (i := 24) (N := some 115) (v := ?_) (a' := ?_) #[true, true, true, true, true, true, true, true, true, true, true, true, true, true, true, true, true, true, true, true, true, true, true, true, true, false, false, false, false, false, false, false, false, false, false, false, false, false, false, false, false, false, false, false, false, false, false, false, false, false, false, false, false, false, false, false, false, false, false, false, false, false, false, false] rfl rfl (take_ofW HT_.out HW_.out (by kernel_rfl)) (fun _ _ _ h => h) (Or.inl ⟨by rfl, ?_⟩) hHeld ?_ ?_
                          rotate_left
                          · rintro w' ⟨s0, s1, s2, s3, s4, s5, s6, s7, s8, s9, s10, s11, s12, s13, s14, s15, s16, s17, s18, s19, s20, s21, s22, s23, s24, s25, s26, s27, s28, s29, s30, s31, s32, s33, s34⟩
                            go_simp
                            with_reducible rfl
                          rotate_left
                          · simp only [Act.put, List.setIfInBounds_toArray, List.set_cons_zero, List.set_cons_succ, i64_w, i32_w]
                            rfl
                          refine take_ (i := 25) (N := some 116) (v := ?_) (a' := ?_) #[true, true, true, true, true, true, true, true, true, true, true, true, true, true, true, true, true, true, true, true, true, true, true, true, true, true, false, false, false, false, false, false, false, false, false, false, false, false, false, false, false, false, false, false, false, false, false, false, false, false, false, false, false, false, false, false, false, false, false, false, false, false, false, false] rfl rfl (take_ofW HT_.out HW_.out (by kernel_rfl)) (fun _ _ _ h => h) (Or.inl ⟨by rfl, ?_⟩) hHeld ?_ ?_
                          rotate_left
                          · rintro w' ⟨s0, s1, s2, s3, s4, s5, s6, s7, s8, s9, s10, s11, s12, s13, s14, s15, s16, s17, s18, s19, s20, s21, s22, s23, s24, s25, s26, s27, s28, s29, s30, s31, s32, s33, s34⟩
                            go_simp
                            with_reducible rfl
                          rotate_left
                          · simp only [Act.put, List.setIfInBounds_toArray, List.set_cons_zero, List.set_cons_succ, i64_w, i32_w]
                            rfl
                          refine pure_ (i := 26) (N := some 117) (v := ?_) (a' := ?_) #[true, true, true, true, true, true, true, true, true, true, true, true, true, true, true, true, true, true, true, true, true, true, true, true, true, true, true, false, false, false, false, false, false, false, false, false, false, false, false, false, false, false, false, false, false, false, false, false, false, false, false, false, false, false, false, false, false, false, false, false, false, false, false, false] rfl rfl (any_of HT_.out (by kernel_rfl)) (fun _ _ _ h => h) (Or.inl ⟨by rfl, ?_⟩) ?_ ?_
                          rotate_left
                          · intro w'
                            go_simp
                            with_reducible rfl
                          rotate_left
                          · simp only [Act.put, List.setIfInBounds_toArray, List.set_cons_zero, List.set_cons_succ, i64_w, i32_w]
                            rfl
                          refine pure_ (i := 27) (N := some 118) (v := ?_) (a' := ?_) #[true, true, true, true, true, true, true, true, true, true, true, true, true, true, true, true, true, true, true, true, true, true, true, true, true, true, true, true, false, false, false, false, false, false, false, false, false, false, false, false, false, false, false, false, false, false, false, false, false, false, false, false, false, false, false, false, false, false, false, false, false, false, false, false] rfl rfl (any_of HT_.out (by kernel_rfl)) (fun _ _ _ h => h) (Or.inl ⟨by rfl, ?_⟩) ?_ ?_
                          rotate_left
                          · intro w'
                            go_simp
                            with_reducible rfl
                          rotate_left
                          · simp only [Act.put, List.setIfInBounds_toArray, List.set_cons_zero, List.set_cons_succ, i64_w, i32_w]
                            rfl
                          refine pure_ (i := 28) (N := some 119) (v := ?_) (a' := ?_) #[true, true, true, true, true, true, true, true, true, true, true, true, true, true, true, true, true, true, true, true, true, true, true, true, true, true, true, true, true, false, false, false, false, false, false, false, false, false, false, false, false, false, false, false, false, false, false, false, false, false, false, false, false, false, false, false, false, false, false, false, false, false, false, false] rfl rfl (any_of HT_.out (by kernel_rfl)) (fun _ _ _ h => h) (Or.inl ⟨by rfl, ?_⟩) ?_ ?_
                          rotate_left
                          · intro w'
                            go_simp
                            with_reducible rfl
                          rotate_left
                          · simp only [Act.put, List.setIfInBounds_toArray, List.set_cons_zero, List.set_cons_succ, i64_w, i32_w]
                            rfl
                          refine pure_ (i := 29) (N := some 120) (v := ?_) (a' := ?_) #[true, true, true, true, true, true, true, true, true, true, true, true, true, true, true, true, true, true, true, true, true, true, true, true, true, true, true, true, true, true, false, false, false, false, false, false, false, false, false, false, false, false, false, false, false, false, false, false, false, false, false, false, false, false, false, false, false, false, false, false, false, false, false, false] rfl rfl (any_of HT_.out (by kernel_rfl)) (fun _ _ _ h => h) (Or.inl ⟨by rfl, ?_⟩) ?_ ?_
                          rotate_left
                          · intro w'
                            go_simp
                            with_reducible rfl
                          rotate_left
                          · simp only [Act.put, List.setIfInBounds_toArray, List.set_cons_zero, List.set_cons_succ, i64_w, i32_w]
                            rfl
                          refine pure_ (i := 30) (N := some 121) (v := ?_) (a' := ?_) #[true, true, true, true, true, true, true, true, true, true, true, true, true, true, true, true, true, true, true, true, true, true, true, true, true, true, true, true, true, true, true, false, false, false, false, false, false, false, false, false, false, false, false, false, false, false, false, false, false, false, false, false, false, false, false, false, false, false, false, false, false, false, false, false] rfl rfl (any_of HT_.out (by kernel_rfl)) (fun _ _ _ h => h) (Or.inl ⟨by rfl, ?_⟩) ?_ ?_
                          rotate_left
                          · intro w'
                            go_simp
                            with_reducible rfl
                          rotate_left
                          · simp only [Act.put, List.setIfInBounds_toArray, List.set_cons_zero, List.set_cons_succ, i64_w, i32_w]
                            rfl
                          refine pure_ (i := 31) (N := some 122) (v := ?_) (a' := ?_) #[true, true, true, true, true, true, true, true, true, true, true, true, true, true, true, true, true, true, true, true, true, true, true, true, true, true, true, true, true, true, true, true, false, false, false, false, false, false, false, false, false, false, false, false, false, false, false, false, false, false, false, false, false, false, false, false, false, false, false, false, false, false, false, false] rfl rfl (any_of HT_.out (by kernel_rfl)) (fun _ _ _ h => h) (Or.inl ⟨by rfl, ?_⟩) ?_ ?_
                          rotate_left
                          · intro w'
                            go_simp
                            with_reducible rfl
                          rotate_left
                          · simp only [Act.put, List.setIfInBounds_toArray, List.set_cons_zero, List.set_cons_succ, i64_w, i32_w]
                            rfl
                          refine pure_ (i := 32) (N := some 123) (v := ?_) (a' := ?_) #[true, true, true, true, true, true, true, true, true, true, true, true, true, true, true, true, true, true, true, true, true, true, true, true, true, true, true, true, true, true, true, true, true, false, false, false, false, false, false, false, false, false, false, false, false, false, false, false, false, false, false, false, false, false, false, false, false, false, false, false, false, false, false, false] rfl rfl (any_of HT_.out (by kernel_rfl)) (fun _ _ _ h => h) (Or.inl ⟨by rfl, ?_⟩) ?_ ?_
                          rotate_left
                          · intro w'
                            go_simp
                            with_reducible rfl
                          rotate_left
                          · simp only [Act.put, List.setIfInBounds_toArray, List.set_cons_zero, List.set_cons_succ, i64_w, i32_w]
                            rfl
                          refine pure_ (i := 33) (N := some 124) (v := ?_) (a' := ?_) #[true, true, true, true, true, true, true, true, true, true, true, true, true, true, true, true, true, true, true, true, true, true, true, true, true, true, true, true, true, true, true, true, true, true, false, false, false, false, false, false, false, false, false, false, false, false, false, false, false, false, false, false, false, false, false, false, false, false, false, false, false, false, false, false] rfl rfl (any_of HT_.out (by kernel_rfl)) (fun _ _ _ h => h) (Or.inl ⟨by rfl, ?_⟩) ?_ ?_
                          rotate_left
                          · intro w'
                            go_simp
                            with_reducible rfl
                          rotate_left
                          · simp only [Act.put, List.setIfInBounds_toArray, List.set_cons_zero, List.set_cons_succ, i64_w, i32_w]
                            rfl
                          refine pure_ (i := 34) (N := some 125) (v := ?_) (a' := ?_) #[true, true, true, true, true, true, true, true, true, true, true, true, true, true, true, true, true, true, true, true, true, true, true, true, true, true, true, true, true, true, true, true, true, true, true, false, false, false, false, false, false, false, false, false, false, false, false, false, false, false, false, false, false, false, false, false, false, false, false, false, false, false, false, false] rfl rfl (any_of HT_.out (by kernel_rfl)) (fun _ _ _ h => h) (Or.inl ⟨by rfl, ?_⟩) ?_ ?_
                          rotate_left
                          · intro w'
                            go_simp
                            with_reducible rfl
                          rotate_left
                          · simp only [Act.put, List.setIfInBounds_toArray, List.set_cons_zero, List.set_cons_succ, i64_w, i32_w]
                            rfl
                          refine pure_ (i := 35) (N := some 126) (v := ?_) (a' := ?_) #[true, true, true, true, true, true, true, true, true, true, true, true, true, true, true, true, true, true, true, true, true, true, true, true, true, true, true, true, true, true, true, true, true, true, true, true, false, false, false, false, false, false, false, false, false, false, false, false, false, false, false, false, false, false, false, false, false, false, false, false, false, false, false, false] rfl rfl (any_of HT_.out (by kernel_rfl)) (fun _ _ _ h => h) (Or.inl ⟨by rfl, ?_⟩) ?_ ?_
                          rotate_left
                          · intro w'
                            go_simp
                            with_reducible rfl
                          rotate_left
                          · simp only [Act.put, List.setIfInBounds_toArray, List.set_cons_zero, List.set_cons_succ, i64_w, i32_w]
                            rfl
                          refine pure_ (i := 36) (N := some 127) (v := ?_) (a' := ?_) #[true, true, true, true, true, true, true, true, true, true, true, true, true, true, true, true, true, true, true, true, true, true, true, true, true, true, true, true, true, true, true, true, true, true, true, true, true, false, false, false, false, false, false, false, false, false, false, false, false, false, false, false, false, false, false, false, false, false, false, false, false, false, false, false] rfl rfl (any_of HT_.out (by kernel_rfl)) (fun _ _ _ h => h) (Or.inl ⟨by rfl, ?_⟩) ?_ ?_
                          rotate_left
                          · intro w'
                            go_simp
                            with_reducible rfl
                          rotate_left
                          · simp only [Act.put, List.setIfInBounds_toArray, List.set_cons_zero, List.set_cons_succ, i64_w, i32_w]
                            rfl
                          refine pure_ (i := 37) (N := some 128) (v := ?_) (a' := ?_) #[true, true, true, true, true, true, true, true, true, true, true, true, true, true, true, true, true, true, true, true, true, true, true, true, true, true, true, true, true, true, true, true, true, true, true, true, true, true, false, false, false, false, false, false, false, false, false, false, false, false, false, false, false, false, false, false, false, false, false, false, false, false, false, false] rfl rfl (any_of HT_.out (by kernel_rfl)) (fun _ _ _ h => h) (Or.inl ⟨by rfl, ?_⟩) ?_ ?_
                          rotate_left
                          · intro w'
                            go_simp
                            with_reducible rfl
                          rotate_left
                          · simp only [Act.put, List.setIfInBounds_toArray, List.set_cons_zero, List.set_cons_succ, i64_w, i32_w]
                            rfl
                          refine pure_ (i := 38) (N := some 129) (v := ?_) (a' := ?_) #[true, true, true, true, true, true, true, true, true, true, true, true, true, true, true, true, true, true, true, true, true, true, true, true, true, true, true, true, true, true, true, true, true, true, true, true, true, true, true, false, false, false, false, false, false, false, false, false, false, false, false, false, false, false, false, false, false, false, false, false, false, false, false, false] rfl rfl (any_of HT_.out (by kernel_rfl)) (fun _ _ _ h => h) (Or.inl ⟨by rfl, ?_⟩) ?_ ?_
                          rotate_left
                          · intro w'
                            go_simp
                            with_reducible rfl
                          rotate_left
                          · simp only [Act.put, List.setIfInBounds_toArray, List.set_cons_zero, List.set_cons_succ, i64_w, i32_w]
                            rfl
                          refine pure_ (i := 39) (N := some 130) (v := ?_) (a' := ?_) #[true, true, true, true, true, true, true, true, true, true, true, true, true, true, true, true, true, true, true, true, true, true, true, true, true, true, true, true, true, true, true, true, true, true, true, true, true, true, true, true, false, false, false, false, false, false, false, false, false, false, false, false, false, false, false, false, false, false, false, false, false, false, false, false] rfl rfl (any_of HT_.out (by kernel_rfl)) (fun _ _ _ h => h) (Or.inl ⟨by rfl, ?_⟩) ?_ ?_
                          rotate_left
                          · intro w'
                            go_simp
                            with_reducible rfl
                          rotate_left
                          · simp only [Act.put, List.setIfInBounds_toArray, List.set_cons_zero, List.set_cons_succ, i64_w, i32_w]
                            rfl
                          refine pure_ (i := 40) (N := some 131) (v := ?_) (a' := ?_) #[true, true, true, true, true, true, true, true, true, true, true, true, true, true, true, true, true, true, true, true, true, true, true, true, true, true, true, true, true, true, true, true, true, true, true, true, true, true, true, true, true, false, false, false, false, false, false, false, false, false, false, false, false, false, false, false, false, false, false, false, false, false, false, false] rfl rfl (any_of HT_.out (by kernel_rfl)) (fun _ _ _ h => h) (Or.inl ⟨by rfl, ?_⟩) ?_ ?_
                          rotate_left
                          · intro w'
                            go_simp
                            with_reducible rfl
                          rotate_left
                          · simp only [Act.put, List.setIfInBounds_toArray, List.set_cons_zero, List.set_cons_succ, i64_w, i32_w]
                            rfl
                          refine pure_ (i := 41) (N := some 132) (v := ?_) (a' := ?_) #[true, true, true, true, true, true, true, true, true, true, true, true, true, true, true, true, true, true, true, true, true, true, true, true, true, true, true, true, true, true, true, true, true, true, true, true, true, true, true, true, true, true, false, false, false, false, false, false, false, false, false, false, false, false, false, false, false, false, false, false, false, false, false, false] rfl rfl (any_of HT_.out (by kernel_rfl)) (fun _ _ _ h => h) (Or.inl ⟨by rfl, ?_⟩) ?_ ?_
                          rotate_left
                          · intro w'
                            go_simp
                            with_reducible rfl
                          rotate_left
                          · simp only [Act.put, List.setIfInBounds_toArray, List.set_cons_zero, List.set_cons_succ, i64_w, i32_w]
                            rfl
                          refine pure_ (i := 42) (N := some 133) (v := ?_) (a' := ?_) #[true, true, true, true, true, true, true, true, true, true, true, true, true, true, true, true, true, true, true, true, true, true, true, true, true, true, true, true, true, true, true, true, true, true, true, true, true, true, true, true, true, true, true, false, false, false, false, false, false, false, false, false, false, false, false, false, false, false, false, false, false, false, false, false] rfl rfl (any_of HT_.out (by kernel_rfl)) (fun _ _ _ h => h) (Or.inl ⟨by rfl, ?_⟩) ?_ ?_
                          rotate_left
                          · intro w'
                            go_simp
                            with_reducible rfl
                          rotate_left
                          · simp only [Act.put, List.setIfInBounds_toArray, List.set_cons_zero, List.set_cons_succ, i64_w, i32_w]
                            rfl
                          refine pure_ (i := 43) (N := some 134) (v := ?_) (a' := ?_) #[true, true, true, true, true, true, true, true, true, true, true, true, true, true, true, true, true, true, true, true, true, true, true, true, true, true, true, true, true, true, true, true, true, true, true, true, true, true, true, true, true, true, true, true, false, false, false, false, false, false, false, false, false, false, false, false, false, false, false, false, false, false, false, false] rfl rfl (any_of HT_.out (by kernel_rfl)) (fun _ _ _ h => h) (Or.inl ⟨by rfl, ?_⟩) ?_ ?_
                          rotate_left
                          · intro w'
                            go_simp
                            with_reducible rfl
                          rotate_left
                          · simp only [Act.put, List.setIfInBounds_toArray, List.set_cons_zero, List.set_cons_succ, i64_w, i32_w]
                            rfl
                          refine take_ (i := 44) (N := some 135) (v := ?_) (a' := ?_) #[true, true, true, true, true, true, true, true, true, true, true, true, true, true, true, true, true, true, true, true, true, true, true, true, true, true, true, true, true, true, true, true, true, true, true, true, true, true, true, true, true, true, true, true, true, false, false, false, false, false, false, false, false, false, false, false, false, false, false, false, false, false, false, false] rfl rfl (take_ofW HT_.out HW_.out (by kernel_rfl)) (fun _ _ _ h => h) (Or.inl ⟨by rfl, ?_⟩) hHeld ?_ ?_
                          rotate_left
                          · rintro w' ⟨s0, s1, s2, s3, s4, s5, s6, s7, s8, s9, s10, s11, s12, s13, s14, s15, s16, s17, s18, s19, s20, s21, s22, s23, s24, s25, s26, s27, s28, s29, s30, s31, s32, s33, s34⟩
                            go_simp
                            with_reducible rfl
                          rotate_left
                          · simp only [Act.put, List.setIfInBounds_toArray, List.set_cons_zero, List.set_cons_succ, i64_w, i32_w]
                            rfl
                          refine take_ (i := 45) (N := some 136) (v := ?_) (a' := ?_) #[true, true, true, true, true, true, true, true, true, true, true, true, true, true, true, true, true, true, true, true, true, true, true, true, true, true, true, true, true, true, true, true, true, true, true, true, true, true, true, true, true, true, true, true, true, true, false, false, false, false, false, false, false, false, false, false, false, false, false, false, false, false, false, false] rfl rfl (take_ofW HT_.out HW_.out (by kernel_rfl)) (fun _ _ _ h => h) (Or.inl ⟨by rfl, ?_⟩) hHeld ?_ ?_
                          rotate_left
                          · rintro w' ⟨s0, s1, s2, s3, s4, s5, s6, s7, s8, s9, s10, s11, s12, s13, s14, s15, s16, s17, s18, s19, s20, s21, s22, s23, s24, s25, s26, s27, s28, s29, s30, s31, s32, s33, s34⟩
                            go_simp
                            with_reducible rfl
                          rotate_left
                          · simp only [Act.put, List.setIfInBounds_toArray, List.set_cons_zero, List.set_cons_succ, i64_w, i32_w]
                            rfl
                          refine pure_ (i := 46) (N := some 137) (v := ?_) (a' := ?_) #[true, true, true, true, true, true, true, true, true, true, true, true, true, true, true, true, true, true, true, true, true, true, true, true, true, true, true, true, true, true, true, true, true, true, true, true, true, true, true, true, true, true, true, true, true, true, true, false, false, false, false, false, false, false, false, false, false, false, false, false, false, false, false, false] rfl rfl (any_of HT_.out (by kernel_rfl)) (fun _ _ _ h => h) (Or.inl ⟨by rfl, ?_⟩) ?_ ?_
                          rotate_left
                          · intro w'
                            go_simp
                            with_reducible rfl
                          rotate_left
                          · simp only [Act.put, List.setIfInBounds_toArray, List.set_cons_zero, List.set_cons_succ, i64_w, i32_w]
                            rfl
                          refine pure_ (i := 47) (N := some 138) (v := ?_) (a' := ?_) #[true, true, true, true, true, true, true, true, true, true, true, true, true, true, true, true, true, true, true, true, true, true, true, true, true, true, true, true, true, true, true, true, true, true, true, true, true, true, true, true, true, true, true, true, true, true, true, true, false, false, false, false, false, false, false, false, false, false, false, false, false, false, false, false] rfl rfl (any_of HT_.out (by kernel_rfl)) (fun _ _ _ h => h) (Or.inl ⟨by rfl, ?_⟩) ?_ ?_
                          rotate_left
                          · intro w'
                            go_simp
                            with_reducible rfl
                          rotate_left
                          · simp only [Act.put, List.setIfInBounds_toArray, List.set_cons_zero, List.set_cons_succ, i64_w, i32_w]
                            rfl
                          refine pure_ (i := 48) (N := some 139) (v := ?_) (a' := ?_) #[true, true, true, true, true, true, true, true, true, true, true, true, true, true, true, true, true, true, true, true, true, true, true, true, true, true, true, true, true, true, true, true, true, true, true, true, true, true, true, true, true, true, true, true, true, true, true, true, true, false, false, false, false, false, false, false, false, false, false, false, false, false, false, false] rfl rfl (any_of HT_.out (by kernel_rfl)) (fun _ _ _ h => h) (Or.inl ⟨by rfl, ?_⟩) ?_ ?_
                          rotate_left
                          · intro w'
                            go_simp
                            with_reducible rfl
                          rotate_left
                          · simp only [Act.put, List.setIfInBounds_toArray, List.set_cons_zero, List.set_cons_succ, i64_w, i32_w]
                            rfl
                          refine pure_ (i := 49) (N := some 140) (v := ?_) (a' := ?_) #[true, true, true, true, true, true, true, true, true, true, true, true, true, true, true, true, true, true, true, true, true, true, true, true, true, true, true, true, true, true, true, true, true, true, true, true, true, true, true, true, true, true, true, true, true, true, true, true, true, true, false, false, false, false, false, false, false, false, false, false, false, false, false, false] rfl rfl (any_of HT_.out (by kernel_rfl)) (fun _ _ _ h => h) (Or.inl ⟨by rfl, ?_⟩) ?_ ?_
                          rotate_left
                          · intro w'
                            go_simp
                            with_reducible rfl
                          rotate_left
                          · simp only [Act.put, List.setIfInBounds_toArray, List.set_cons_zero, List.set_cons_succ, i64_w, i32_w]
                            rfl
                          refine pure_ (i := 50) (N := some 141) (v := ?_) (a' := ?_) #[true, true, true, true, true, true, true, true, true, true, true, true, true, true, true, true, true, true, true, true, true, true, true, true, true, true, true, true, true, true, true, true, true, true, true, true, true, true, true, true, true, true, true, true, true, true, true, true, true, true, true, false, false, false, false, false, false, false, false, false, false, false, false, false] rfl rfl (any_of HT_.out (by kernel_rfl)) (fun _ _ _ h => h) (Or.inl ⟨by rfl, ?_⟩) ?_ ?_
                          rotate_left
                          · intro w'
                            go_simp
                            with_reducible rfl
                          rotate_left
                          · simp only [Act.put, List.setIfInBounds_toArray, List.set_cons_zero, List.set_cons_succ, i64_w, i32_w]
                            rfl
                          refine pure_ (i := 51) (N := some 142) (v := ?_) (a' := ?_) #[true, true, true, true, true, true, true, true, true, true, true, true, true, true, true, true, true, true, true, true, true, true, true, true, true, true, true, true, true, true, true, true, true, true, true, true, true, true, true, true, true, true, true, true, true, true, true, true, true, true, true, true, false, false, false, false, false, false, false, false, false, false, false, false] rfl rfl (any_of HT_.out (by kernel_rfl)) (fun _ _ _ h => h) (Or.inl ⟨by rfl, ?_⟩) ?_ ?_
                          rotate_left
                          · intro w'
                            go_simp
                            with_reducible rfl
                          rotate_left
                          · simp only [Act.put, List.setIfInBounds_toArray, List.set_cons_zero, List.set_cons_succ, i64_w, i32_w]
                            rfl
                          refine pure_ (i := 52) (N := some 143) (v := ?_) (a' := ?_) #[true, true, true, true, true, true, true, true, true, true, true, true, true, true, true, true, true, true, true, true, true, true, true, true, true, true, true, true, true, true, true, true, true, true, true, true, true, true, true, true, true, true, true, true, true, true, true, true, true, true, true, true, true, false, false, false, false, false, false, false, false, false, false, false] rfl rfl (any_of HT_.out (by kernel_rfl)) (fun _ _ _ h => h) (Or.inl ⟨by rfl, ?_⟩) ?_ ?_
                          rotate_left
                          · intro w'
                            go_simp
                            with_reducible rfl
                          rotate_left
                          · simp only [Act.put, List.setIfInBounds_toArray, List.set_cons_zero, List.set_cons_succ, i64_w, i32_w]
                            rfl
                          refine pure_ (i := 53) (N := some 144) (v := ?_) (a' := ?_) #[true, true, true, true, true, true, true, true, true, true, true, true, true, true, true, true, true, true, true, true, true, true, true, true, true, true, true, true, true, true, true, true, true, true, true, true, true, true, true, true, true, true, true, true, true, true, true, true, true, true, true, true, true, true, false, false, false, false, false, false, false, false, false, false] rfl rfl (any_of HT_.out (by kernel_rfl)) (fun _ _ _ h => h) (Or.inl ⟨by rfl, ?_⟩) ?_ ?_
                          rotate_left
                          · intro w'
                            go_simp
                            with_reducible rfl
                          rotate_left
                          · simp only [Act.put, List.setIfInBounds_toArray, List.set_cons_zero, List.set_cons_succ, i64_w, i32_w]
                            rfl
                          refine take_ (i := 54) (N := some 145) (v := ?_) (a' := ?_) #[true, true, true, true, true, true, true, true, true, true, true, true, true, true, true, true, true, true, true, true, true, true, true, true, true, true, true, true, true, true, true, true, true, true, true, true, true, true, true, true, true, true, true, true, true, true, true, true, true, true, true, true, true, true, true, false, false, false, false, false, false, false, false, false] rfl rfl (take_ofW HT_.out HW_.out (by kernel_rfl)) (fun _ _ _ h => h) (Or.inl ⟨by rfl, ?_⟩) hHeld ?_ ?_
                          rotate_left
                          · rintro w' ⟨s0, s1, s2, s3, s4, s5, s6, s7, s8, s9, s10, s11, s12, s13, s14, s15, s16, s17, s18, s19, s20, s21, s22, s23, s24, s25, s26, s27, s28, s29, s30, s31, s32, s33, s34⟩
                            go_simp
                            with_reducible rfl
                          rotate_left
                          · simp only [Act.put, List.setIfInBounds_toArray, List.set_cons_zero, List.set_cons_succ, i64_w, i32_w]
                            rfl
                          refine take_ (i := 55) (N := some 146) (v := ?_) (a' := ?_) #[true, true, true, true, true, true, true, true, true, true, true, true, true, true, true, true, true, true, true, true, true, true, true, true, true, true, true, true, true, true, true, true, true, true, true, true, true, true, true, true, true, true, true, true, true, true, true, true, true, true, true, true, true, true, true, true, false, false, false, false, false, false, false, false] rfl rfl (take_ofW HT_.out HW_.out (by kernel_rfl)) (fun _ _ _ h => h) (Or.inl ⟨by rfl, ?_⟩) hHeld ?_ ?_
                          rotate_left
                          · rintro w' ⟨s0, s1, s2, s3, s4, s5, s6, s7, s8, s9, s10, s11, s12, s13, s14, s15, s16, s17, s18, s19, s20, s21, s22, s23, s24, s25, s26, s27, s28, s29, s30, s31, s32, s33, s34⟩
                            go_simp
                            with_reducible rfl
                          rotate_left
                          · simp only [Act.put, List.setIfInBounds_toArray, List.set_cons_zero, List.set_cons_succ, i64_w, i32_w]
                            rfl
                          refine pure_ (i := 56) (N := some 147) (v := ?_) (a' := ?_) #[true, true, true, true, true, true, true, true, true, true, true, true, true, true, true, true, true, true, true, true, true, true, true, true, true, true, true, true, true, true, true, true, true, true, true, true, true, true, true, true, true, true, true, true, true, true, true, true, true, true, true, true, true, true, true, true, true, false, false, false, false, false, false, false] rfl rfl (any_of HT_.out (by kernel_rfl)) (fun _ _ _ h => h) (Or.inl ⟨by rfl, ?_⟩) ?_ ?_
                          rotate_left
                          · intro w'
                            go_simp
                            with_reducible rfl
                          rotate_left
                          · simp only [Act.put, List.setIfInBounds_toArray, List.set_cons_zero, List.set_cons_succ, i64_w, i32_w]
                            rfl
                          refine pure_ (i := 57) (N := some 148) (v := ?_) (a' := ?_) #[true, true, true, true, true, true, true, true, true, true, true, true, true, true, true, true, true, true, true, true, true, true, true, true, true, true, true, true, true, true, true, true, true, true, true, true, true, true, true, true, true, true, true, true, true, true, true, true, true, true, true, true, true, true, true, true, true, true, false, false, false, false, false, false] rfl rfl (any_of HT_.out (by kernel_rfl)) (fun _ _ _ h => h) (Or.inl ⟨by rfl, ?_⟩) ?_ ?_
                          rotate_left
                          · intro w'
                            go_simp
                            with_reducible rfl
                          rotate_left
                          · simp only [Act.put, List.setIfInBounds_toArray, List.set_cons_zero, List.set_cons_succ, i64_w, i32_w]
                            rfl
                          refine pure_ (i := 58) (N := some 149) (v := ?_) (a' := ?_) #[true, true, true, true, true, true, true, true, true, true, true, true, true, true, true, true, true, true, true, true, true, true, true, true, true, true, true, true, true, true, true, true, true, true, true, true, true, true, true, true, true, true, true, true, true, true, true, true, true, true, true, true, true, true, true, true, true, true, true, false, false, false, false, false] rfl rfl (any_of HT_.out (by kernel_rfl)) (fun _ _ _ h => h) (Or.inl ⟨by rfl, ?_⟩) ?_ ?_
                          rotate_left
                          · intro w'
                            go_simp
                            with_reducible rfl
                          rotate_left
                          · simp only [Act.put, List.setIfInBounds_toArray, List.set_cons_zero, List.set_cons_succ, i64_w, i32_w]
                            rfl
                          refine pure_ (i := 59) (N := some 150) (v := ?_) (a' := ?_) #[true, true, true, true, true, true, true, true, true, true, true, true, true, true, true, true, true, true, true, true, true, true, true, true, true, true, true, true, true, true, true, true, true, true, true, true, true, true, true, true, true, true, true, true, true, true, true, true, true, true, true, true, true, true, true, true, true, true, true, true, false, false, false, false] rfl rfl (any_of HT_.out (by kernel_rfl)) (fun _ _ _ h => h) (Or.inl ⟨by rfl, ?_⟩) ?_ ?_
                          rotate_left
                          · intro w'
                            go_simp
                            with_reducible rfl
                          rotate_left
                          · simp only [Act.put, List.setIfInBounds_toArray, List.set_cons_zero, List.set_cons_succ, i64_w, i32_w]
                            rfl
                          refine pure_ (i := 60) (N := some 151) (v := ?_) (a' := ?_) #[true, true, true, true, true, true, true, true, true, true, true, true, true, true, true, true, true, true, true, true, true, true, true, true, true, true, true, true, true, true, true, true, true, true, true, true, true, true, true, true, true, true, true, true, true, true, true, true, true, true, true, true, true, true, true, true, true, true, true, true, true, false, false, false] rfl rfl (any_of HT_.out (by kernel_rfl)) (fun _ _ _ h => h) (Or.inl ⟨by rfl, ?_⟩) ?_ ?_
                          rotate_left
                          · intro w'
                            go_simp
                            with_reducible rfl
                          rotate_left
                          · simp only [Act.put, List.setIfInBounds_toArray, List.set_cons_zero, List.set_cons_succ, i64_w, i32_w]
                            rfl
                          refine pure_ (i := 61) (N := some 152) (v := ?_) (a' := ?_) #[true, true, true, true, true, true, true, true, true, true, true, true, true, true, true, true, true, true, true, true, true, true, true, true, true, true, true, true, true, true, true, true, true, true, true, true, true, true, true, true, true, true, true, true, true, true, true, true, true, true, true, true, true, true, true, true, true, true, true, true, true, true, false, false] rfl rfl (any_of HT_.out (by kernel_rfl)) (fun _ _ _ h => h) (Or.inl ⟨by rfl, ?_⟩) ?_ ?_
                          rotate_left
                          · intro w'
                            go_simp
                            with_reducible rfl
                          rotate_left
                          · simp only [Act.put, List.setIfInBounds_toArray, List.set_cons_zero, List.set_cons_succ, i64_w, i32_w]
                            rfl
                          refine pure_ (i := 62) (N := some 153) (v := ?_) (a' := ?_) #[true, true, true, true, true, true, true, true, true, true, true, true, true, true, true, true, true, true, true, true, true, true, true, true, true, true, true, true, true, true, true, true, true, true, true, true, true, true, true, true, true, true, true, true, true, true, true, true, true, true, true, true, true, true, true, true, true, true, true, true, true, true, true, false] rfl rfl (any_of HT_.out (by kernel_rfl)) (fun _ _ _ h => h) (Or.inl ⟨by rfl, ?_⟩) ?_ ?_
                          rotate_left
                          · intro w'
                            go_simp
                            with_reducible rfl
                          rotate_left
                          · simp only [Act.put, List.setIfInBounds_toArray, List.set_cons_zero, List.set_cons_succ, i64_w, i32_w]
                            rfl
                          refine pure_ (i := 63) (N := some 6) (v := ?_) (a' := ?_) #[true, true, true, true, true, true, true, true, true, true, true, true, true, true, true, true, true, true, true, true, true, true, true, true, true, true, true, true, true, true, true, true, true, true, true, true, true, true, true, true, true, true, true, true, true, true, true, true, true, true, true, true, true, true, true, true, true, true, true, true, true, true, true, true] rfl rfl (any_of HT_.out (by kernel_rfl)) (fun _ _ _ h => h) (Or.inl ⟨by rfl, ?_⟩) ?_ ?_
                          rotate_left
                          · intro w'
                            go_simp
                            with_reducible rfl
                          rotate_left
                          · simp only [Act.put, List.setIfInBounds_toArray, List.set_cons_zero, List.set_cons_succ, i64_w, i32_w]
                            rfl
                          refine done_ (done_of HT_.out (by kernel_rfl)) ?_
                          try go_wp2
                          all_goals (first | (go_ret; exact ⟨by first | rfl | (simp [errW_none, errW_some] <;> rfl) | (simp [*, errW_none, errW_some] <;> rfl) | (simp_all; done), by repeat (first | (with_reducible first | exact HB.out | apply below_alloc | apply pw_below_drewN | apply below_drew1 | refine below_set ?_ GE101.out | refine below_set ?_ GE122.out | refine below_set ?_ GE129.out | refine below_set ?_ GE140.out | refine below_set ?_ GE147.out | refine below_set ?_ GE154.out | refine below_set ?_ GE161.out) | exact HB.out)⟩) | (exfalso; simp_all; done))
                        · rw [if_neg c31] at H
                          have c31b0 : (t148 == t155 && (t149.toList == t156.toList && (t150.toList == t157.toList && (t151 == t158 && (t152 == t159))))) = false := by simpa using c31
                          (try (have c31b1 : decide (t148 = t155 && (t149.toList == t156.toList && (t150.toList == t157.toList && (t151 == t158 && (t152 == t159))))) = false := by simpa using c31))
                          (try (have c31b2 : (t148 == t155 && (t149.toList == t156.toList && (t150.toList == t157.toList && (t151 == t158 && (t152 == t159))))) = false := by simpa using c31))
                          (try (have c31b3 : ¬ (t148 = t155 && (t149.toList == t156.toList && (t150.toList == t157.toList && (t151 == t158 && (t152 == t159))))) := by simpa using c31))
                          clear c31
                          exact absurd H (by simp)
                      · rw [if_neg c30] at H
                        have c30b0 : (t139 == t146) = false := beq_eq_false_iff_ne.mpr c30
                        have c30b1 : (t139 != t146) = true := bne_iff_ne.mpr c30
                        exact absurd H (by simp)
                    · rw [if_neg c29] at H
                      have c29b0 : (t134 == t141 && (t135.toList == t142.toList && (t136.toList == t143.toList && (t137 == t144 && (t138 == t145))))) = false := by simpa using c29
                      (try (have c29b1 : decide (t134 = t141 && (t135.toList == t142.toList && (t136.toList == t143.toList && (t137 == t144 && (t138 == t145))))) = false := by simpa using c29))
                      (try (have c29b2 : (t134 == t141 && (t135.toList == t142.toList && (t136.toList == t143.toList && (t137 == t144 && (t138 == t145))))) = false := by simpa using c29))
                      (try (have c29b3 : ¬ (t134 = t141 && (t135.toList == t142.toList && (t136.toList == t143.toList && (t137 == t144 && (t138 == t145))))) := by simpa using c29))
                      clear c29
                      exact absurd H (by simp)
                  · rw [if_neg c28] at H
                    have c28b0 : (t131 == t133) = false := beq_eq_false_iff_ne.mpr c28
                    have c28b1 : (t131 != t133) = true := bne_iff_ne.mpr c28
                    exact absurd H (by simp)
                · rw [if_neg c27] at H
                  have c27b0 : (t130.toList == t132.toList) = false := beq_eq_false_iff_ne.mpr c27
                  have c27b1 : (t130.toList != t132.toList) = true := bne_iff_ne.mpr c27
                  exact absurd H (by simp)
              · rw [if_neg c26] at H
                have c26b0 : (t121 == t128) = false := beq_eq_false_iff_ne.mpr c26
                have c26b1 : (t121 != t128) = true := bne_iff_ne.mpr c26
                exact absurd H (by simp)
            · rw [if_neg c25] at H
              have c25b0 : (t116 == t123 && (t117.toList == t124.toList && (t118.toList == t125.toList && (t119 == t126 && (t120 == t127))))) = false := by simpa using c25
              (try (have c25b1 : decide (t116 = t123 && (t117.toList == t124.toList && (t118.toList == t125.toList && (t119 == t126 && (t120 == t127))))) = false := by simpa using c25))
              (try (have c25b2 : (t116 == t123 && (t117.toList == t124.toList && (t118.toList == t125.toList && (t119 == t126 && (t120 == t127))))) = false := by simpa using c25))
              (try (have c25b3 : ¬ (t116 = t123 && (t117.toList == t124.toList && (t118.toList == t125.toList && (t119 == t126 && (t120 == t127))))) := by simpa using c25))
              clear c25
              exact absurd H (by simp)
          · rw [if_neg c24] at H
            have c24b0 : (t112 == t115) = false := beq_eq_false_iff_ne.mpr c24
            have c24b1 : (t112 != t115) = true := bne_iff_ne.mpr c24
            exact absurd H (by simp)
        · rw [if_neg c23] at H
          have c23b0 : (t111.toList == t114.toList) = false := beq_eq_false_iff_ne.mpr c23
          have c23b1 : (t111.toList != t114.toList) = true := bne_iff_ne.mpr c23
          exact absurd H (by simp)
      · rw [if_neg c22] at H
        have c22b0 : (t110.toList == t113.toList) = false := beq_eq_false_iff_ne.mpr c22
        have c22b1 : (t110.toList != t113.toList) = true := bne_iff_ne.mpr c22
        exact absurd H (by simp)
    · rw [if_neg c21] at H
      have c21b0 : (t162 == t163) = false := by simpa using c21
      (try (have c21b1 : decide (t162 = t163) = false := by simpa using c21))
      (try (have c21b2 : (t162 == t163) = false := by simpa using c21))
      (try (have c21b3 : ¬ (t162 = t163) := by simpa using c21))
      clear c21
      exact absurd H (by simp)
  · replace c18 := Bool.eq_false_iff.mpr c18
    subst c18
    have H1 : (none) = some r := by rw [if_neg (show ¬ (false = true) by decide)] at H; exact H
    clear H
    have H := H1
    clear H1
    exact absurd H (by simp)
end Go.Proofs.YtandbobinjhehaaDoor.SF
end
section
namespace Go.Proofs.YtandbobinjhehaaDoor.Hand
open Go.RowKit Go.Proofs.YtandbobinjhehaaDoor.SA Go.Proofs.YtandbobinjhehaaDoor.SC Go.Proofs.YtandbobinjhehaaDoor.SE Go.Proofs.YtandbobinjhehaaDoor.SF
theorem texts_true (a0 : Int) (a1 a2 : ByteArray) (a3 a4 : Int) (s t : ByteArray) : postriderlaw06_EidTexts.f 2000 a0 a1 a2 a3 a4 s t = some true := by
  obtain ⟨x1, x2, hx, hx1, hx2⟩ := Cut_is a0 a1 a2 a3 a4
  obtain ⟨s', hs, hs1⟩ := cut_is s
  obtain ⟨t', ht, ht1⟩ := cut_is t
  have k1 : x1.size ≤ 80 := by omega
  have k2 : x2.size ≤ 80 := by omega
  have m1 := le_max k1
  have m2 := le_max k2
  have hj : eid_Join.f s' t' = some (joinT s' t') := by
    unfold eid_Join.f
    rw [if_pos (by omega)]
  unfold postriderlaw06_EidTexts.f postriderlaw06_shown.f
  rw [hx, hs, ht]
  simp only [Option.bind_some]
  rw [Halves_is a0 x1 x2 a3 a4 m1 m2, Halves_ref 2000 a0 x1 x2 a3 a4 k1 k2 (by decide), hj, Join_ref 2000 s' t' ht1 (by decide),
    Print_is a0 x1 x2 a3 a4 m1 m2, Print_ref 2000 a0 x1 x2 a3 a4 k1 k2 (by decide), Parse_is s' hs1, Parse_ref 2000 s' hs1 (by decide),
    Home_is a0 x1 x2 a3 a4 m1 m2, Home_ref 2000 a0 x1 x2 a3 a4 k1 k2 (by decide), Right_is a0 x1 x2 a3 a4 m1 m2, Right_ref 2000 a0 x1 x2 a3 a4 k1 k2 (by decide)]
  simp only [Option.bind_some, beq_self_eq_true, Bool.and_self, if_true]
end Go.Proofs.YtandbobinjhehaaDoor.Hand
end

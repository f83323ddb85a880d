/- Layer 6, plain laws: names, their halves, their texts. No program in sight. -/
import Derived.Test.YtandbobinjhehaaDoorEidJ
import Derived.Test.YtandbobinjhehaaDoorEidD
import Derived.Test.YtandbobinjhehaaDoorSCx1
namespace Go.Proofs.YtandbobinjhehaaDoor.Hand
open Go.RowKit

theorem ba_ext {a b : ByteArray} (h : a.toList = b.toList) : a = b := by
  rw [ByteArray.toList_eq, ByteArray.toList_eq] at h
  exact ByteArray.ext (Array.toList_inj.1 h)
theorem ba_nil {a : ByteArray} (h : a.toList = []) : a = ⟨#[]⟩ := ba_ext (h.trans (by rw [ByteArray.toList_eq]))

theorem index_one (c : UInt8) (q : List UInt8) : ∀ p : List UInt8, c ∉ p → Lib.index (p ++ c :: q) [c] = p.length
  | [], _ => by simp [Lib.index]
  | b :: p, h => by
    have hb : c ≠ b := fun e => h (e ▸ List.mem_cons_self ..)
    have hp : c ∉ p := fun e => h (List.mem_cons_of_mem _ e)
    have ih := index_one c q p hp
    simp only [List.cons_append, Lib.index]
    rw [ih]
    simp [hb, List.isPrefixOf]
    try omega

theorem cut_one (c : UInt8) (p q : List UInt8) (h : c ∉ p) : Lib.cut (p ++ c :: q) [c] = (p, q, true) := by
  unfold Lib.cut
  rw [index_one c q p h, if_pos (by omega)]
  simp

theorem cut_found (l : List UInt8) (c : UInt8) (h : (Lib.cut l [c]).2.2 = true) : l = (Lib.cut l [c]).1 ++ c :: (Lib.cut l [c]).2.1 := by
  unfold Lib.cut at h ⊢
  rcases Lib.index_spec l [c] with ⟨hi, _⟩ | ⟨i, hi, hle, hocc, _⟩
  · rw [hi] at h
    simp at h
  · rw [hi, if_pos (by omega)]
    simp only [Int.toNat_natCast, List.length_singleton]
    unfold Lib.occAt at hocc
    have hd : l.drop i = c :: l.drop (i + 1) := by
      rw [← List.tail_drop]
      cases hdd : l.drop i with
      | nil => rw [hdd] at hocc; simp [List.isPrefixOf] at hocc
      | cons b r =>
        rw [hdd] at hocc
        simp [List.isPrefixOf] at hocc
        rw [hocc]
        rfl
    rw [← hd, List.take_append_drop]

theorem dig_ok : ∀ u : Nat, ∀ d ∈ Lib.decDigits u, 48 ≤ d.toNat ∧ d.toNat ≤ 57 := by
  intro u
  induction u using Nat.strongRecOn with
  | _ u ih =>
    intro d hd
    rw [Lib.decDigits] at hd
    split at hd
    · simp only [List.mem_singleton] at hd
      subst hd
      have : (UInt8.ofNat (48 + u)).toNat = 48 + u := by simp; omega
      omega
    · rcases List.mem_append.1 hd with hd | hd
      · exact ih (u / 10) (by omega) d hd
      · simp only [List.mem_singleton] at hd
        subst hd
        have : (UInt8.ofNat (48 + u % 10)).toNat = 48 + u % 10 := by simp; omega
        omega

theorem dig_len : ∀ k u : Nat, u < 10 ^ (k + 1) → (Lib.decDigits u).length ≤ k + 1 := by
  intro k
  induction k with
  | zero =>
    intro u hu
    rw [Lib.decDigits, dif_pos (by omega)]
    simp
  | succ k ih =>
    intro u hu
    rw [Lib.decDigits]
    split
    · simp
    · have := ih (u / 10) (by rw [Nat.pow_succ] at hu; omega)
      simp
      omega

theorem dig_ne (u : Nat) : Lib.decDigits u ≠ [] := by
  rw [Lib.decDigits]
  split <;> simp

theorem parse_app : ∀ (l r : List UInt8) (acc v : Nat), Lib.parseUint10 acc l = .ok v → Lib.parseUint10 acc (l ++ r) = Lib.parseUint10 v r
  | [], r, acc, v, h => by
    simp only [Lib.parseUint10] at h
    injection h with h
    subst h
    rfl
  | c :: l, r, acc, v, h => by
    simp only [Lib.parseUint10, List.cons_append] at h ⊢
    split at h
    · split at h
      · cases h
      · split at h
        · cases h
        · rename_i h1 h2 h3
          rw [if_pos h1, if_neg h2, if_neg h3]
          exact parse_app l r _ v h
    · cases h

theorem parse_dig : ∀ u : Nat, u ≤ 1000000000000000000 → Lib.parseUint10 0 (Lib.decDigits u) = .ok u := by
  intro u
  induction u using Nat.strongRecOn with
  | _ u ih =>
    intro hu
    rw [Lib.decDigits]
    split
    · have : (UInt8.ofNat (48 + u)).toNat = 48 + u := by simp; omega
      simp only [Lib.parseUint10, this]
      rw [if_pos (by omega), if_neg (by omega), if_neg (by omega)]
      congr 1
      omega
    · rw [parse_app _ _ _ _ (ih (u / 10) (by omega) (by omega))]
      have : (UInt8.ofNat (48 + u % 10)).toNat = 48 + u % 10 := by simp; omega
      simp only [Lib.parseUint10, this]
      rw [if_pos (by omega), if_neg (by omega), if_neg (by omega)]
      congr 1
      omega

theorem itoa_dig (a : Int) (h : 0 ≤ a) : Lib.itoa a = Lib.decDigits a.toNat := by
  unfold Lib.itoa
  rw [if_neg (by omega)]

theorem atoi_itoa (a : Int) (h : 0 ≤ a) (h2 : a ≤ 999999999) : atoiNum (Lib.itoa a) = a := by
  have hp := parse_dig a.toNat (by omega)
  rw [itoa_dig a h]
  cases hd : Lib.decDigits a.toNat with
  | nil => exact absurd hd (dig_ne _)
  | cons c r =>
    have hc := dig_ok a.toNat c (by rw [hd]; exact List.mem_cons_self ..)
    unfold atoiNum Lib.atoiAll
    rw [hd] at hp
    simp only
    rw [if_neg (by omega)]
    unfold Lib.parseMag
    rw [if_neg (by simp), hp]
    simp only
    rw [if_neg (by omega), if_neg (by omega), if_neg (by omega)]
    simp
    omega

/-- The data of what is joined. -/
theorem restDtn_data (a1 a2 : ByteArray) : (restDtn a1 a2).data.toList = [47, 47] ++ (a1.data.toList ++ 47 :: a2.data.toList) := by
  unfold restDtn
  simp [ByteArray.data_append]
theorem restIpn_data (a3 a4 : Int) : (restIpn a3 a4).data.toList = Lib.itoa a3 ++ 46 :: Lib.itoa a4 := by
  unfold restIpn txt
  simp [ByteArray.data_append]

theorem txt_data (a : ByteArray) : txt a.data.toList = a := by
  unfold txt
  simp

theorem part_no {a : ByteArray} {signs : ByteArray} {c : UInt8} (h : partS a signs = true) (hc : okByte signs c = false) : c ∉ a.data.toList := by
  intro hm
  unfold partS at h
  simp only [Bool.and_eq_true, List.all_eq_true] at h
  rw [h.1 c hm] at hc
  cases hc

theorem dtn_parts (a1 a2 : ByteArray) (h : partS a1 ⟨#[45, 46]⟩ = true) : dtnParts (restDtn a1 a2) = (a1, a2) := by
  have hn : (47 : UInt8) ∉ a1.data.toList := part_no h (by decide)
  unfold dtnParts
  have ht : Lib.trimPrefix (restDtn a1 a2).data.toList [47, 47] = a1.data.toList ++ 47 :: a2.data.toList := by
    rw [restDtn_data]
    unfold Lib.trimPrefix Lib.hasPrefix
    simp [List.isPrefixOf]
  rw [ht, cut_one _ _ _ hn, txt_data, txt_data]

theorem ipn_parts (a3 a4 : Int) (h3 : 0 ≤ a3) (h3' : a3 ≤ 999999999) (h4 : 0 ≤ a4) (h4' : a4 ≤ 999999999) : ipnParts (restIpn a3 a4) = (a3, a4) := by
  have hn : (46 : UInt8) ∉ Lib.itoa a3 := by
    intro hm
    rw [itoa_dig a3 h3] at hm
    have := dig_ok _ _ hm
    simp at this
  unfold ipnParts
  rw [restIpn_data, cut_one _ _ _ hn]
  simp only
  rw [atoi_itoa a3 h3 h3', atoi_itoa a4 h4 h4']

theorem right_none2 {a1 a2 : ByteArray} {a3 a4 : Int} (h : rightS 0 a1 a2 a3 a4 = true) : a1 = ⟨#[]⟩ ∧ a2 = ⟨#[]⟩ ∧ a3 = 0 ∧ a4 = 0 := by
  unfold rightS at h
  rw [if_pos rfl] at h
  simp only [Bool.and_eq_true, beq_iff_eq] at h
  exact ⟨ba_nil h.1, ba_nil h.2.1, h.2.2.1, h.2.2.2⟩
theorem right_num {n : Int} {a1 a2 : ByteArray} {a3 a4 : Int} (h : rightS n a1 a2 a3 a4 = true) : n = 0 ∨ n = 1 ∨ n = 2 := by
  unfold rightS at h
  by_cases h0 : n = 0
  · exact .inl h0
  · by_cases h1 : n = 1
    · exact .inr (.inl h1)
    · by_cases h2 : n = 2
      · exact .inr (.inr h2)
      · rw [if_neg h0, if_neg h1, if_neg h2] at h
        cases h

theorem half_is {word rest : ByteArray} {x : Eid} : isHalf word rest x = true ↔ rightS x.s x.n x.v x.a x.b = true ∧ wordS x.s = word ∧ restS x.s x.n x.v x.a x.b = rest := by
  unfold isHalf halvesS
  by_cases hr : rightS x.s x.n x.v x.a x.b = true
  · rw [if_pos hr]
    simp only [hr, Bool.and_eq_true, beq_iff_eq, true_and]
    exact ⟨fun h => ⟨ba_ext h.1, ba_ext h.2⟩, fun h => ⟨by rw [h.1], by rw [h.2]⟩⟩
  · rw [if_neg hr]
    simp [hr]

theorem join_right {word rest : ByteArray} {x : Eid} (h : joinS word rest = some x) : rightS x.s x.n x.v x.a x.b = true ∧ wordS x.s = word ∧ restS x.s x.n x.v x.a x.b = rest :=
  half_is.1 (List.find?_some h)

theorem join_of {n : Int} {a1 a2 : ByteArray} {a3 a4 : Int} (h : rightS n a1 a2 a3 a4 = true) : joinS (wordS n) (restS n a1 a2 a3 a4) = some ⟨n, a1, a2, a3, a4⟩ := by
  have hh : isHalf (wordS n) (restS n a1 a2 a3 a4) ⟨n, a1, a2, a3, a4⟩ = true := half_is.2 ⟨h, rfl, rfl⟩
  rcases right_num h with rfl | rfl | rfl
  · obtain ⟨rfl, rfl, rfl, rfl⟩ := right_none2 h
    unfold joinS cands
    rw [if_pos ⟨by decide, by rw [ByteArray.toList_eq]; rfl⟩]
    simp only [List.cons_append, List.nil_append, List.find?_cons]
    rw [hh]
  · obtain ⟨_, hp, _, h3, h4⟩ := right_dtn h
    subst h3 h4
    unfold joinS cands
    rw [if_pos ⟨by decide, by rw [ByteArray.toList_eq]; rfl⟩, if_pos ⟨by decide, by rw [ByteArray.toList_eq]; rfl⟩]
    simp only [List.cons_append, List.nil_append, List.find?_cons]
    have h0 : isHalf (wordS 1) (restS 1 a1 a2 0 0) ⟨0, ⟨#[]⟩, ⟨#[]⟩, 0, 0⟩ = false := by
      rw [Bool.eq_false_iff]
      intro hc
      have h2 := (half_is.1 hc).2.2
      have h3 : wNone.data.toList = (restDtn a1 a2).data.toList := congrArg (fun z : ByteArray => z.data.toList) h2
      rw [restDtn_data] at h3
      simp [wNone] at h3
    rw [h0]
    simp only
    rw [show restS 1 a1 a2 0 0 = restDtn a1 a2 from rfl, dtn_parts a1 a2 hp]
    rw [show restS 1 a1 a2 0 0 = restDtn a1 a2 from rfl] at hh
    rw [hh]
  · obtain ⟨h1, h2, h3, h3', h4, h4'⟩ := right_ipn h
    obtain rfl := ba_nil h1
    obtain rfl := ba_nil h2
    unfold joinS cands
    rw [if_neg (by rw [ByteArray.toList_eq]; rintro ⟨_, h⟩; revert h; decide), if_neg (by rw [ByteArray.toList_eq]; rintro ⟨_, h⟩; revert h; decide), if_pos ⟨by decide, by rw [ByteArray.toList_eq]; rfl⟩]
    simp only [List.nil_append, List.find?_cons]
    rw [show restS 2 ⟨#[]⟩ ⟨#[]⟩ a3 a4 = restIpn a3 a4 from rfl, ipn_parts a3 a4 (by omega) h3' h4 h4']
    rw [show restS 2 ⟨#[]⟩ ⟨#[]⟩ a3 a4 = restIpn a3 a4 from rfl] at hh
    rw [hh]

/-- Two right names of the same halves are one. -/
theorem halves_inj {n m : Int} {a1 a2 b1 b2 : ByteArray} {a3 a4 b3 b4 : Int} (h : rightS n a1 a2 a3 a4 = true) (h' : rightS m b1 b2 b3 b4 = true) (hw : wordS n = wordS m) (hr : restS n a1 a2 a3 a4 = restS m b1 b2 b3 b4) :
    n = m ∧ a1 = b1 ∧ a2 = b2 ∧ a3 = b3 ∧ a4 = b4 := by
  have e := join_of h
  rw [hw, hr, join_of h'] at e
  injection e with e
  injection e with e1 e2 e3 e4 e5
  exact ⟨e1.symm, e2.symm, e3.symm, e4.symm, e5.symm⟩

end Go.Proofs.YtandbobinjhehaaDoor.Hand

/- Layer 6, plain laws: what the printed functions answer. -/
import Derived.Test.YtandbobinjhehaaDoorEidL
import Derived.Test.YtandbobinjhehaaDoorSDx1
namespace Go.Proofs.YtandbobinjhehaaDoor.Hand
open Go.RowKit Go.Proofs.YtandbobinjhehaaDoor.SA Go.Proofs.YtandbobinjhehaaDoor.SC Go.Proofs.YtandbobinjhehaaDoor.SD

theorem mn_len (n : Nat) (k : Int) (hk : 0 ≤ k) : 0 ≤ YtandbobinjhehaaDoorW.PrintWords.mn n k ∧ YtandbobinjhehaaDoorW.PrintWords.mn n k ≤ n ∧ YtandbobinjhehaaDoorW.PrintWords.mn n k ≤ k := by
  unfold YtandbobinjhehaaDoorW.PrintWords.mn
  split <;> omega

theorem Cut_is (a0 : Int) (a1 a2 : ByteArray) (a3 a4 : Int) : ∃ b1 b2 : ByteArray, postriderlaw06_Cut.f a0 a1 a2 a3 a4 = some (a0, b1, b2, a3, a4) ∧ b1.size ≤ 21 ∧ b2.size ≤ 21 := by
  obtain ⟨h1, h2, h3⟩ := mn_len a1.size 21 (by decide)
  obtain ⟨k1, k2, k3⟩ := mn_len a2.size 21 (by decide)
  unfold postriderlaw06_Cut.f
  rw [if_pos h1, if_pos h2, if_pos k1, if_pos k2]
  refine ⟨_, _, rfl, ?_, ?_⟩
  · rw [ByteArray.size_extract]; omega
  · rw [ByteArray.size_extract]; omega
theorem cut_is (a : ByteArray) : ∃ b : ByteArray, postriderlaw06_cut.f a = some b ∧ b.size ≤ 80 := by
  obtain ⟨h1, h2, h3⟩ := mn_len a.size 80 (by decide)
  unfold postriderlaw06_cut.f
  rw [if_pos h1, if_pos h2]
  refine ⟨_, rfl, ?_⟩
  rw [ByteArray.size_extract]; omega

theorem le_max {a : ByteArray} (h : a.size ≤ 80) : a.size ≤ maxLen := Nat.le_trans h (by decide)

theorem rest_size {n : Int} {a1 a2 : ByteArray} {a3 a4 : Int} (h : rightS n a1 a2 a3 a4 = true) : (restS n a1 a2 a3 a4).size ≤ 43 := by
  rcases right_num h with rfl | rfl | rfl
  · show wNone.size ≤ 43
    decide
  · obtain ⟨_, hp, hq, h3, h4⟩ := right_dtn h
    have := partS_size hp
    have := partS_size hq
    show (restDtn a1 a2).size ≤ 43
    have e : (restDtn a1 a2).size = (restDtn a1 a2).data.toList.length := (Array.length_toList ..).symm
    rw [e, restDtn_data]
    simp only [List.length_append, List.length_cons, List.length_nil, Array.length_toList]
    show 2 + (a1.size + (a2.size + 1)) ≤ 43
    omega
  · obtain ⟨h1, h2, h3, h3', h4, h4'⟩ := right_ipn h
    show (restIpn a3 a4).size ≤ 43
    have e : (restIpn a3 a4).size = (restIpn a3 a4).data.toList.length := (Array.length_toList ..).symm
    rw [e, restIpn_data, itoa_dig a3 (by omega), itoa_dig a4 h4]
    have := dig_len 8 a3.toNat (by omega)
    have := dig_len 8 a4.toNat (by omega)
    simp only [List.length_append, List.length_cons]
    omega

/-- A name's text, of its halves. -/
def textS (n : Int) (a1 a2 : ByteArray) (a3 a4 : Int) : ByteArray := (wordS n ++ (⟨#[58]⟩ : ByteArray)) ++ restS n a1 a2 a3 a4

theorem word_size (n : Int) : (wordS n).size = 3 := by unfold wordS; split <;> decide
theorem text_size {n : Int} {a1 a2 : ByteArray} {a3 a4 : Int} (h : rightS n a1 a2 a3 a4 = true) : (textS n a1 a2 a3 a4).size ≤ 47 := by
  unfold textS
  rw [ByteArray.size_append, ByteArray.size_append, word_size]
  have := rest_size h
  show 3 + 1 + _ ≤ 47
  omega

theorem Halves_is (n : Int) (a1 a2 : ByteArray) (a3 a4 : Int) (h1 : a1.size ≤ maxLen) (h2 : a2.size ≤ maxLen) : eid_Halves.f n a1 a2 a3 a4 = some (halvesS n a1 a2 a3 a4) := by
  unfold eid_Halves.f; rw [if_pos ⟨h1, h2⟩]
theorem Right_is (n : Int) (a1 a2 : ByteArray) (a3 a4 : Int) (h1 : a1.size ≤ maxLen) (h2 : a2.size ≤ maxLen) : eid_Right.f n a1 a2 a3 a4 = some (rightS n a1 a2 a3 a4) := by
  unfold eid_Right.f; rw [if_pos ⟨h1, h2⟩]

theorem Print_is (n : Int) (a1 a2 : ByteArray) (a3 a4 : Int) (h1 : a1.size ≤ maxLen) (h2 : a2.size ≤ maxLen) :
    eid_Print.f n a1 a2 a3 a4 = some (if rightS n a1 a2 a3 a4 = true then (textS n a1 a2 a3 a4, 0) else (⟨#[]⟩, 60)) := by
  unfold eid_Print.f
  rw [Halves_is n a1 a2 a3 a4 h1 h2, Option.bind_some]
  unfold halvesS
  by_cases hr : rightS n a1 a2 a3 a4 = true
  · rw [if_pos hr, if_pos hr]
    have := rest_size hr
    have := word_size n
    simp only
    rw [if_pos (by omega), if_pos (by omega)]
    rfl
  · rw [if_neg hr, if_neg hr]
    rfl

theorem word_no (n : Int) : (58 : UInt8) ∉ (wordS n).data.toList := by unfold wordS; split <;> decide

theorem text_data (n : Int) (a1 a2 : ByteArray) (a3 a4 : Int) : (textS n a1 a2 a3 a4).data.toList = (wordS n).data.toList ++ 58 :: (restS n a1 a2 a3 a4).data.toList := by
  unfold textS
  simp [ByteArray.data_append]

/-- What Parse answers. -/
def parseS (s : ByteArray) : Int × ByteArray × ByteArray × Int × Int × Int :=
  if (Lib.cut s.data.toList [58]).2.2 = true then joinT (txt (Lib.cut s.data.toList [58]).1) (txt (Lib.cut s.data.toList [58]).2.1) else (0, ⟨#[]⟩, ⟨#[]⟩, 0, 0, 60)

theorem Parse_is (s : ByteArray) (hs : s.size ≤ 80) : eid_Parse.f s = some (parseS s) := by
  unfold eid_Parse.f strings_Cut.f parseS
  rw [if_pos (by omega)]
  simp only [Option.bind_some]
  by_cases hc : (Lib.cut s.data.toList [58]).2.2 = true
  · rw [if_pos hc, if_pos hc]
    unfold eid_Join.f
    have hl := (cut_sizes s.data.toList [58]).2
    rw [if_pos (by rw [txt_size]; rw [Array.length_toList] at hl; exact Nat.lt_of_le_of_lt hl (by show s.size < _; omega))]
    rfl
  · rw [if_neg hc, if_neg hc]
    rfl

theorem joinT_of {n : Int} {a1 a2 : ByteArray} {a3 a4 : Int} (h : rightS n a1 a2 a3 a4 = true) : joinT (wordS n) (restS n a1 a2 a3 a4) = (n, a1, a2, a3, a4, 0) := by
  unfold joinT
  rw [join_of h]

theorem parse_text {n : Int} {a1 a2 : ByteArray} {a3 a4 : Int} (h : rightS n a1 a2 a3 a4 = true) : parseS (textS n a1 a2 a3 a4) = (n, a1, a2, a3, a4, 0) := by
  unfold parseS
  rw [text_data, cut_one _ _ _ (word_no n), if_pos rfl]
  simp only
  rw [txt_data, txt_data, joinT_of h]

/-- What is parsed: nothing, or a right name that has this text. -/
theorem parse_either (s : ByteArray) : parseS s = (0, ⟨#[]⟩, ⟨#[]⟩, 0, 0, 60) ∨ ∃ n a1 a2 a3 a4, parseS s = (n, a1, a2, a3, a4, 0) ∧ rightS n a1 a2 a3 a4 = true ∧ textS n a1 a2 a3 a4 = s := by
  unfold parseS
  by_cases hc : (Lib.cut s.data.toList [58]).2.2 = true
  · rw [if_pos hc]
    unfold joinT
    cases hj : joinS (txt (Lib.cut s.data.toList [58]).1) (txt (Lib.cut s.data.toList [58]).2.1) with
    | none => exact .inl rfl
    | some x =>
      obtain ⟨hr, hw, hrest⟩ := join_right hj
      refine .inr ⟨x.s, x.n, x.v, x.a, x.b, rfl, hr, ?_⟩
      apply ba_ext
      rw [ByteArray.toList_eq, ByteArray.toList_eq, text_data, hw, hrest]
      conv => rhs; rw [cut_found _ _ hc]
      simp [txt]
  · rw [if_neg hc]
    exact .inl rfl

theorem right_sizes {n : Int} {a1 a2 : ByteArray} {a3 a4 : Int} (h : rightS n a1 a2 a3 a4 = true) : a1.size ≤ 20 ∧ a2.size ≤ 20 := by
  rcases right_num h with rfl | rfl | rfl
  · obtain ⟨rfl, rfl, _⟩ := right_none2 h
    decide
  · obtain ⟨_, hp, hq, _⟩ := right_dtn h
    exact ⟨partS_size hp, partS_size hq⟩
  · obtain ⟨h1, h2, _⟩ := right_ipn h
    obtain rfl := ba_nil h1
    obtain rfl := ba_nil h2
    decide

end Go.Proofs.YtandbobinjhehaaDoor.Hand

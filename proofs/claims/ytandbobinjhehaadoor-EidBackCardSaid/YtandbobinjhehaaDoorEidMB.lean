/- Layer 6, plain law: EidBack answers true. -/
import Derived.Test.YtandbobinjhehaaDoorEidM
import Derived.Test.YtandbobinjhehaaDoorSDx4
namespace Go.Proofs.YtandbobinjhehaaDoor.Hand
open Go.RowKit Go.Proofs.YtandbobinjhehaaDoor.SA Go.Proofs.YtandbobinjhehaaDoor.SC Go.Proofs.YtandbobinjhehaaDoor.SD

theorem back_true (k : Nat) (a0 : Int) (a1 a2 : ByteArray) (a3 a4 : Int) (s : ByteArray) : postriderlaw06_EidBack.f (k + 1) a0 a1 a2 a3 a4 s = some true := by
  obtain ⟨x1, x2, hx, hx1, hx2⟩ := Cut_is a0 a1 a2 a3 a4
  obtain ⟨y, hy, hys⟩ := cut_is s
  have e0 : (⟨#[]⟩ : ByteArray).toList = [] := by rw [ByteArray.toList_eq]
  have hj : postriderlaw06_EidBack.j0 (k + 1) y true (if rightS a0 x1 x2 a3 a4 = true then 0 else 60) false a0 x1 x2 a3 a4 = some true := by
    simp only [postriderlaw06_EidBack.j0]
    rw [if_neg (show ¬ (false = true) by decide), Parse_is y hys]
    simp only [Option.bind_some]
    rw [Right_is a0 x1 x2 a3 a4 (le_max (by omega)) (le_max (by omega))]
    have hb : ((if rightS a0 x1 x2 a3 a4 = true then (0 : Int) else 60) == 0) = rightS a0 x1 x2 a3 a4 := by
      cases rightS a0 x1 x2 a3 a4 <;> rfl
    simp only [hb, Option.bind_some, beq_self_eq_true, if_true]
    rcases parse_either y with h | ⟨n, b1, b2, b3, b4, h, hr, ht⟩
    · rw [h, Print_is _ _ _ _ _ (by decide) (by decide)]
      simp only [Option.bind_some, e0]
      rw [if_neg (by decide), if_pos (by decide)]
    · rw [h]
      obtain ⟨h1, h2⟩ := right_sizes hr
      rw [Print_is _ _ _ _ _ (le_max (by show b1.size ≤ 80; omega)) (le_max (by show b2.size ≤ 80; omega))]
      simp only [Option.bind_some]
      rw [if_pos hr, ht]
      simp
  unfold postriderlaw06_EidBack.f postriderlaw06_shown.f
  rw [hx, hy]
  simp only [Option.bind_some]
  rw [Print_is a0 x1 x2 a3 a4 (le_max (by omega)) (le_max (by omega)), Halves_is a0 x1 x2 a3 a4 (le_max (by omega)) (le_max (by omega))]
  simp only [Option.bind_some]
  unfold halvesS
  by_cases hr : rightS a0 x1 x2 a3 a4 = true
  · rw [if_pos hr] at hj ⊢
    rw [if_pos hr]
    simp only
    rw [Parse_is _ (by have := text_size hr; omega), parse_text hr]
    simp only [Option.bind_some]
    unfold eid_Join.f
    rw [if_pos (by have := rest_size hr; omega), joinT_of hr]
    simp only [Option.bind_some, beq_self_eq_true, Bool.not_true, Bool.or_self, if_true]
    have := word_size a0
    have := rest_size hr
    rw [if_neg (by decide), if_neg (by decide), if_pos (by omega), if_pos (by omega)]
    have hte : ((textS a0 x1 x2 a3 a4).toList != ((wordS a0 ++ (⟨#[58]⟩ : ByteArray)) ++ restS a0 x1 x2 a3 a4).toList) = false := by
      unfold textS; simp
    rw [hte]
    exact hj
  · rw [if_neg hr] at hj ⊢
    rw [if_neg hr]
    simp only
    rw [Parse_is _ (by decide)]
    simp only [Option.bind_some]
    unfold eid_Join.f
    rw [if_pos (by decide)]
    simp only [Option.bind_some]
    rw [if_neg (by decide)]
    exact hj

end Go.Proofs.YtandbobinjhehaaDoor.Hand

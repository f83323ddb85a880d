/- Layer 6, EidHomes: the law answers true. -/
import Derived.Test.YtandbobinjhehaaDoorEidN
namespace Go.Proofs.YtandbobinjhehaaDoor.Hand
open Go.RowKit Go.Proofs.YtandbobinjhehaaDoor.SA Go.Proofs.YtandbobinjhehaaDoor.SC Go.Proofs.YtandbobinjhehaaDoor.SD

theorem Home_is (n : Int) (a1 a2 : ByteArray) (a3 a4 : Int) (h1 : a1.size ≤ maxLen) (h2 : a2.size ≤ maxLen) :
    eid_Home.f n a1 a2 a3 a4 = some (if rightS n a1 a2 a3 a4 = true then (n, a1, ⟨#[]⟩, a3, 0, 0) else (0, ⟨#[]⟩, ⟨#[]⟩, 0, 0, 60)) := by
  unfold eid_Home.f
  rw [Right_is n a1 a2 a3 a4 h1 h2]
  simp only [Option.bind_some]
  unfold api_Eid.f
  by_cases hr : rightS n a1 a2 a3 a4 = true
  · rw [if_pos hr, if_pos hr]
    rfl
  · rw [if_neg hr, if_neg hr]
    rfl

theorem home_right {n : Int} {b1 b2 : ByteArray} {b3 b4 : Int} (h : rightS n b1 b2 b3 b4 = true) : rightS n b1 ⟨#[]⟩ b3 0 = true := by
  have e0 : (⟨#[]⟩ : ByteArray).toList = [] := by rw [ByteArray.toList_eq]
  rcases right_num h with rfl | rfl | rfl
  · obtain ⟨rfl, rfl, rfl, rfl⟩ := right_none2 h
    exact h
  · obtain ⟨h1, hp, hq, rfl, rfl⟩ := right_dtn h
    unfold rightS
    rw [if_neg (by decide), if_pos rfl]
    have hq' : partS ⟨#[]⟩ ⟨#[45, 46, 47]⟩ = true := by decide
    simp [h1, hp, hq']
  · obtain ⟨h1, h2, h3, h3', h4, h4'⟩ := right_ipn h
    unfold rightS
    rw [if_neg (by decide), if_neg (by decide), if_pos rfl, h1, e0]
    simp [h3, h3']

theorem postriderlaw06_EidHomes.calls (a0 : Int) (a1 a2 : ByteArray) (a3 a4 : Int) (s : ByteArray) (w : World) (hLd : Laid w) :
    Calls Tryd.prog 6 #[.agg #[.int .i64 a0, .string a1, .string a2, .int .i64 a3, .int .i64 a4], .string s] w fun e w' => e = .returned (.bool true) ∧ Below w.heap.size w w' := by
  obtain ⟨x1, x2, hx, hx1, hx2⟩ := Cut_is a0 a1 a2 a3 a4
  have m1 := le_max (show x1.size ≤ 80 by omega)
  have m2 := le_max (show x2.size ≤ 80 by omega)
  have m0 := le_max (show (⟨#[]⟩ : ByteArray).size ≤ 80 by decide)
  have H := Home_is a0 x1 x2 a3 a4 m1 m2
  by_cases hr : rightS a0 x1 x2 a3 a4 = true
  · rw [if_pos hr] at H
    have hr2 := home_right hr
    have H2 := Home_is a0 x1 ⟨#[]⟩ a3 0 m1 m0
    rw [if_pos hr2] at H2
    have R2 := Right_is a0 x1 ⟨#[]⟩ a3 0 m1 m0
    rw [hr2] at R2
    by_cases hn : a0 = 1
    · obtain ⟨j, hj⟩ : ∃ j : Int, (if 21 < (s.size : Int) then 21 else (s.size : Int)) = j := ⟨_, rfl⟩
      have hj0 : 0 ≤ j := by rw [← hj]; split <;> omega
      have hj1 : j ≤ (s.size : Int) := by rw [← hj]; split <;> omega
      have hj2 : j ≤ 21 := by rw [← hj]; split <;> omega
      have ms : (s.extract 0 j.toNat).size ≤ maxLen := le_max (by rw [ByteArray.size_extract]; omega)
      have HY := Home_is a0 x1 (s.extract 0 j.toNat) a3 a4 m1 ms
      by_cases hy : rightS a0 x1 (s.extract 0 j.toNat) a3 a4 = true
      · rw [if_pos hy] at HY
        exact homes_dtn a0 a1 a2 a3 a4 s a0 x1 x2 a3 a4 j w hLd hx H H2 R2 HY (by simp [hn]) hj hj0 hj1
      · rw [if_neg hy] at HY
        exact homes_not a0 a1 a2 a3 a4 s a0 x1 x2 a3 a4 j w hLd hx H H2 R2 HY (by simp [hn]) hj hj0 hj1
    · exact homes_other a0 a1 a2 a3 a4 s a0 x1 x2 a3 a4 0 w hLd hx H H2 R2 H (by simp [hn])
  · rw [if_neg hr] at H
    have R := Right_is a0 x1 x2 a3 a4 m1 m2
    rw [Bool.eq_false_iff.2 hr] at R
    exact homes_bad a0 a1 a2 a3 a4 s a0 x1 x2 a3 a4 w hLd hx H R

end Go.Proofs.YtandbobinjhehaaDoor.Hand

/- Layer 6, plain law: EidApart answers true. -/
import Derived.Test.YtandbobinjhehaaDoorEidM
import Derived.Test.YtandbobinjhehaaDoorSDx2
namespace Go.Proofs.YtandbobinjhehaaDoor.Hand
open Go.RowKit Go.Proofs.YtandbobinjhehaaDoor.SA Go.Proofs.YtandbobinjhehaaDoor.SC Go.Proofs.YtandbobinjhehaaDoor.SD

theorem apart_true (a0 : Int) (a1 a2 : ByteArray) (a3 a4 b0 : Int) (b1 b2 : ByteArray) (b3 b4 : Int) : postriderlaw06_EidApart.f a0 a1 a2 a3 a4 b0 b1 b2 b3 b4 = some true := by
  obtain ⟨x1, x2, hx, hx1, hx2⟩ := Cut_is a0 a1 a2 a3 a4
  obtain ⟨y1, y2, hy, hy1, hy2⟩ := Cut_is b0 b1 b2 b3 b4
  unfold postriderlaw06_EidApart.f postriderlaw06_shown.f
  rw [hx, hy]
  simp only [Option.bind_some]
  rw [Print_is a0 x1 x2 a3 a4 (le_max (by omega)) (le_max (by omega)), Print_is b0 y1 y2 b3 b4 (le_max (by omega)) (le_max (by omega))]
  simp only [Option.bind_some]
  have e0 : (⟨#[]⟩ : ByteArray).toList = [] := by rw [ByteArray.toList_eq]
  by_cases hr : rightS a0 x1 x2 a3 a4 = true
  · by_cases hr' : rightS b0 y1 y2 b3 b4 = true
    · rw [if_pos hr, if_pos hr', if_pos rfl, if_pos rfl, if_pos trivial]
      simp only [Option.some.injEq, beq_iff_eq]
      rw [Bool.eq_iff_iff]
      simp only [Bool.and_eq_true, beq_iff_eq]
      constructor
      · intro h
        have e := parse_text hr
        rw [ba_ext h, parse_text hr'] at e
        simp only [Prod.mk.injEq] at e
        obtain ⟨rfl, rfl, rfl, rfl, rfl, _⟩ := e
        exact ⟨rfl, rfl, rfl, rfl, rfl⟩
      · rintro ⟨rfl, h1, h2, rfl, rfl⟩
        rw [ba_ext h1, ba_ext h2]
    · rw [if_pos hr, if_neg hr', if_pos rfl, if_neg (by decide), if_pos trivial, e0]
      rfl
  · by_cases hr' : rightS b0 y1 y2 b3 b4 = true
    · rw [if_neg hr, if_pos hr', if_neg (by decide), if_pos trivial, if_pos e0, if_pos rfl]
    · rw [if_neg hr, if_neg hr', if_neg (by decide), if_pos trivial, if_pos e0, if_neg (by decide), e0]
      rfl

end Go.Proofs.YtandbobinjhehaaDoor.Hand

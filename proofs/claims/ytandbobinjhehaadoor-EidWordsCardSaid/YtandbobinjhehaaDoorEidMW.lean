/- Layer 6, plain law: EidWords answers true. -/
import Derived.Test.YtandbobinjhehaaDoorEidM
import Derived.Test.YtandbobinjhehaaDoorSDx3
namespace Go.Proofs.YtandbobinjhehaaDoor.Hand
open Go.RowKit Go.Proofs.YtandbobinjhehaaDoor.SA Go.Proofs.YtandbobinjhehaaDoor.SC Go.Proofs.YtandbobinjhehaaDoor.SD

theorem words_true (a0 : Int) (a1 a2 : ByteArray) (a3 a4 : Int) : postriderlaw06_EidWords.f a0 a1 a2 a3 a4 = some true := by
  obtain ⟨x1, x2, hx, hx1, hx2⟩ := Cut_is a0 a1 a2 a3 a4
  unfold postriderlaw06_EidWords.f postriderlaw06_shown.f
  rw [hx]
  simp only [Option.bind_some]
  rw [Print_is a0 x1 x2 a3 a4 (le_max (by omega)) (le_max (by omega)), Halves_is a0 x1 x2 a3 a4 (le_max (by omega)) (le_max (by omega))]
  simp only [Option.bind_some]
  have e0 : (⟨#[]⟩ : ByteArray).toList = [] := by rw [ByteArray.toList_eq]
  unfold halvesS
  by_cases hr : rightS a0 x1 x2 a3 a4 = true
  · rw [if_pos hr, if_pos hr]
    have hs : decide (((textS a0 x1 x2 a3 a4).size : Int) ≤ 47) = true := decide_eq_true (by have := text_size hr; omega)
    simp only [hs, if_true]
    have w0 : (wordS 0).toList = [100, 116, 110] := by rw [ByteArray.toList_eq]; rfl
    have w1 : (wordS 1).toList = [100, 116, 110] := by rw [ByteArray.toList_eq]; rfl
    have w2 : (wordS 2).toList = [105, 112, 110] := by rw [ByteArray.toList_eq]; rfl
    rcases right_num hr with rfl | rfl | rfl
    · have hne : ((restS 0 x1 x2 a3 a4).toList == [110, 111, 110, 101]) = true := by
        rw [ByteArray.toList_eq]; rfl
      simp only [w0, hne]
      decide
    · have hne : ((restS 1 x1 x2 a3 a4).toList == [110, 111, 110, 101]) = false := by
        rw [ByteArray.toList_eq, show restS 1 x1 x2 a3 a4 = restDtn x1 x2 from rfl, restDtn_data]
        simp
      simp only [w1, hne]
      decide
    · have hne : ((restS 2 x1 x2 a3 a4).toList == [110, 111, 110, 101]) = false := by
        rw [ByteArray.toList_eq, show restS 2 x1 x2 a3 a4 = restIpn a3 a4 from rfl, restIpn_data]
        rw [beq_eq_false_iff_ne]
        intro h
        have : (46 : UInt8) ∈ [110, 111, 110, (101 : UInt8)] := by rw [← h]; simp
        revert this
        decide
      simp only [w2, hne]
      decide
  · rw [if_neg hr, if_neg hr]
    simp only [e0]
    rw [if_neg (by decide)]
    rfl

end Go.Proofs.YtandbobinjhehaaDoor.Hand

/- Layer 6, by hand: eid.Halves in the print's form. -/
import Derived.Test.YtandbobinjhehaaDoorEidE
namespace Go.Proofs.YtandbobinjhehaaDoor.Hand
open Go.RowKit Go.Proofs.YtandbobinjhehaaDoor.SA Go.Proofs.YtandbobinjhehaaDoor.SB

def wDtn : ByteArray := ⟨#[100, 116, 110]⟩
def wIpn : ByteArray := ⟨#[105, 112, 110]⟩
def wNone : ByteArray := ⟨#[110, 111, 110, 101]⟩
def restDtn (a1 a2 : ByteArray) : ByteArray := (((⟨#[47, 47]⟩ : ByteArray) ++ a1) ++ (⟨#[47]⟩ : ByteArray)) ++ a2
def restIpn (a3 a4 : Int) : ByteArray := (txt (Lib.itoa a3) ++ (⟨#[46]⟩ : ByteArray)) ++ txt (Lib.itoa a4)
def restS (n : Int) (a1 a2 : ByteArray) (a3 a4 : Int) : ByteArray := if n = 0 then wNone else if n = 1 then restDtn a1 a2 else restIpn a3 a4
def wordS (n : Int) : ByteArray := if n = 2 then wIpn else wDtn
/-- A name's two texts. -/
def halvesS (n : Int) (a1 a2 : ByteArray) (a3 a4 : Int) : ByteArray × ByteArray × Int :=
  if rightS n a1 a2 a3 a4 = true then (wordS n, restS n a1 a2 a3 a4, 0) else (⟨#[]⟩, ⟨#[]⟩, 60)

theorem partS_size {s signs : ByteArray} (h : partS s signs = true) : s.size ≤ 20 := by
  unfold partS at h
  simp only [Bool.and_eq_true, decide_eq_true_eq] at h
  exact h.2

theorem right_dtn {a1 a2 : ByteArray} {a3 a4 : Int} (h : rightS 1 a1 a2 a3 a4 = true) : a1.toList ≠ [] ∧ partS a1 ⟨#[45, 46]⟩ = true ∧ partS a2 ⟨#[45, 46, 47]⟩ = true ∧ a3 = 0 ∧ a4 = 0 := by
  unfold rightS at h
  rw [if_neg (by decide), if_pos rfl] at h
  simpa [Bool.and_eq_true] using h
theorem right_ipn {a1 a2 : ByteArray} {a3 a4 : Int} (h : rightS 2 a1 a2 a3 a4 = true) : a1.toList = [] ∧ a2.toList = [] ∧ 1 ≤ a3 ∧ a3 ≤ 999999999 ∧ 0 ≤ a4 ∧ a4 ≤ 999999999 := by
  unfold rightS at h
  rw [if_neg (by decide), if_neg (by decide), if_pos rfl] at h
  simpa [Bool.and_eq_true] using h
theorem right_none' {a1 a2 : ByteArray} {a3 a4 : Int} (h : rightS 0 a1 a2 a3 a4 = true) : a1.toList = [] ∧ a2.toList = [] ∧ a3 = 0 ∧ a4 = 0 := by
  unfold rightS at h
  rw [if_pos rfl] at h
  simpa [Bool.and_eq_true] using h
theorem right_scheme {n : Int} {a1 a2 : ByteArray} {a3 a4 : Int} (h : rightS n a1 a2 a3 a4 = true) : n = 0 ∨ n = 1 ∨ n = 2 := by
  unfold rightS at h
  by_cases e0 : n = 0
  · exact .inl e0
  by_cases e1 : n = 1
  · exact .inr (.inl e1)
  by_cases e2 : n = 2
  · exact .inr (.inr e2)
  rw [if_neg e0, if_neg e1, if_neg e2] at h
  cases h

theorem txt_size (l : List UInt8) : (txt l).size = l.length := by simp [txt, ByteArray.size]
theorem itoa_short (n : Int) (h0 : 0 ≤ n) (h1 : n ≤ 9223372036854775807) : (txt (Lib.itoa n)).size ≤ 21 := by
  rw [txt_size]; exact Lib.itoa_length_le n (by omega) h1

def eid_Halves.f (a0_0 : Int) (a0_1 a0_2 : ByteArray) (a0_3 a0_4 : Int) : Option (ByteArray × ByteArray × Int) :=
  if a0_1.size ≤ maxLen ∧ a0_2.size ≤ maxLen then some (halvesS a0_0 a0_1 a0_2 a0_3 a0_4) else none

theorem eid_Halves.calls (a0_0 : Int) (a0_1 a0_2 : ByteArray) (a0_3 a0_4 : Int) (r1 r2 : ByteArray) (r3 : Int) (w : World) (hLd : Laid w) (h : eid_Halves.f a0_0 a0_1 a0_2 a0_3 a0_4 = some (r1, r2, r3)) :
    Calls Tryd.prog 11 #[.agg #[.int .i64 a0_0, .string a0_1, .string a0_2, .int .i64 a0_3, .int .i64 a0_4]] w fun e w' => e = .returned (.tuple #[.string r1, .string r2, .int .i64 r3]) ∧ Below w.heap.size w w' := by
  unfold eid_Halves.f at h
  split at h
  case isFalse => cases h
  rename_i hc
  obtain ⟨h1, h2⟩ := hc
  unfold halvesS at h
  have hR : eid_Right.f a0_0 a0_1 a0_2 a0_3 a0_4 = some (rightS a0_0 a0_1 a0_2 a0_3 a0_4) := by unfold eid_Right.f; rw [if_pos ⟨h1, h2⟩]
  cases hr : rightS a0_0 a0_1 a0_2 a0_3 a0_4 with
  | false =>
    rw [hr, if_neg (by decide)] at h
    simp only [Option.some.injEq, Prod.mk.injEq] at h
    obtain ⟨rfl, rfl, rfl⟩ := h
    exact halves_no a0_0 a0_1 a0_2 a0_3 a0_4 w (by rw [hR, hr])
  | true =>
    rw [hr, if_pos rfl] at h
    simp only [Option.some.injEq, Prod.mk.injEq] at h
    obtain ⟨rfl, rfl, rfl⟩ := h
    rcases right_scheme hr with rfl | rfl | rfl
    · exact halves_some 0 a0_1 a0_2 a0_3 a0_4 wDtn wNone _ _ _ (by rw [schAt, if_pos rfl]; rfl) (Go.Proofs.enters_of Tryd.func34 (by kernel_rfl) rfl)
        (fun W _ => eid_schemes_2.calls 0 a0_1 a0_2 a0_3 a0_4 _ W rfl) w hLd (by rw [hR, hr])
    · obtain ⟨_, p1, p2, _, _⟩ := right_dtn hr
      have s1 := partS_size p1
      have s2 := partS_size p2
      refine halves_some 1 a0_1 a0_2 a0_3 a0_4 wDtn (restDtn a0_1 a0_2) _ _ _ (by rw [schAt, if_neg (by decide), if_pos rfl]; rfl) (Go.Proofs.enters_of Tryd.func37 (by kernel_rfl) rfl)
        (fun W _ => eid_schemes_4.calls 1 a0_1 a0_2 a0_3 a0_4 _ W ?_) w hLd (by rw [hR, hr])
      unfold eid_schemes_4.f
      rw [if_pos (by omega), if_pos (by omega), if_pos (by omega)]
      rfl
    · obtain ⟨_, _, p3, p4, p5, p6⟩ := right_ipn hr
      have s1 := itoa_short a0_3 (by omega) (by omega)
      have s2 := itoa_short a0_4 (by omega) (by omega)
      refine halves_some 2 a0_1 a0_2 a0_3 a0_4 wIpn (restIpn a0_3 a0_4) _ _ _ (by rw [schAt, if_neg (by decide), if_neg (by decide), if_pos rfl]; rfl) (Go.Proofs.enters_of Tryd.func40 (by kernel_rfl) rfl)
        (fun W hW => eid_schemes_5.calls 2 a0_1 a0_2 a0_3 a0_4 _ W hW ?_) w hLd (by rw [hR, hr])
      unfold eid_schemes_5.f strconv_Itoa.f
      rw [if_pos (by omega), if_pos (by omega)]
      simp only [Option.bind_some]
      rw [if_pos (by omega), if_pos (by omega)]
      rfl

end Go.Proofs.YtandbobinjhehaaDoor.Hand

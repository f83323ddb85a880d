/- Layer 6, by hand: the parser's methods. -/
import Derived.Test.YtandbobinjhehaaDoorEidF
namespace Go.Proofs.YtandbobinjhehaaDoor.Hand
open Go.RowKit Go.Proofs.YtandbobinjhehaaDoor.SA Go.Proofs.YtandbobinjhehaaDoor.SB

set_option maxRecDepth 100000 in
theorem parse0_calls (p : Value) (rest : ByteArray) (w : World) :
    Calls Tryd.prog 35 #[p, .string rest] w fun e w' => e = .returned (.tuple #[]) ∧ Below w.heap.size w w' := by
  go_enter Tryd.func35, Tryd.ntmps35
  go_wp2
  go_end0
  exact ⟨rfl, Below.refl _ _⟩

/-- What the parser of Dtn lays: the node, and the service. -/
def dtnParts (rest : ByteArray) : ByteArray × ByteArray :=
  ((txt (Lib.cut (Lib.trimPrefix rest.data.toList [47, 47]) [47]).1), txt (Lib.cut (Lib.trimPrefix rest.data.toList [47, 47]) [47]).2.1)

theorem trim_size (l : List UInt8) : (⟨l.toArray⟩ : ByteArray).size = l.length := by simp [ByteArray.size]
theorem trim_le (rest : ByteArray) : (Lib.trimPrefix rest.data.toList [47, 47]).length ≤ rest.size := by
  unfold Lib.trimPrefix
  split
  · simp
  · simp
theorem cut_sizes (l s : List UInt8) : (Lib.cut l s).1.length ≤ l.length ∧ (Lib.cut l s).2.1.length ≤ l.length := by
  unfold Lib.cut
  split <;> simp
  omega

set_option maxRecDepth 100000 in
set_option maxHeartbeats 1000000 in
theorem parse1_calls (b : Nat) (s0 : Int) (n0 v0 : ByteArray) (x0 y0 : Int) (rest : ByteArray) (w : World) (hL : Laid w) (hr : rest.size < 4294967281)
    (hb : w.heap[b]? = some (.cells #[.int .i64 s0, .string n0, .string v0, .int .i64 x0, .int .i64 y0] 63)) :
    Calls Tryd.prog 38 #[.pointer (some ⟨b, 0, none⟩), .string rest] w fun e w' => e = .returned (.tuple #[]) ∧ Below b w w' ∧ w'.heap[b]? = some (.cells #[.int .i64 s0, .string (dtnParts rest).1, .string (dtnParts rest).2, .int .i64 x0, .int .i64 y0] 63) := by
  have hu := Tryd.underlying23
  have hup := Tryd.underlying63
  have HL := Lib.hid hL
  clear hL
  have hlt : b < w.heap.size := (Array.getElem?_eq_some_iff.1 hb).1
  go_enter Tryd.func38, Tryd.ntmps38
  go_wp2_with (fail)
  refine (Tryd.strings_TrimPrefix rest ⟨#[47, 47]⟩ w).mono ?_
  rintro e w' ⟨rfl, hw'⟩
  subst w'
  go_wp2_with (fail)
  refine (strings_Cut.calls _ _ (dtnParts rest).1 (dtnParts rest).2 (Lib.cut (Lib.trimPrefix rest.data.toList [47, 47]) [47]).2.2 _ HL.out ?_).mono ?_
  · unfold strings_Cut.f
    rw [if_pos (by rw [trim_size]; exact Nat.lt_of_le_of_lt (trim_le rest) hr)]
    rfl
  · rintro e w2 ⟨rfl, hb2⟩
    have hb' := (hb2.block b hlt).trans hb
    have hlt2 : b < w2.heap.size := Nat.lt_of_lt_of_le hlt hb2.size
    have c1 := (cell_blk hb' 1).trans rfl
    have c2 := (cell_blk hb' 2).trans rfl
    have f1 := frozen_blk hb' 1
    have f2 := frozen_blk hb' 2
    have HB := Lib.hid hb'
    have HB2 := Lib.hid hb2
    clear hb hb' hb2
    go_wp2
    go_end0
    refine ⟨rfl, ?_, ?_⟩
    · exact ((HB2.out.mono (Nat.le_of_lt hlt)).setCell (p := ⟨b, 1, none⟩) (Nat.le_refl _) _).setCell (p := ⟨b, 2, none⟩) (Nat.le_refl _) _
    · exact YtandbobinjhehaaDoorW.PrintWords.blk_set (YtandbobinjhehaaDoorW.PrintWords.blk_set HB.out 1 _) 2 _

/-- What the parser of Ipn lays: two numbers. -/
def ipnParts (rest : ByteArray) : Int × Int := (atoiNum (Lib.cut rest.data.toList [46]).1, atoiNum (Lib.cut rest.data.toList [46]).2.1)

theorem atoi_txt (l : List UInt8) (w : World) (hL : Laid w) (hs : l.length ≤ 281474976710656) :
    Calls Tryd.prog 48 #[.string (txt l)] w fun e w' => (∃ v, e = .returned (.tuple #[.int .i64 (atoiNum l), v])) ∧ Below w.heap.size w w' := by
  have h := atoi_calls (txt l) w hL (by rw [txt_size]; exact hs)
  simpa [txt] using h

set_option maxRecDepth 100000 in
set_option maxHeartbeats 1000000 in
theorem parse2_calls (b : Nat) (s0 : Int) (n0 v0 : ByteArray) (x0 y0 : Int) (rest : ByteArray) (w : World) (hL : Laid w) (hr : rest.size < 4294967281)
    (hb : w.heap[b]? = some (.cells #[.int .i64 s0, .string n0, .string v0, .int .i64 x0, .int .i64 y0] 63)) (hg : 3 < b) :
    Calls Tryd.prog 42 #[.pointer (some ⟨b, 0, none⟩), .string rest] w fun e w' => e = .returned (.tuple #[]) ∧ Below b w w' ∧ w'.heap[b]? = some (.cells #[.int .i64 s0, .string n0, .string v0, .int .i64 (ipnParts rest).1, .int .i64 (ipnParts rest).2] 63) := by
  have hu := Tryd.underlying23
  have hup := Tryd.underlying63
  have HL := Lib.hid hL
  clear hL
  have hlt : b < w.heap.size := (Array.getElem?_eq_some_iff.1 hb).1
  have hcs := cut_sizes rest.data.toList [46]
  rw [Array.length_toList, show rest.data.size = rest.size from rfl] at hcs
  obtain ⟨hcs1, hcs2⟩ := hcs
  go_enter Tryd.func42, Tryd.ntmps42
  go_wp2_with (fail)
  refine (strings_Cut.calls rest ⟨#[46]⟩ (txt (Lib.cut rest.data.toList [46]).1) (txt (Lib.cut rest.data.toList [46]).2.1) (Lib.cut rest.data.toList [46]).2.2 _ HL.out ?_).mono ?_
  · unfold strings_Cut.f
    rw [if_pos hr]
  · rintro e w2 ⟨rfl, hb2⟩
    have hL2 := HL.out.below hb2
    have hb' := (hb2.block b hlt).trans hb
    have hlt2 : b < w2.heap.size := Nat.lt_of_lt_of_le hlt hb2.size
    have HB := Lib.hid hb'
    have HB2 := Lib.hid hb2
    have HL2 := Lib.hid hL2
    clear hb hb' hb2 hL2
    go_wp2_with (fail)
    refine (atoi_txt _ _ HL2.out (by omega)).mono ?_
    rintro e w3 ⟨⟨v3, rfl⟩, hb3⟩
    have hL3 := HL2.out.below hb3
    have hb' := (hb3.block b hlt2).trans HB.out
    have hlt3 : b < w3.heap.size := Nat.lt_of_lt_of_le hlt2 hb3.size
    have c3 := (cell_blk hb' 3).trans rfl
    have f3 := frozen_blk hb' 3
    have HB' := Lib.hid hb'
    have HB3 := Lib.hid hb3
    have HL3 := Lib.hid hL3
    clear hb' hb3 hL3 HB
    go_wp2_with (fail)
    have hset := YtandbobinjhehaaDoorW.PrintWords.blk_set HB'.out 3 (.int .i64 (ipnParts rest).1)
    have hbs : Below b w3 (w3.setCell ⟨b, 3, none⟩ (.int .i64 (ipnParts rest).1)) := (Below.refl b w3).setCell (p := ⟨b, 3, none⟩) (Nat.le_refl _) _
    have hL4 := HL3.out.belowAt hbs hg
    obtain ⟨w4, hw4⟩ : ∃ w4, w4 = w3.setCell ⟨b, 3, none⟩ (.int .i64 (ipnParts rest).1) := ⟨_, rfl⟩
    rw [← hw4] at hset hbs hL4
    rw [show w3.setCell ⟨b, 3, none⟩ (.int .i64 (atoiNum (Lib.cut rest.data.toList [46]).1)) = w4 from hw4.symm]
    have hlt4 : b < w4.heap.size := (Array.getElem?_eq_some_iff.1 hset).1
    have HS := Lib.hid hset
    have HBS := Lib.hid hbs
    have HL4 := Lib.hid hL4
    clear hset hbs hL4 hw4 c3 f3
    refine (atoi_txt _ _ HL4.out (by omega)).mono ?_
    rintro e w5 ⟨⟨v5, rfl⟩, hb5⟩
    have hb' := (hb5.block b hlt4).trans HS.out
    have c4 := (cell_blk hb' 4).trans rfl
    have f4 := frozen_blk hb' 4
    have HB'' := Lib.hid hb'
    have HB5 := Lib.hid hb5
    clear hb' hb5
    go_wp2
    go_end0
    refine ⟨rfl, ?_, ?_⟩
    · exact ((((HB2.out.mono (Nat.le_of_lt hlt)).trans (HB3.out.mono (Nat.le_of_lt hlt2))).trans HBS.out).trans (HB5.out.mono (Nat.le_of_lt hlt4))).setCell (p := ⟨b, 4, none⟩) (Nat.le_refl _) _
    · exact YtandbobinjhehaaDoorW.PrintWords.blk_set HB''.out 4 _

end Go.Proofs.YtandbobinjhehaaDoor.Hand

/- Layer 6, by hand: eid.Halves. -/
import Derived.Test.YtandbobinjhehaaDoorEidD
import Derived.Test.YtandbobinjhehaaDoorLaid
import Derived.Test.YtandbobinjhehaaDoorSBx1
import Derived.Deep.RegionWith
import Derived.BigRegion
import Derived.Deep.DeepCutAuto
import Derived.Deep.CutBlock
import Derived.Laws.EntriesVeiled
namespace Go.Proofs.YtandbobinjhehaaDoor.Hand
open Go.RowKit Go.Proofs.YtandbobinjhehaaDoor.SA Go.Proofs.YtandbobinjhehaaDoor.SB

set_option maxRecDepth 100000 in
set_option maxHeartbeats 1000000 in
theorem halves_no (n : Int) (a0_1 a0_2 : ByteArray) (a0_3 a0_4 : Int) (w : World) (hr : eid_Right.f n a0_1 a0_2 a0_3 a0_4 = some false) :
    Calls Tryd.prog 11 #[.agg #[.int .i64 n, .string a0_1, .string a0_2, .int .i64 a0_3, .int .i64 a0_4]] w fun e w' => e = .returned (.tuple #[.string ⟨#[]⟩, .string ⟨#[]⟩, .int .i64 60]) ∧ Below w.heap.size w w' := by
  have hu := Tryd.underlying23
  have HR := Lib.hid hr
  clear hr
  go_enter Tryd.func11, Tryd.ntmps11
  go_wp2_with (first | (go_at_call 21; refine (eid_Right.calls _ _ _ _ _ _ _ HR.out).mono ?_; rintro e w2 ⟨rfl, hb2⟩))
  go_ret3
  exact ⟨rfl, (b_alloc (Below.refl _ _) _).trans (hb2.mono (by simp))⟩

set_option maxRecDepth 100000 in
set_option maxHeartbeats 4000000 in
theorem halves_some (n : Int) (a0_1 a0_2 : ByteArray) (a0_3 a0_4 : Int) (wd rs : ByteArray) (i j k : Nat) (hs : schAt n = some (schOf wd i j k)) (hent : ∀ args w, (callFunc j args).run Tryd.prog w = .ok (.enter j args) w)
    (hcall : ∀ W : World, Laid W → Calls Tryd.prog j #[.agg #[.int .i64 n, .string a0_1, .string a0_2, .int .i64 a0_3, .int .i64 a0_4]] W fun e w' => e = .returned (.string rs) ∧ Below W.heap.size W w') (w : World) (hL : Laid w) (hr : eid_Right.f n a0_1 a0_2 a0_3 a0_4 = some true) :
    Calls Tryd.prog 11 #[.agg #[.int .i64 n, .string a0_1, .string a0_2, .int .i64 a0_3, .int .i64 a0_4]] w fun e w' => e = .returned (.tuple #[.string wd, .string rs, .int .i64 0]) ∧ Below w.heap.size w w' := by
  have hu := Tryd.underlying23
  have hus := Tryd.underlying43
  have HC := Lib.hid hcall
  have HL := Lib.hid hL
  have HR := Lib.hid hr
  have HLK := Lib.hid (look_some hs false)
  clear hs hcall hL hr
  go_enter Tryd.func11, Tryd.ntmps11
  go_wp2_with fail
  obtain ⟨w0, hw0⟩ : ∃ w0, w0 = w.alloc (.cells #[.int .i64 n, .string a0_1, .string a0_2, .int .i64 a0_3, .int .i64 a0_4] 23) := ⟨_, rfl⟩
  have hB0 : Below w.heap.size w w0 := by rw [hw0]; exact (Below.refl _ _).alloc (Nat.le_refl _) _
  have hb0 : w0.heap[w.heap.size]? = some (.cells #[.int .i64 n, .string a0_1, .string a0_2, .int .i64 a0_3, .int .i64 a0_4] 23) := by rw [hw0]; exact World.alloc_heap_new _ _
  have hlt0 : w.heap.size < w0.heap.size := by rw [hw0]; simp
  rw [← hw0]
  clear hw0
  refine (eid_Right.calls _ _ _ _ _ _ _ HR.out).mono ?_
  rintro e w1 ⟨rfl, hb1⟩
  have hB : Below w.heap.size w w1 := hB0.trans (hb1.mono hB0.size)
  have hb0' := (hb1.block _ hlt0).trans hb0
  have hlt : w.heap.size < w1.heap.size := Nat.lt_of_lt_of_le hlt0 hb1.size
  clear hB0 hb1 hb0 hlt0
  have hc0 : w1.cell? ⟨w.heap.size, 0, none⟩ = some (.int .i64 n) := (cell_blk hb0' 0).trans rfl
  have hcA : ∀ o, (w1.alloc o).cell? ⟨w.heap.size, 0, none⟩ = some (.int .i64 n) := fun o => by rw [World.cell?_alloc_past _ _ _ hlt]; exact hc0
  have hcB : ∀ o o', ((w1.alloc o).alloc o').cell? ⟨w.heap.size, 0, none⟩ = some (.int .i64 n) := fun o o' => by rw [World.cell?_alloc_past _ _ _ (by simp; omega)]; exact hcA o
  have hl1 : (Instr.lookup 44 (.map (some w1.heap.size)) (.int .i64 n) false).run Tryd.prog (w1.alloc (.map schs 3)).drew = .ok (schOf wd i j k) (w1.alloc (.map schs 3)).drew := HLK.out _ _ (World.alloc_heap_new _ _)
  have hl2 : ∀ o, (Instr.lookup 44 (.map (some w1.heap.size)) (.int .i64 n) false).run Tryd.prog ((w1.alloc (.map schs 3)).alloc o).drew = .ok (schOf wd i j k) ((w1.alloc (.map schs 3)).alloc o).drew := fun o => HLK.out _ _ ((Below.heap_alloc _ _ _ (by simp)).trans (World.alloc_heap_new _ _))
  have hl3 : ∀ o, (Instr.lookup 44 (.map (some (w1.heap.size + 1))) (.int .i64 n) false).run Tryd.prog ((w1.alloc o).alloc (.map schs 3)).drew = .ok (schOf wd i j k) ((w1.alloc o).alloc (.map schs 3)).drew := fun o => HLK.out _ _ (by have := World.alloc_heap_new (w1.alloc o) (.map schs 3); rwa [World.size_alloc] at this)
  simp only [schOf] at hl1 hl2 hl3
  go_wp2_with fail
  go_upto_region 4 with (fail)
  go_cut [5, 9, 10, 11, 12] (fun s5 _ _ _ _ wc => ∃ g : Nat, w1.heap.size ≤ g ∧ g < wc.heap.size ∧ s5 = .pointer (some ⟨g, 0, none⟩) ∧ wc.cell? ⟨g, 0, none⟩ = some (.string wd) ∧ wc.cell? ⟨g, 2, none⟩ = some (.func (.func j) #[] #[]) ∧ Below w1.heap.size w1 wc)
  case first =>
    go_region_with (go_at_call 23; refine (schemes_calls _).mono ?_; rintro e w' ⟨rfl, rfl⟩)
    all_goals go_wp2
    all_goals go_meet
    all_goals (case rel => exact ⟨_, by first | exact Nat.le_refl _ | exact Nat.le_succ _, by first | (simp; done) | (simp; omega), rfl, by first | rfl | (simp; done), by first | rfl | (simp; done), by repeat (first | exact Below.refl _ _ | apply b_alloc | apply Below.drew)⟩)
  case rest =>
    obtain ⟨g, hg, hglt, rfl, hg0, hg2, hbw⟩ := hcut
    have hz := (hbw.block _ hlt).trans hb0'
    have z0 := cell_blk hz 0
    have z1 := cell_blk hz 1
    have z2 := cell_blk hz 2
    have z3 := cell_blk hz 3
    have z4 := cell_blk hz 4
    simp at z0 z1 z2 z3 z4
    have hltw : w.heap.size < wc.heap.size := Nat.lt_of_lt_of_le hlt hbw.size
    clear hcA hcB hc0 hb0' hl1 hl2 hl3 hz hlt
    go_wp2_with fail
    go_region_with (first | ((with_reducible refine (HC.out _ (HL.out.below (hB.trans ((hbw.drew).mono hB.size)))).mono ?_); rintro e w2 ⟨rfl, hb2⟩; have y0 : w2.cell? ⟨g, 0, none⟩ = some (.string wd) := (hb2.cell (p := ⟨g, 0, none⟩) hglt).trans hg0; have HB2 := Lib.hid hb2; clear hb2))
    all_goals go_wp2
    all_goals go_ret3
    all_goals exact ⟨rfl, hB.trans (((hbw.drew).trans (HB2.out.mono hbw.size)).mono hB.size)⟩

end Go.Proofs.YtandbobinjhehaaDoor.Hand

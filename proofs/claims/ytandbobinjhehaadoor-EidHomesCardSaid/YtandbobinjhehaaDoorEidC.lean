/- Layer 6, by hand: eid.Right. -/
import Derived.Test.YtandbobinjhehaaDoorEidB
import Derived.Deep.RegionWith
import Derived.Deep.RegionHeld3
import Derived.BigRegion
import Derived.Deep.DeepCutAuto
import Derived.Deep.CutBlock
import Derived.Laws.EntriesVeiled
namespace Go.Proofs.YtandbobinjhehaaDoor.Hand
open Go.RowKit Go.Proofs.YtandbobinjhehaaDoor.SA

/-- What the schemes' map answers. -/
def schAt (n : Int) : Option Value := if n = 0 then some sch0 else if n = 1 then some sch1 else if n = 2 then some sch2 else none
def schZ : Value := .agg #[.string ⟨#[]⟩, .nilFunc, .nilFunc, .nilFunc]

theorem zero_sch (W : World) : (zeroValue 43).run Tryd.prog W = .ok schZ W := by kernel_rfl

theorem look_sch (n : Int) (ok : Bool) (W : World) (b : Nat) (hb : W.heap[b]? = some (.map schs 3)) :
    (Instr.lookup 44 (.map (some b)) (.int .i64 n) ok).run Tryd.prog W = .ok (match schAt n with | some v => if ok then .tuple #[v, .bool true] else v | none => if ok then .tuple #[schZ, .bool false] else schZ) W := by
  unfold schAt
  by_cases h0 : n = 0
  · subst h0
    exact run_lookup_hit W b schs 3 _ _ _ _ _ sch0 0 ok Tryd.underlying44 Tryd.underlying3 (fun e W => run_checkKey_int W _ _ Tryd.underlying3 e _ _) hb rfl
  by_cases h1 : n = 1
  · subst h1
    exact run_lookup_hit W b schs 3 _ _ _ _ _ sch1 1 ok Tryd.underlying44 Tryd.underlying3 (fun e W => run_checkKey_int W _ _ Tryd.underlying3 e _ _) hb rfl
  by_cases h2 : n = 2
  · subst h2
    exact run_lookup_hit W b schs 3 _ _ _ _ _ sch2 2 ok Tryd.underlying44 Tryd.underlying3 (fun e W => run_checkKey_int W _ _ Tryd.underlying3 e _ _) hb rfl
  rw [if_neg h0, if_neg h1, if_neg h2]
  refine run_lookup_miss W b schs 3 _ _ _ _ _ schZ ok Tryd.underlying44 Tryd.underlying3 (fun e W => run_checkKey_int W _ _ Tryd.underlying3 e _ _) hb zero_sch ?_
  have e0 : (n == 0) = false := beq_eq_false_iff_ne.2 h0
  have e1 : (n == 1) = false := beq_eq_false_iff_ne.2 h1
  have e2 : (n == 2) = false := beq_eq_false_iff_ne.2 h2
  simp [schs, Instr.findNow, Instr.sameNow, e0, e1, e2]

def schOf (wd : ByteArray) (i j k : Nat) : Value := .agg #[.string wd, .func (.func i) #[] #[], .func (.func j) #[] #[], .func (.func k) #[] #[]]

/-- What the look-up of a scheme that is there needs of the worlds in which it may be made. -/
theorem look_some {n : Int} {wd : ByteArray} {i j k : Nat} (hs : schAt n = some (schOf wd i j k)) (ok : Bool) (W : World) (b : Nat) (hb : W.heap[b]? = some (.map schs 3)) :
    (Instr.lookup 44 (.map (some b)) (.int .i64 n) ok).run Tryd.prog W = .ok (if ok then .tuple #[schOf wd i j k, .bool true] else schOf wd i j k) W := by
  have h := look_sch n ok W b hb
  rw [hs] at h
  exact h

set_option maxRecDepth 100000 in
set_option maxHeartbeats 2000000 in
theorem right_some (n : Int) (a0_1 a0_2 : ByteArray) (a0_3 a0_4 : Int) (wd : ByteArray) (i j k : Nat) (hs : schAt n = some (schOf wd i j k)) (r : Bool) (hent : ∀ args w, (callFunc i args).run Tryd.prog w = .ok (.enter i args) w)
    (hcall : ∀ W : World, Calls Tryd.prog i #[.agg #[.int .i64 n, .string a0_1, .string a0_2, .int .i64 a0_3, .int .i64 a0_4]] W fun e w' => e = .returned (.bool r) ∧ Below W.heap.size W w') (w : World) :
    Calls Tryd.prog 21 #[.agg #[.int .i64 n, .string a0_1, .string a0_2, .int .i64 a0_3, .int .i64 a0_4]] w fun e w' => e = .returned (.bool r) ∧ Below w.heap.size w w' := by
  have hu := Tryd.underlying23
  have hus := Tryd.underlying43
  have HC := Lib.hid hcall
  clear hcall
  have HLK := Lib.hid (look_some hs true)
  clear hs
  go_enter Tryd.func21, Tryd.ntmps21
  go_wp2
  obtain ⟨w1, hw1⟩ : ∃ w1, w1 = w.alloc (.cells #[.int .i64 n, .string a0_1, .string a0_2, .int .i64 a0_3, .int .i64 a0_4] 23) := ⟨_, rfl⟩
  have hB : Below w.heap.size w w1 := by rw [hw1]; exact (Below.refl _ _).alloc (Nat.le_refl _) _
  have hc0 : w1.cell? ⟨w.heap.size, 0, none⟩ = some (.int .i64 n) := by rw [hw1]; simp
  have hb0 : w1.heap[w.heap.size]? = some (.cells #[.int .i64 n, .string a0_1, .string a0_2, .int .i64 a0_3, .int .i64 a0_4] 23) := by rw [hw1]; exact World.alloc_heap_new _ _
  have hlt : w.heap.size < w1.heap.size := by rw [hw1]; simp
  have hcA : ∀ o, (w1.alloc o).cell? ⟨w.heap.size, 0, none⟩ = some (.int .i64 n) := fun o => by rw [World.cell?_alloc_past _ _ _ hlt]; exact hc0
  have hcB : ∀ o o', ((w1.alloc o).alloc o').cell? ⟨w.heap.size, 0, none⟩ = some (.int .i64 n) := fun o o' => by rw [World.cell?_alloc_past _ _ _ (by simp; omega)]; exact hcA o
  rw [← hw1]
  clear hw1
  have hl1 : (Instr.lookup 44 (.map (some w1.heap.size)) (.int .i64 n) true).run Tryd.prog (w1.alloc (.map schs 3)).drew = .ok (.tuple #[schOf wd i j k, .bool true]) (w1.alloc (.map schs 3)).drew := HLK.out _ _ (World.alloc_heap_new _ _)
  have hl2 : ∀ o, (Instr.lookup 44 (.map (some w1.heap.size)) (.int .i64 n) true).run Tryd.prog ((w1.alloc (.map schs 3)).alloc o).drew = .ok (.tuple #[schOf wd i j k, .bool true]) ((w1.alloc (.map schs 3)).alloc o).drew := fun o => HLK.out _ _ ((Below.heap_alloc _ _ _ (by simp)).trans (World.alloc_heap_new _ _))
  have hl3 : ∀ o, (Instr.lookup 44 (.map (some (w1.heap.size + 1))) (.int .i64 n) true).run Tryd.prog ((w1.alloc o).alloc (.map schs 3)).drew = .ok (.tuple #[schOf wd i j k, .bool true]) ((w1.alloc o).alloc (.map schs 3)).drew := fun o => HLK.out _ _ (by have := World.alloc_heap_new (w1.alloc o) (.map schs 3); rwa [World.size_alloc] at this)
  simp only [schOf] at hl1 hl2 hl3
  go_upto_region 2 with (fail)
  go_cut [3, 4, 5, 6, 7, 8, 9, 10, 11] (fun s3 s4 _ _ _ _ _ _ _ wc => ∃ g : Nat, w1.heap.size ≤ g ∧ s3 = .pointer (some ⟨g, 0, none⟩) ∧ s4 = .bool true ∧ wc.cell? ⟨g, 1, none⟩ = some (.func (.func i) #[] #[]) ∧ Below w1.heap.size w1 wc)
  case first =>
    go_region_with (go_at_call 23; refine (schemes_calls _).mono ?_; rintro e w' ⟨rfl, rfl⟩)
    all_goals go_wp2
    all_goals go_meet
    all_goals (case rel => exact ⟨_, by first | exact Nat.le_refl _ | exact Nat.le_succ _, rfl, rfl, by first | rfl | (simp; done), by repeat (first | exact Below.refl _ _ | apply b_alloc | apply Below.drew)⟩)
  case rest =>
    obtain ⟨g, hg, rfl, rfl, hcell, hbw⟩ := hcut
    have hz := (hbw.block _ hlt).trans hb0
    have z0 := cell_blk hz 0
    have z1 := cell_blk hz 1
    have z2 := cell_blk hz 2
    have z3 := cell_blk hz 3
    have z4 := cell_blk hz 4
    simp at z0 z1 z2 z3 z4
    clear hcA hcB hc0 hb0 hl1 hl2 hl3 hz hlt
    go_wp2_with (first | ((with_reducible refine (HC.out _).mono ?_); rintro e w2 ⟨rfl, hb2⟩))
    go_ret
    exact ⟨rfl, hB.trans ((hbw.trans (hb2.mono hbw.size)).mono hB.size)⟩

theorem look_none {n : Int} (hs : schAt n = none) (ok : Bool) (W : World) (b : Nat) (hb : W.heap[b]? = some (.map schs 3)) :
    (Instr.lookup 44 (.map (some b)) (.int .i64 n) ok).run Tryd.prog W = .ok (if ok then .tuple #[schZ, .bool false] else schZ) W := by
  have h := look_sch n ok W b hb
  rw [hs] at h
  exact h

set_option maxRecDepth 100000 in
set_option maxHeartbeats 2000000 in
theorem right_none (n : Int) (a0_1 a0_2 : ByteArray) (a0_3 a0_4 : Int) (hs : schAt n = none) (w : World) :
    Calls Tryd.prog 21 #[.agg #[.int .i64 n, .string a0_1, .string a0_2, .int .i64 a0_3, .int .i64 a0_4]] w fun e w' => e = .returned (.bool false) ∧ Below w.heap.size w w' := by
  have hu := Tryd.underlying23
  have hus := Tryd.underlying43
  have HLK := Lib.hid (look_none hs true)
  clear hs
  go_enter Tryd.func21, Tryd.ntmps21
  go_wp2
  obtain ⟨w1, hw1⟩ : ∃ w1, w1 = w.alloc (.cells #[.int .i64 n, .string a0_1, .string a0_2, .int .i64 a0_3, .int .i64 a0_4] 23) := ⟨_, rfl⟩
  have hB : Below w.heap.size w w1 := by rw [hw1]; exact (Below.refl _ _).alloc (Nat.le_refl _) _
  have hc0 : w1.cell? ⟨w.heap.size, 0, none⟩ = some (.int .i64 n) := by rw [hw1]; simp
  have hb0 : w1.heap[w.heap.size]? = some (.cells #[.int .i64 n, .string a0_1, .string a0_2, .int .i64 a0_3, .int .i64 a0_4] 23) := by rw [hw1]; exact World.alloc_heap_new _ _
  have hlt : w.heap.size < w1.heap.size := by rw [hw1]; simp
  have hcA : ∀ o, (w1.alloc o).cell? ⟨w.heap.size, 0, none⟩ = some (.int .i64 n) := fun o => by rw [World.cell?_alloc_past _ _ _ hlt]; exact hc0
  have hcB : ∀ o o', ((w1.alloc o).alloc o').cell? ⟨w.heap.size, 0, none⟩ = some (.int .i64 n) := fun o o' => by rw [World.cell?_alloc_past _ _ _ (by simp; omega)]; exact hcA o
  rw [← hw1]
  clear hw1
  have hl1 : (Instr.lookup 44 (.map (some w1.heap.size)) (.int .i64 n) true).run Tryd.prog (w1.alloc (.map schs 3)).drew = .ok (.tuple #[schZ, .bool false]) (w1.alloc (.map schs 3)).drew := HLK.out _ _ (World.alloc_heap_new _ _)
  have hl2 : ∀ o, (Instr.lookup 44 (.map (some w1.heap.size)) (.int .i64 n) true).run Tryd.prog ((w1.alloc (.map schs 3)).alloc o).drew = .ok (.tuple #[schZ, .bool false]) ((w1.alloc (.map schs 3)).alloc o).drew := fun o => HLK.out _ _ ((Below.heap_alloc _ _ _ (by simp)).trans (World.alloc_heap_new _ _))
  have hl3 : ∀ o, (Instr.lookup 44 (.map (some (w1.heap.size + 1))) (.int .i64 n) true).run Tryd.prog ((w1.alloc o).alloc (.map schs 3)).drew = .ok (.tuple #[schZ, .bool false]) ((w1.alloc o).alloc (.map schs 3)).drew := fun o => HLK.out _ _ (by have := World.alloc_heap_new (w1.alloc o) (.map schs 3); rwa [World.size_alloc] at this)
  simp only [schZ] at hl1 hl2 hl3
  go_upto_region 2 with (fail)
  go_cut [3, 4, 5, 6, 7, 8, 9, 10, 11] (fun s3 s4 _ _ _ _ _ _ _ wc => ∃ g : Nat, w1.heap.size ≤ g ∧ s3 = .pointer (some ⟨g, 0, none⟩) ∧ s4 = .bool false ∧ Below w1.heap.size w1 wc)
  case first =>
    go_region_with (go_at_call 23; refine (schemes_calls _).mono ?_; rintro e w' ⟨rfl, rfl⟩)
    all_goals go_wp2
    all_goals go_meet
    all_goals (case rel => exact ⟨_, by first | exact Nat.le_refl _ | exact Nat.le_succ _, rfl, rfl, by repeat (first | exact Below.refl _ _ | apply b_alloc | apply Below.drew)⟩)
  case rest =>
    obtain ⟨g, hg, rfl, rfl, hbw⟩ := hcut
    clear hcA hcB hc0 hb0 hl1 hl2 hl3 hlt
    go_wp2
    go_ret
    exact ⟨rfl, hB.trans (hbw.mono hB.size)⟩

end Go.Proofs.YtandbobinjhehaaDoor.Hand

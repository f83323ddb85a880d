import Derived.Test.YtbjbicaffblchaaGreatDoorZDictBuilds4
import Derived.ArgAppend
import Derived.Below
import Derived.BigQuiet
import Derived.Deep.AppendLies
import Derived.Deep.CutBlock
import Derived.Deep.DeepCutAuto
import Derived.Deep.Draws
import Derived.Deep.LoopGhost
import Derived.Deep.OwnRows
import Derived.Deep.QuietTactic
import Derived.Deep.RegionHeld3
import Derived.KernelRfl
import Derived.Laws.BitsLemmas
import Derived.Laws.BytesArg
import Derived.Laws.IdiomCopy
import Derived.Laws.MakeOwn
import Derived.Laws.OwnMore
import Derived.Laws.Rows
import Derived.Laws.Slices
import Derived.Lib.AppendStr
import Derived.Lib.ConvBytes
import Derived.Maps.AppendAt
import Derived.OrdersHeld
import Derived.OwnWalk
import Derived.RowKit
import Derived.RowKit3
import Derived.Tactics
import Derived.Test.YtbjbicaffblchaaGreatDoorProg
import Derived.WalkKit
import Derived.WideLaws
section
namespace Go.Proofs.YtbjbicaffblchaaGreatDoor.SR
open Go.Proofs.YtbjbicaffblchaaGreatDoor.Hand
open Go.Proofs.YtbjbicaffblchaaGreatDoor.SA
open Go.Proofs.YtbjbicaffblchaaGreatDoor.SK
open Go.RowKit Go.Proofs.YtbjbicaffblchaaGreatDoorW.PrintWords Go.Proofs.YtbjbicaffblchaaGreatDoorW.PrintLast Go.Proofs.YtbjbicaffblchaaGreatDoorW.PrintMore
attribute [local go_sem] max2_int min2_int max_two min_two max_three min_three max_four min_four
set_option linter.unusedVariables false
set_option linter.unusedSimpArgs false
mutual
def postriderref07_Read.l0 : Nat → ByteArray → List Int → List (S41) → Int → Option ((List (S41)) × Int)
  | 0, _, _, _, _ => none
  | k + 1, x0, x1, x6, x7 => if (wrap64 (x7 + 1)) < (x1.length : Int) then (postriderref07_Read.j1 k x0 x1 x6 x7 (decide (x7 < 60))) else (postriderref07_Read.j1 k x0 x1 x6 x7 false)
def postriderref07_Read.j1 : Nat → ByteArray → List Int → List (S41) → Int → Bool → Option ((List (S41)) × Int)
  | 0, _, _, _, _, _ => none
  | k + 1, x0, x1, x6, x7, x20 => if x20 = true then (if x0.toList = ([] : List UInt8) then (if 0 ≤ x7 then (if x7 < (x1.length : Int) then (if (rd x1 x7) = 0 then (if x6.length < 2513169434916 then (postriderref07_Read.l0 k x0 x1 (x6 ++ [(⟨0, (⟨#[]⟩ : ByteArray), (⟨#[]⟩ : ByteArray), 0, 0⟩ : S41)]) (wrap64 (x7 + 2))) else (none)) else (if 0 ≤ (wrap64 (x7 + 1)) then (if (wrap64 (x7 + 1)) < (x1.length : Int) then (if x6.length < 2513169434916 then (postriderref07_Read.l0 k x0 x1 (x6 ++ [(⟨2, (⟨#[]⟩ : ByteArray), (⟨#[]⟩ : ByteArray), rd x1 x7, rd x1 (wrap64 (x7 + 1))⟩ : S41)]) (wrap64 (x7 + 2))) else (none)) else (none)) else (none))) else (none)) else (none)) else (if 0 ≤ x7 then (if x7 < (x1.length : Int) then ((postriderref07_textAt.f k x0 (rd x1 x7)).bind fun t170 => (if 0 ≤ (wrap64 (x7 + 1)) then (if (wrap64 (x7 + 1)) < (x1.length : Int) then ((postriderref07_textAt.f k x0 (rd x1 (wrap64 (x7 + 1)))).bind fun t172 => ((postriderref06_Join.f k t170 t172).bind fun bt173 => (if x6.length < 2513169434916 then (postriderref07_Read.l0 k x0 x1 (x6 ++ [(⟨bt173.1, bt173.2.1, bt173.2.2.1, bt173.2.2.2.1, bt173.2.2.2.2.1⟩ : S41)]) (wrap64 (x7 + 2))) else (none)))) else (none)) else (none))) else (none)) else (none))) else ((postriderref07_Build.f k x6).bind fun bt182 => (if bt182.2.2 = 0 then (if bt182.1.toList = x0.toList then ((postriderref02_Ints.f k bt182.2.1 x1).bind fun t187 => (if t187 = true then (some (x6, 0)) else (some (([] : List (S41)), 70)))) else (some (([] : List (S41)), 70))) else (some (([] : List (S41)), 70))))
end
def postriderref07_Read.f (k : Nat) (a0 : ByteArray) (l1 : List Int) : Option ((List (S41)) × Int) := postriderref07_Read.l0 k a0 l1 ([] : List (S41)) 0
theorem postriderref07_Read.mono_l : ∀ k, (∀ y0 y1 y2 y3, LeO (postriderref07_Read.l0 k y0 y1 y2 y3) (postriderref07_Read.l0 (k + 1) y0 y1 y2 y3)) ∧ (∀ y0 y1 y2 y3 y4, LeO (postriderref07_Read.j1 k y0 y1 y2 y3 y4) (postriderref07_Read.j1 (k + 1) y0 y1 y2 y3 y4))
  | 0 => ⟨fun _ _ _ _ r h => by simp [postriderref07_Read.l0] at h, fun _ _ _ _ _ r h => by simp [postriderref07_Read.j1] at h⟩
  | k + 1 => by
    obtain ⟨ih0, ih1⟩ := postriderref07_Read.mono_l k
    refine ⟨?_, ?_⟩
    · intro y0 y1 y2 y3
      unfold postriderref07_Read.l0
      repeat' first
      | (with_reducible exact ih0 _ _ _ _)
      | (with_reducible exact ih1 _ _ _ _ _)
      | (with_reducible exact postriderref02_Ints.mono _ _ _)
      | (with_reducible exact postriderref06_Join.mono _ _ _)
      | (with_reducible exact postriderref07_Build.mono _ _)
      | (with_reducible exact postriderref07_textAt.mono _ _ _)
      | (with_reducible exact LeO.refl _)
      | (with_reducible exact LeO.none _)
      | (with_reducible refine LeO.ite ?_ ?_)
      | (with_reducible refine LeO.bind ?_ (fun _ => ?_))
      | exact ih0 _ _ _ _
      | exact ih1 _ _ _ _ _
      | exact postriderref02_Ints.mono _ _ _
      | exact postriderref06_Join.mono _ _ _
      | exact postriderref07_Build.mono _ _
      | exact postriderref07_textAt.mono _ _ _
      | exact LeO.none _
      | refine LeO.ite ?_ ?_
      | refine LeO.bind ?_ (fun _ => ?_)
    · intro y0 y1 y2 y3 y4
      unfold postriderref07_Read.j1
      repeat' first
      | (with_reducible exact ih0 _ _ _ _)
      | (with_reducible exact ih1 _ _ _ _ _)
      | (with_reducible exact postriderref02_Ints.mono _ _ _)
      | (with_reducible exact postriderref06_Join.mono _ _ _)
      | (with_reducible exact postriderref07_Build.mono _ _)
      | (with_reducible exact postriderref07_textAt.mono _ _ _)
      | (with_reducible exact LeO.refl _)
      | (with_reducible exact LeO.none _)
      | (with_reducible refine LeO.ite ?_ ?_)
      | (with_reducible refine LeO.bind ?_ (fun _ => ?_))
      | exact ih0 _ _ _ _
      | exact ih1 _ _ _ _ _
      | exact postriderref02_Ints.mono _ _ _
      | exact postriderref06_Join.mono _ _ _
      | exact postriderref07_Build.mono _ _
      | exact postriderref07_textAt.mono _ _ _
      | exact LeO.none _
      | refine LeO.ite ?_ ?_
      | refine LeO.bind ?_ (fun _ => ?_)
theorem postriderref07_Read.mono : ∀ a0 a1 k, LeO (postriderref07_Read.f k a0 a1) (postriderref07_Read.f (k + 1) a0 a1) := by
  intro a0 a1 k
  obtain ⟨ih0, ih1⟩ := postriderref07_Read.mono_l k
  unfold postriderref07_Read.f
  repeat' first
      | (with_reducible exact ih0 _ _ _ _)
      | (with_reducible exact ih1 _ _ _ _ _)
      | (with_reducible exact postriderref02_Ints.mono _ _ _)
      | (with_reducible exact postriderref06_Join.mono _ _ _)
      | (with_reducible exact postriderref07_Build.mono _ _)
      | (with_reducible exact postriderref07_textAt.mono _ _ _)
      | (with_reducible exact LeO.refl _)
      | (with_reducible exact LeO.none _)
      | (with_reducible refine LeO.ite ?_ ?_)
      | (with_reducible refine LeO.bind ?_ (fun _ => ?_))
      | exact ih0 _ _ _ _
      | exact ih1 _ _ _ _ _
      | exact postriderref02_Ints.mono _ _ _
      | exact postriderref06_Join.mono _ _ _
      | exact postriderref07_Build.mono _ _
      | exact postriderref07_textAt.mono _ _ _
      | exact LeO.none _
      | refine LeO.ite ?_ ?_
      | refine LeO.bind ?_ (fun _ => ?_)
def postriderref07_Read.T7 : Bool × List (List Nat × List Nat) := (true, [([], []), ([], []), ([], []), ([1, 2], [1, 2]), ([3], [3]), ([0, 4], [0, 4]), ([], []), ([], []), ([], []), ([8], [8]), ([7, 9], [7, 9]), ([10], [10]), ([6, 11, 5], [6, 11]), ([5, 12, 12], [5, 12]), ([13], [13]), ([14], [14]), ([14], [14]), ([15, 13, 0, 1, 2, 3, 4, 5, 6, 7, 8, 9, 10, 11, 12, 13, 14, 15], [15])])
def postriderref07_Read.B7 : List Nat := [0, 0, 0, 6, 14, 31, 0, 0, 0, 256, 896, 1920, 4095, 8191, 16383, 32767, 32767, 65535]
theorem postriderref07_Read.tab7 : rtab .any (opsOf Tryz.f15 7) = postriderref07_Read.T7 := by kernel_rfl
theorem postriderref07_Read.bits7 : waitsOk postriderref07_Read.T7.2 postriderref07_Read.B7 = true := by kernel_rfl
def postriderref07_Read.T9 : Bool × List (List Nat × List Nat) := (true, [([], []), ([], []), ([0, 1], [0, 1]), ([2], [2]), ([], []), ([], []), ([5], [5]), ([4, 6], [4, 6]), ([7], [7]), ([3, 8], [3, 8]), ([9, 0, 1, 2, 3, 4, 5, 6, 7, 8, 9], [9])])
def postriderref07_Read.B9 : List Nat := [0, 0, 3, 7, 0, 0, 32, 112, 240, 511, 1023]
theorem postriderref07_Read.tab9 : rtab .any (opsOf Tryz.f15 9) = postriderref07_Read.T9 := by kernel_rfl
theorem postriderref07_Read.bits9 : waitsOk postriderref07_Read.T9.2 postriderref07_Read.B9 = true := by kernel_rfl
set_option maxHeartbeats 8000000 in
set_option maxRecDepth 100000 in
theorem postriderref07_Read.calls (k : Nat) (a0 : ByteArray) (A1 : Option Addr) (c1 : Nat) (l1 : List Int) (r1 : List (S41)) (r2 : Int) (w : World) (hr1 : Kd.C (Kd.int .i64) w A1 l1.length l1) (hc1 : l1.length ≤ c1) (h : postriderref07_Read.f k a0 l1 = some (r1, r2)) :
    Calls Tryz.prog 15 #[.string a0, .slice A1 l1.length c1] w fun e w' => ∃ v0_ : Value, e = .returned (.tuple #[v0_, .int .i64 r2]) ∧ Kd.R k41 41 w' w.heap.size (fun _ => True) v0_ r1 ∧ Below w.heap.size w w' := by
  have hu41 := Tryz.underlying41
  have HR1 := Aside0.mk hr1
  have HC1 := Aside0.mk hc1
  clear hr1 hc1
  have HB := Aside0.mk (Below.refl w.heap.size w)
  have H : (postriderref07_Read.l0 k a0 l1 ([] : List (S41)) 0) = some (r1, r2) := h
  clear h
  have H' := Aside0.mk H
  clear H
  go_enter Tryz.func15, Tryz.ntmps15
  go_wp2
  go_loopg [6, 7] k (fun kq v6 v7 w' => ∃ (x6_1 : List (S41)) (x7_1 : Int), v7 = .int .i64 x7_1 ∧ Aside0 (postriderref07_Read.l0 kq a0 l1 x6_1 x7_1 = some (r1, r2)) ∧ Aside0 (kq ≤ k) ∧ Aside0 (Kd.R k41 41 w' w.heap.size (fun _ => True) v6 x6_1) ∧ Aside0 (Below w.heap.size w w'))
  case atStart => exact ⟨(([] : List (S41))), (0), (by first | rfl | (simp; done) | (simp [*]; done)), H', ⟨Nat.le_refl _⟩, ⟨by first | exact Kd.R_nil _ _ _ _ _ | exact Kd.N_nil _ _ _ _ _ | exact Kd.V_nil _ _ _ _ _ | exact Kd.Q_nil _ _ _ _ _ | exact Kd.S_nil _ _ _ _ _⟩, ⟨by repeat (first | (with_reducible first | exact HB.out | apply below_alloc | apply pw_below_drewN | apply below_drew1) | exact HB.out)⟩⟩
  case round =>
    clear H'
    try clear c1
    try clear p2
    obtain ⟨x6_1, x7_1, rfl, HA, HK1, HO_6, HB⟩ := hrel
    cases gk with
    | zero => exact absurd HA.out (by simp [postriderref07_Read.l0])
    | succ k1 =>
      have H := HA.out
      clear HA
      simp only [postriderref07_Read.l0] at H
      have HC3 := Aside0.mk H
      clear H
      go_upto_region 3 with (fail)
      go_cut [20] (fun v20 wc => ∃ (kq : Nat) (x20_2 : Bool), v20 = .bool x20_2 ∧ Aside0 (postriderref07_Read.j1 kq a0 l1 x6_1 x7_1 x20_2 = some (r1, r2)) ∧ Aside0 (kq ≤ k1) ∧ Aside0 (Kd.R k41 41 wc w.heap.size (fun _ => True) u6 x6_1) ∧ Aside0 (Below w.heap.size w wc))
      case first =>
        have H := HC3.out
        clear HC3
        by_cases c4 : (wrap64 (x7_1 + 1)) < (l1.length : Int)
        · rw [if_pos c4] at H
          have c4b0 : decide ((wrap64 (x7_1 + 1)) < (l1.length : Int)) = true := decide_eq_true c4
          clear c4
          (first | rw [c4b0] | (simp only [i64_w, i32_w]; rw [c4b0]) | skip)
          have H' := Aside0.mk H
          clear H
          go_wp2
          go_meet
          case rel => exact ⟨_, (decide (x7_1 < 60)), (by first | rfl | (simp; done) | (simp [*]; done)), H', ⟨by have := HK1.out; first | omega | exact Nat.le_refl _⟩, ⟨by (with_reducible repeat (first | apply Kd.R_alloc | apply Kd.R_drewN | apply Kd.R_drew)); exact HO_6.out⟩, ⟨by repeat (first | (with_reducible first | exact HB.out | apply below_alloc | apply pw_below_drewN | apply below_drew1) | exact HB.out)⟩⟩
        · rw [if_neg c4] at H
          have c4b0 : decide ((wrap64 (x7_1 + 1)) < (l1.length : Int)) = false := decide_eq_false c4
          clear c4
          (first | rw [c4b0] | (simp only [i64_w, i32_w]; rw [c4b0]) | skip)
          have H' := Aside0.mk H
          clear H
          go_wp2
          go_meet
          case rel => exact ⟨_, (false), (by first | rfl | (simp; done) | (simp [*]; done)), H', ⟨by have := HK1.out; first | omega | exact Nat.le_refl _⟩, ⟨by (with_reducible repeat (first | apply Kd.R_alloc | apply Kd.R_drewN | apply Kd.R_drew)); exact HO_6.out⟩, ⟨by repeat (first | (with_reducible first | exact HB.out | apply below_alloc | apply pw_below_drewN | apply below_drew1) | exact HB.out)⟩⟩
      case rest =>
        clear HC3
        try clear c1
        try clear p2
        try clear c4
        try clear c4b0
        try clear p2
        obtain ⟨kq, x20_2, rfl, HA, HJ2, HO_6, HB⟩ := hcut
        cases kq with
        | zero => exact absurd HA.out (by simp [postriderref07_Read.j1])
        | succ kj2 =>
          have H := HA.out
          clear HA
          simp only [postriderref07_Read.j1] at H
          by_cases c5 : x20_2 = true
          · subst c5
            have H1 : (if a0.toList = ([] : List UInt8) then (if 0 ≤ x7_1 then (if x7_1 < (l1.length : Int) then (if (rd l1 x7_1) = 0 then (if x6_1.length < 2513169434916 then (postriderref07_Read.l0 kj2 a0 l1 (x6_1 ++ [(⟨0, (⟨#[]⟩ : ByteArray), (⟨#[]⟩ : ByteArray), 0, 0⟩ : S41)]) (wrap64 (x7_1 + 2))) else (none)) else (if 0 ≤ (wrap64 (x7_1 + 1)) then (if (wrap64 (x7_1 + 1)) < (l1.length : Int) then (if x6_1.length < 2513169434916 then (postriderref07_Read.l0 kj2 a0 l1 (x6_1 ++ [(⟨2, (⟨#[]⟩ : ByteArray), (⟨#[]⟩ : ByteArray), rd l1 x7_1, rd l1 (wrap64 (x7_1 + 1))⟩ : S41)]) (wrap64 (x7_1 + 2))) else (none)) else (none)) else (none))) else (none)) else (none)) else (if 0 ≤ x7_1 then (if x7_1 < (l1.length : Int) then ((postriderref07_textAt.f kj2 a0 (rd l1 x7_1)).bind fun t170 => (if 0 ≤ (wrap64 (x7_1 + 1)) then (if (wrap64 (x7_1 + 1)) < (l1.length : Int) then ((postriderref07_textAt.f kj2 a0 (rd l1 (wrap64 (x7_1 + 1)))).bind fun t172 => ((postriderref06_Join.f kj2 t170 t172).bind fun bt173 => (if x6_1.length < 2513169434916 then (postriderref07_Read.l0 kj2 a0 l1 (x6_1 ++ [(⟨bt173.1, bt173.2.1, bt173.2.2.1, bt173.2.2.2.1, bt173.2.2.2.2.1⟩ : S41)]) (wrap64 (x7_1 + 2))) else (none)))) else (none)) else (none))) else (none)) else (none))) = some (r1, r2) := by rw [if_pos rfl] at H; exact H
            clear H
            have H := H1
            clear H1
            by_cases c6 : a0.toList = ([] : List UInt8)
            · rw [if_pos c6] at H
              have c6b0 : (a0.toList == ([] : List UInt8)) = true := beq_iff_eq.mpr c6
              have c6b1 : (a0.toList != ([] : List UInt8)) = false := bne_eq_false_iff_eq.mpr c6
              clear c6
              by_cases c7 : 0 ≤ x7_1
              · rw [if_pos c7] at H
                have c7b0 : decide (0 ≤ x7_1) = true := decide_eq_true c7
                clear c7
                by_cases c8 : x7_1 < (l1.length : Int)
                · rw [if_pos c8] at H
                  have c8b0 : decide (x7_1 < (l1.length : Int)) = true := decide_eq_true c8
                  clear c8
                  by_cases c9 : (rd l1 x7_1) = 0
                  · rw [if_pos c9] at H
                    have c9b0 : ((rd l1 x7_1) == 0) = true := beq_iff_eq.mpr c9
                    have c9b1 : ((rd l1 x7_1) != 0) = false := bne_eq_false_iff_eq.mpr c9
                    clear c9
                    by_cases c10 : x6_1.length < 2513169434916
                    · rw [if_pos c10] at H
                      have LMc10 := Aside0.mk c10
                      clear c10
                      obtain ⟨y161, hy161⟩ : ∃ y_ : List (S41), y_ = (x6_1 ++ [(⟨0, (⟨#[]⟩ : ByteArray), (⟨#[]⟩ : ByteArray), 0, 0⟩ : S41)]) := ⟨_, rfl⟩
                      replace H : (postriderref07_Read.l0 kj2 a0 l1 y161 (wrap64 (x7_1 + 2))) = some (r1, r2) := by first | (rw [hy161]; with_reducible exact H) | (have H2_ := (Option.bind_some _ _).symm.trans H; rw [hy161]; with_reducible exact H2_) | (have H2_ := (Option.bind_some _ _).symm.trans H; with_reducible exact H2_) | with_reducible exact H | (rw [hy161]; exact H) | exact H
                      have Ny161 := Aside0.mk hy161
                      clear hy161
                      have H' := Aside0.mk H
                      clear H
                      go_wp2_with (first | ((with_reducible refine gate_dst (N := 8) rfl ?_); refine box_event ?hg (N := 8) ?hd (cs := #[.int .i64 0, .string (⟨#[]⟩ : ByteArray), .string (⟨#[]⟩ : ByteArray), .int .i64 0, .int .i64 0]) (t := 41) ?hr ?_; (case hd => rfl); (case hg => rfl); (case hr => first | (go_simp; done) | (go_simp; rfl) | (go_simp; simp only [isEmpty_ne, isEmpty_eq]; done) | (go_simp; simp only [isEmpty_ne, isEmpty_eq]; rfl)); intro gb159 hg w11 hbox hb; have n0_ := Aside0.mk (Kd.R_below (Kd.R_elderB (by (with_reducible repeat (first | apply Kd.R_alloc | apply Kd.R_drewN | apply Kd.R_drew)); exact HO_6.out) gb159 (Nat.le_of_eq hg.symm)) hb); have n1_ := Aside0.mk (below_step (by repeat (first | (with_reducible first | exact HB.out | apply below_alloc | apply pw_below_drewN | apply below_drew1) | exact HB.out)) hb); have n2_ := Aside0.mk (hbox); have n3_ := Aside0.mk ((by rw [hg]; exact (below_size (by repeat (first | (with_reducible first | exact HB.out | apply below_alloc | apply pw_below_drewN | apply below_drew1) | exact HB.out))) : w.heap.size ≤ gb159)); have n4_ := Aside0.mk ((by rw [hg]; exact (below_size (by repeat (first | (with_reducible first | exact HB.out | apply below_alloc | apply pw_below_drewN | apply below_drew1) | exact HB.out))) : w.heap.size ≤ gb159)); clear HO_6; clear HB; have HO_6 := n0_; have HB := n1_; have BK159 := n2_; have GW159 := n3_; have GE159 := n4_; clear n0_ n1_ n2_ n3_ n4_; clear hb hbox hg; have hcz12_0 : w11.cell? ⟨gb159, 0, none⟩ = some (.int .i64 0) := (blk_cell BK159.out 0).trans rfl; have hcz12_1 : w11.cell? ⟨gb159, 1, none⟩ = some (.string (⟨#[]⟩ : ByteArray)) := (blk_cell BK159.out 1).trans rfl; have hcz12_2 : w11.cell? ⟨gb159, 2, none⟩ = some (.string (⟨#[]⟩ : ByteArray)) := (blk_cell BK159.out 2).trans rfl; have hcz12_3 : w11.cell? ⟨gb159, 3, none⟩ = some (.int .i64 0) := (blk_cell BK159.out 3).trans rfl; have hcz12_4 : w11.cell? ⟨gb159, 4, none⟩ = some (.int .i64 0) := (blk_cell BK159.out 4).trans rfl; have hfz12_0 := blk_frozen BK159.out 0; have hfz12_1 := blk_frozen BK159.out 1; have hfz12_2 := blk_frozen BK159.out 2; have hfz12_3 := blk_frozen BK159.out 3; have hfz12_4 := blk_frozen BK159.out 4; have p160 : 0 ≤ (x7_1 : Int) := of_decide_eq_true (by first | (with_reducible assumption) | assumption); have q160 : x7_1 < (l1.length : Int) := of_decide_eq_true (by first | (with_reducible assumption) | assumption); obtain ⟨ad160, e160, hx160_0⟩ := Kd.at_int HR1.out x7_1 p160 q160; cases e160; have hn160_0 : ad160.block ≠ gb159 := Nat.ne_of_lt (Nat.lt_of_lt_of_le (by have := World.block_lt_of_cell? _ _ hx160_0; first | rwa [add_block] at this | exact this) GW159.out); have hn160_1 : ad160.block ≠ gb159 := Nat.ne_of_lt (Nat.lt_of_lt_of_le (by have := World.block_lt_of_cell? _ _ hx160_0; first | rwa [add_block] at this | exact this) GW159.out); have hn160_2 : ad160.block ≠ gb159 := Nat.ne_of_lt (Nat.lt_of_lt_of_le (by have := World.block_lt_of_cell? _ _ hx160_0; first | rwa [add_block] at this | exact this) GW159.out); have hn160_3 : ad160.block ≠ gb159 := Nat.ne_of_lt (Nat.lt_of_lt_of_le (by have := World.block_lt_of_cell? _ _ hx160_0; first | rwa [add_block] at this | exact this) GW159.out); have hn160_4 : ad160.block ≠ gb159 := Nat.ne_of_lt (Nat.lt_of_lt_of_le (by have := World.block_lt_of_cell? _ _ hx160_0; first | rwa [add_block] at this | exact this) GW159.out); replace hx160_0 := (HB.out.cell (World.block_lt_of_cell? w _ hx160_0)).trans hx160_0; replace hx160_0 := (cell_far (p := ⟨gb159, 0, none⟩) (by first | (rw [add_block]; exact hn160_0) | (show (Addr.add _ _).block ≠ _; rw [add_block]; exact hn160_0) | exact hn160_0) (.int .i64 0)).trans hx160_0; replace hx160_0 := (cell_far (p := ⟨gb159, 1, none⟩) (by first | (rw [add_block]; exact hn160_1) | (show (Addr.add _ _).block ≠ _; rw [add_block]; exact hn160_1) | exact hn160_1) (.string (⟨#[]⟩ : ByteArray))).trans hx160_0; replace hx160_0 := (cell_far (p := ⟨gb159, 2, none⟩) (by first | (rw [add_block]; exact hn160_2) | (show (Addr.add _ _).block ≠ _; rw [add_block]; exact hn160_2) | exact hn160_2) (.string (⟨#[]⟩ : ByteArray))).trans hx160_0; replace hx160_0 := (cell_far (p := ⟨gb159, 3, none⟩) (by first | (rw [add_block]; exact hn160_3) | (show (Addr.add _ _).block ≠ _; rw [add_block]; exact hn160_3) | exact hn160_3) (.int .i64 0)).trans hx160_0; replace hx160_0 := (cell_far (p := ⟨gb159, 4, none⟩) (by first | (rw [add_block]; exact hn160_4) | (show (Addr.add _ _).block ≠ _; rw [add_block]; exact hn160_4) | exact hn160_4) (.int .i64 0)).trans hx160_0; clear hn160_0; clear hn160_1; clear hn160_2; clear hn160_3; clear hn160_4; replace p160 := eq_true p160; replace q160 := eq_true q160) | ((with_reducible refine gate_builtin (b := .append) (xs := #[.tmp 58, .tmp 60]) rfl ?_); at_builtin; refine Kd.R_append k41 (w0 := w) w.heap.size rfl (.tmp 58) (.tmp 60) 22 41 (.agg #[(.int .i64 0), (.string ⟨#[]⟩), (.string ⟨#[]⟩), (.int .i64 0), (.int .i64 0)]) 56 rfl Tryz.underlying22 info41 rfl (by decide) (by omega) u6 x6_1 (⟨0, (⟨#[]⟩ : ByteArray), (⟨#[]⟩ : ByteArray), 0, 0⟩ : S41) [.int .i64 0, .string (⟨#[]⟩ : ByteArray), .string (⟨#[]⟩ : ByteArray), .int .i64 0, .int .i64 0] (fun k_ => k_ ≠ gb159) (fun _ => False) rfl (by first | (go_simp; done) | (go_simp; rfl)) ?aP (fun _ hk => hk.elim) ?aF ?aO ?aB ?aS ?aL ?_; (case aP => exact k41_mkM _ _ _ (⟨0, (⟨#[]⟩ : ByteArray), (⟨#[]⟩ : ByteArray), 0, 0⟩ : S41)); (case aB => exact (by repeat (first | (with_reducible first | exact HB.out | apply below_alloc | apply pw_below_drewN | apply below_drew1 | refine below_set ?_ GE159.out) | exact HB.out))); (case aF => exact (fun k_ hk => Kd.freshB (g := gb159) (o := .cells #[.int .i64 0, .string (⟨#[]⟩ : ByteArray), .string (⟨#[]⟩ : ByteArray), .int .i64 0, .int .i64 0] 41 (0, 0)) (by (with_reducible repeat (first | refine blk_drewN ?_ _ | refine blk_drew ?_ | refine blk_alloc ?_ _)); refine blk_put (cs := #[.int .i64 0, .string (⟨#[]⟩ : ByteArray), .string (⟨#[]⟩ : ByteArray), .int .i64 0, .int .i64 0]) ?_ 4 _ rfl; (with_reducible repeat (first | refine blk_drewN ?_ _ | refine blk_drew ?_ | refine blk_alloc ?_ _)); refine blk_put (cs := #[.int .i64 0, .string (⟨#[]⟩ : ByteArray), .string (⟨#[]⟩ : ByteArray), .int .i64 0, .int .i64 0]) ?_ 3 _ rfl; (with_reducible repeat (first | refine blk_drewN ?_ _ | refine blk_drew ?_ | refine blk_alloc ?_ _)); refine blk_put (cs := #[.int .i64 0, .string (⟨#[]⟩ : ByteArray), .string (⟨#[]⟩ : ByteArray), .int .i64 0, .int .i64 0]) ?_ 2 _ rfl; (with_reducible repeat (first | refine blk_drewN ?_ _ | refine blk_drew ?_ | refine blk_alloc ?_ _)); refine blk_put (cs := #[.int .i64 0, .string (⟨#[]⟩ : ByteArray), .string (⟨#[]⟩ : ByteArray), .int .i64 0, .int .i64 0]) ?_ 1 _ rfl; (with_reducible repeat (first | refine blk_drewN ?_ _ | refine blk_drew ?_ | refine blk_alloc ?_ _)); refine blk_put (cs := #[.int .i64 0, .string (⟨#[]⟩ : ByteArray), .string (⟨#[]⟩ : ByteArray), .int .i64 0, .int .i64 0]) ?_ 0 _ rfl; (with_reducible repeat (first | refine blk_drewN ?_ _ | refine blk_drew ?_ | refine blk_alloc ?_ _)); exact BK159.out) k_ hk)); (case aO => exact (by (with_reducible repeat (first | apply Kd.R_alloc | apply Kd.R_drewN | apply Kd.R_drew)); exact Kd.R_mono (Kd.R_far (p := ⟨gb159, 4, none⟩) (Kd.R_far (p := ⟨gb159, 3, none⟩) (Kd.R_far (p := ⟨gb159, 2, none⟩) (Kd.R_far (p := ⟨gb159, 1, none⟩) (Kd.R_far (p := ⟨gb159, 0, none⟩) (Kd.R_mono HO_6.out (fun k_ hk => (⟨hk, hk.2⟩ : _ ∧ k_ ≠ gb159))) (fun _ hk => hk.2) (.int .i64 0)) (fun _ hk => hk.2) (.string (⟨#[]⟩ : ByteArray))) (fun _ hk => hk.2) (.string (⟨#[]⟩ : ByteArray))) (fun _ hk => hk.2) (.int .i64 0)) (fun _ hk => hk.2) (.int .i64 0)) (fun _ hk => hk.1.2))); (case aS => exact (below_size (by repeat (first | (with_reducible first | exact HB.out | apply below_alloc | apply pw_below_drewN | apply below_drew1 | refine below_set ?_ GE159.out) | exact HB.out)))); (case aL => have := LMc10.out; omega); intro v162 w13 ho hb hg hat; rw [← Ny161.out] at ho; have n0_ := Aside0.mk (blk_grown (g := gb159) (o := .cells #[.int .i64 0, .string (⟨#[]⟩ : ByteArray), .string (⟨#[]⟩ : ByteArray), .int .i64 0, .int .i64 0] 41 (0, 0)) (by (with_reducible repeat (first | refine blk_drewN ?_ _ | refine blk_drew ?_ | refine blk_alloc ?_ _)); refine blk_put (cs := #[.int .i64 0, .string (⟨#[]⟩ : ByteArray), .string (⟨#[]⟩ : ByteArray), .int .i64 0, .int .i64 0]) ?_ 4 _ rfl; (with_reducible repeat (first | refine blk_drewN ?_ _ | refine blk_drew ?_ | refine blk_alloc ?_ _)); refine blk_put (cs := #[.int .i64 0, .string (⟨#[]⟩ : ByteArray), .string (⟨#[]⟩ : ByteArray), .int .i64 0, .int .i64 0]) ?_ 3 _ rfl; (with_reducible repeat (first | refine blk_drewN ?_ _ | refine blk_drew ?_ | refine blk_alloc ?_ _)); refine blk_put (cs := #[.int .i64 0, .string (⟨#[]⟩ : ByteArray), .string (⟨#[]⟩ : ByteArray), .int .i64 0, .int .i64 0]) ?_ 2 _ rfl; (with_reducible repeat (first | refine blk_drewN ?_ _ | refine blk_drew ?_ | refine blk_alloc ?_ _)); refine blk_put (cs := #[.int .i64 0, .string (⟨#[]⟩ : ByteArray), .string (⟨#[]⟩ : ByteArray), .int .i64 0, .int .i64 0]) ?_ 1 _ rfl; (with_reducible repeat (first | refine blk_drewN ?_ _ | refine blk_drew ?_ | refine blk_alloc ?_ _)); refine blk_put (cs := #[.int .i64 0, .string (⟨#[]⟩ : ByteArray), .string (⟨#[]⟩ : ByteArray), .int .i64 0, .int .i64 0]) ?_ 0 _ rfl; (with_reducible repeat (first | refine blk_drewN ?_ _ | refine blk_drew ?_ | refine blk_alloc ?_ _)); exact BK159.out) hg (Kd.R_away HO_6.out (fun _ hk => hk.2))); have n1_ := Aside0.mk (hb); have n2_ := Aside0.mk (ho); clear BK159; clear HB; clear HO_6; have BK159 := n0_; have HB := n1_; have HO163 := n2_; clear n0_ n1_ n2_; clear ho hb hg hat))
                      go_roundg kj2
                      case measure => have := HK1.out; have := HJ2.out; omega
                      case rel => exact ⟨(y161), (wrap64 (x7_1 + 2)), (by first | rfl | (simp; done) | (simp [*]; done)), H', ⟨by have := HK1.out; have := HJ2.out; omega⟩, ⟨by (with_reducible repeat (first | apply Kd.R_alloc | apply Kd.R_drewN | apply Kd.R_drew)); exact Kd.R_mono HO163.out (fun _ hk => trivial)⟩, ⟨by repeat (first | (with_reducible first | exact HB.out | apply below_alloc | apply pw_below_drewN | apply below_drew1 | refine below_set ?_ GE159.out) | exact HB.out)⟩⟩
                    · rw [if_neg c10] at H
                      exact absurd H (by simp)
                  · rw [if_neg c9] at H
                    have c9b0 : ((rd l1 x7_1) == 0) = false := beq_eq_false_iff_ne.mpr c9
                    have c9b1 : ((rd l1 x7_1) != 0) = true := bne_iff_ne.mpr c9
                    obtain ⟨ji14, hji14⟩ : ∃ j_ : Int, (wrap64 (x7_1 + 1)) = j_ := ⟨_, rfl⟩
                    replace H : (if 0 ≤ (ji14) then (if (ji14) < (l1.length : Int) then (if x6_1.length < 2513169434916 then (postriderref07_Read.l0 kj2 a0 l1 (x6_1 ++ [(⟨2, (⟨#[]⟩ : ByteArray), (⟨#[]⟩ : ByteArray), rd l1 x7_1, rd l1 (ji14)⟩ : S41)]) (wrap64 (x7_1 + 2))) else (none)) else (none)) else (none)) = some (r1, r2) := by first | (rw [hji14] at H; exact H) | (simp only [hji14] at H ⊢; exact H)
                    have hji14w : (IntKind.i64.wrap (x7_1 + 1)) = ji14 := (i64_w _).trans hji14
                    by_cases c15 : 0 ≤ (ji14)
                    · rw [if_pos c15] at H
                      have c15b0 : decide (0 ≤ (ji14)) = true := decide_eq_true c15
                      clear c15
                      by_cases c16 : (ji14) < (l1.length : Int)
                      · rw [if_pos c16] at H
                        have c16b0 : decide ((ji14) < (l1.length : Int)) = true := decide_eq_true c16
                        clear c16
                        by_cases c17 : x6_1.length < 2513169434916
                        · rw [if_pos c17] at H
                          have LMc17 := Aside0.mk c17
                          clear c17
                          obtain ⟨y166, hy166⟩ : ∃ y_ : List (S41), y_ = (x6_1 ++ [(⟨2, (⟨#[]⟩ : ByteArray), (⟨#[]⟩ : ByteArray), rd l1 x7_1, rd l1 (ji14)⟩ : S41)]) := ⟨_, rfl⟩
                          replace H : (postriderref07_Read.l0 kj2 a0 l1 y166 (wrap64 (x7_1 + 2))) = some (r1, r2) := by first | (rw [hy166]; with_reducible exact H) | (have H2_ := (Option.bind_some _ _).symm.trans H; rw [hy166]; with_reducible exact H2_) | (have H2_ := (Option.bind_some _ _).symm.trans H; with_reducible exact H2_) | with_reducible exact H | (rw [hy166]; exact H) | exact H
                          have Ny166 := Aside0.mk hy166
                          clear hy166
                          have H' := Aside0.mk H
                          clear H
                          try go_wp2_with (first | ((with_reducible refine gate_dst (N := 8) rfl ?_); refine box_event ?hg (N := 8) ?hd (cs := #[.int .i64 0, .string (⟨#[]⟩ : ByteArray), .string (⟨#[]⟩ : ByteArray), .int .i64 0, .int .i64 0]) (t := 41) ?hr ?_; (case hd => rfl); (case hg => rfl); (case hr => first | (go_simp; done) | (go_simp; rfl) | (go_simp; simp only [isEmpty_ne, isEmpty_eq]; done) | (go_simp; simp only [isEmpty_ne, isEmpty_eq]; rfl)); intro gb159 hg w18 hbox hb; have n0_ := Aside0.mk (Kd.R_below (Kd.R_elderB (by (with_reducible repeat (first | apply Kd.R_alloc | apply Kd.R_drewN | apply Kd.R_drew)); exact HO_6.out) gb159 (Nat.le_of_eq hg.symm)) hb); have n1_ := Aside0.mk (below_step (by repeat (first | (with_reducible first | exact HB.out | apply below_alloc | apply pw_below_drewN | apply below_drew1) | exact HB.out)) hb); have n2_ := Aside0.mk (hbox); have n3_ := Aside0.mk ((by rw [hg]; exact (below_size (by repeat (first | (with_reducible first | exact HB.out | apply below_alloc | apply pw_below_drewN | apply below_drew1) | exact HB.out))) : w.heap.size ≤ gb159)); have n4_ := Aside0.mk ((by rw [hg]; exact (below_size (by repeat (first | (with_reducible first | exact HB.out | apply below_alloc | apply pw_below_drewN | apply below_drew1) | exact HB.out))) : w.heap.size ≤ gb159)); clear HO_6; clear HB; have HO_6 := n0_; have HB := n1_; have BK159 := n2_; have GW159 := n3_; have GE159 := n4_; clear n0_ n1_ n2_ n3_ n4_; clear hb hbox hg; have hcz19_0 : w18.cell? ⟨gb159, 0, none⟩ = some (.int .i64 0) := (blk_cell BK159.out 0).trans rfl; have hcz19_1 : w18.cell? ⟨gb159, 1, none⟩ = some (.string (⟨#[]⟩ : ByteArray)) := (blk_cell BK159.out 1).trans rfl; have hcz19_2 : w18.cell? ⟨gb159, 2, none⟩ = some (.string (⟨#[]⟩ : ByteArray)) := (blk_cell BK159.out 2).trans rfl; have hcz19_3 : w18.cell? ⟨gb159, 3, none⟩ = some (.int .i64 0) := (blk_cell BK159.out 3).trans rfl; have hcz19_4 : w18.cell? ⟨gb159, 4, none⟩ = some (.int .i64 0) := (blk_cell BK159.out 4).trans rfl; have hfz19_0 := blk_frozen BK159.out 0; have hfz19_1 := blk_frozen BK159.out 1; have hfz19_2 := blk_frozen BK159.out 2; have hfz19_3 := blk_frozen BK159.out 3; have hfz19_4 := blk_frozen BK159.out 4; have p160 : 0 ≤ (x7_1 : Int) := of_decide_eq_true (by first | (with_reducible assumption) | assumption); have q160 : x7_1 < (l1.length : Int) := of_decide_eq_true (by first | (with_reducible assumption) | assumption); obtain ⟨ad160, e160, hx160_0⟩ := Kd.at_int HR1.out x7_1 p160 q160; cases e160; have hn160_0 : ad160.block ≠ gb159 := Nat.ne_of_lt (Nat.lt_of_lt_of_le (by have := World.block_lt_of_cell? _ _ hx160_0; first | rwa [add_block] at this | exact this) GW159.out); have hn160_1 : ad160.block ≠ gb159 := Nat.ne_of_lt (Nat.lt_of_lt_of_le (by have := World.block_lt_of_cell? _ _ hx160_0; first | rwa [add_block] at this | exact this) GW159.out); have hn160_2 : ad160.block ≠ gb159 := Nat.ne_of_lt (Nat.lt_of_lt_of_le (by have := World.block_lt_of_cell? _ _ hx160_0; first | rwa [add_block] at this | exact this) GW159.out); have hn160_3 : ad160.block ≠ gb159 := Nat.ne_of_lt (Nat.lt_of_lt_of_le (by have := World.block_lt_of_cell? _ _ hx160_0; first | rwa [add_block] at this | exact this) GW159.out); have hn160_4 : ad160.block ≠ gb159 := Nat.ne_of_lt (Nat.lt_of_lt_of_le (by have := World.block_lt_of_cell? _ _ hx160_0; first | rwa [add_block] at this | exact this) GW159.out); replace hx160_0 := (HB.out.cell (World.block_lt_of_cell? w _ hx160_0)).trans hx160_0; replace hx160_0 := (cell_far (p := ⟨gb159, 0, none⟩) (by first | (rw [add_block]; exact hn160_0) | (show (Addr.add _ _).block ≠ _; rw [add_block]; exact hn160_0) | exact hn160_0) (.int .i64 0)).trans hx160_0; replace hx160_0 := (cell_far (p := ⟨gb159, 1, none⟩) (by first | (rw [add_block]; exact hn160_1) | (show (Addr.add _ _).block ≠ _; rw [add_block]; exact hn160_1) | exact hn160_1) (.string (⟨#[]⟩ : ByteArray))).trans hx160_0; replace hx160_0 := (cell_far (p := ⟨gb159, 2, none⟩) (by first | (rw [add_block]; exact hn160_2) | (show (Addr.add _ _).block ≠ _; rw [add_block]; exact hn160_2) | exact hn160_2) (.string (⟨#[]⟩ : ByteArray))).trans hx160_0; replace hx160_0 := (cell_far (p := ⟨gb159, 3, none⟩) (by first | (rw [add_block]; exact hn160_3) | (show (Addr.add _ _).block ≠ _; rw [add_block]; exact hn160_3) | exact hn160_3) (.int .i64 0)).trans hx160_0; replace hx160_0 := (cell_far (p := ⟨gb159, 4, none⟩) (by first | (rw [add_block]; exact hn160_4) | (show (Addr.add _ _).block ≠ _; rw [add_block]; exact hn160_4) | exact hn160_4) (.int .i64 0)).trans hx160_0; clear hn160_0; clear hn160_1; clear hn160_2; clear hn160_3; clear hn160_4; replace p160 := eq_true p160; replace q160 := eq_true q160))
                          have n0_ : Aside0 (Kd.R k41 41 (((((w18.setCell ⟨gb159, 0, none⟩ (.int .i64 0)).setCell ⟨gb159, 1, none⟩ (.string (⟨#[]⟩ : ByteArray))).setCell ⟨gb159, 2, none⟩ (.string (⟨#[]⟩ : ByteArray))).setCell ⟨gb159, 3, none⟩ (.int .i64 0)).setCell ⟨gb159, 4, none⟩ (.int .i64 0)) w.heap.size (fun k_ => k_ ≠ gb159) u6 x6_1) := ⟨by (with_reducible repeat (first | apply Kd.R_alloc | apply Kd.R_drewN | apply Kd.R_drew)); exact Kd.R_mono (Kd.R_far (p := ⟨gb159, 4, none⟩) (Kd.R_far (p := ⟨gb159, 3, none⟩) (Kd.R_far (p := ⟨gb159, 2, none⟩) (Kd.R_far (p := ⟨gb159, 1, none⟩) (Kd.R_far (p := ⟨gb159, 0, none⟩) (Kd.R_mono HO_6.out (fun k_ hk => (⟨hk, hk.2⟩ : _ ∧ k_ ≠ gb159))) (fun _ hk => hk.2) (.int .i64 0)) (fun _ hk => hk.2) (.string (⟨#[]⟩ : ByteArray))) (fun _ hk => hk.2) (.string (⟨#[]⟩ : ByteArray))) (fun _ hk => hk.2) (.int .i64 0)) (fun _ hk => hk.2) (.int .i64 0)) (fun _ hk => hk.1.2)⟩
                          have n1_ : Aside0 ((((((w18.setCell ⟨gb159, 0, none⟩ (.int .i64 0)).setCell ⟨gb159, 1, none⟩ (.string (⟨#[]⟩ : ByteArray))).setCell ⟨gb159, 2, none⟩ (.string (⟨#[]⟩ : ByteArray))).setCell ⟨gb159, 3, none⟩ (.int .i64 0)).setCell ⟨gb159, 4, none⟩ (.int .i64 0)).heap[gb159]? = some (.cells #[.int .i64 0, .string (⟨#[]⟩ : ByteArray), .string (⟨#[]⟩ : ByteArray), .int .i64 0, .int .i64 0] 41 (0, 0))) := ⟨by (with_reducible repeat (first | refine blk_drewN ?_ _ | refine blk_drew ?_ | refine blk_alloc ?_ _)); refine blk_put (cs := #[.int .i64 0, .string (⟨#[]⟩ : ByteArray), .string (⟨#[]⟩ : ByteArray), .int .i64 0, .int .i64 0]) ?_ 4 _ rfl; (with_reducible repeat (first | refine blk_drewN ?_ _ | refine blk_drew ?_ | refine blk_alloc ?_ _)); refine blk_put (cs := #[.int .i64 0, .string (⟨#[]⟩ : ByteArray), .string (⟨#[]⟩ : ByteArray), .int .i64 0, .int .i64 0]) ?_ 3 _ rfl; (with_reducible repeat (first | refine blk_drewN ?_ _ | refine blk_drew ?_ | refine blk_alloc ?_ _)); refine blk_put (cs := #[.int .i64 0, .string (⟨#[]⟩ : ByteArray), .string (⟨#[]⟩ : ByteArray), .int .i64 0, .int .i64 0]) ?_ 2 _ rfl; (with_reducible repeat (first | refine blk_drewN ?_ _ | refine blk_drew ?_ | refine blk_alloc ?_ _)); refine blk_put (cs := #[.int .i64 0, .string (⟨#[]⟩ : ByteArray), .string (⟨#[]⟩ : ByteArray), .int .i64 0, .int .i64 0]) ?_ 1 _ rfl; (with_reducible repeat (first | refine blk_drewN ?_ _ | refine blk_drew ?_ | refine blk_alloc ?_ _)); refine blk_put (cs := #[.int .i64 0, .string (⟨#[]⟩ : ByteArray), .string (⟨#[]⟩ : ByteArray), .int .i64 0, .int .i64 0]) ?_ 0 _ rfl; (with_reducible repeat (first | refine blk_drewN ?_ _ | refine blk_drew ?_ | refine blk_alloc ?_ _)); exact BK159.out⟩
                          have n2_ : Aside0 (Below w.heap.size w (((((w18.setCell ⟨gb159, 0, none⟩ (.int .i64 0)).setCell ⟨gb159, 1, none⟩ (.string (⟨#[]⟩ : ByteArray))).setCell ⟨gb159, 2, none⟩ (.string (⟨#[]⟩ : ByteArray))).setCell ⟨gb159, 3, none⟩ (.int .i64 0)).setCell ⟨gb159, 4, none⟩ (.int .i64 0))) := ⟨by repeat (first | (with_reducible first | exact HB.out | apply below_alloc | apply pw_below_drewN | apply below_drew1 | refine below_set ?_ GE159.out) | exact HB.out)⟩
                          (try clear HO_6)
                          (try clear BK159)
                          (try clear HB)
                          generalize (((((w18.setCell ⟨gb159, 0, none⟩ (.int .i64 0)).setCell ⟨gb159, 1, none⟩ (.string (⟨#[]⟩ : ByteArray))).setCell ⟨gb159, 2, none⟩ (.string (⟨#[]⟩ : ByteArray))).setCell ⟨gb159, 3, none⟩ (.int .i64 0)).setCell ⟨gb159, 4, none⟩ (.int .i64 0)) = w20 at n0_ n1_ n2_ ⊢
                          have HO_6 := n0_
                          have BK159 := n1_
                          have HB := n2_
                          clear n0_ n1_ n2_
                          have n0_ := Aside0.mk (Kd.R_drew HO_6.out)
                          have n1_ := Aside0.mk (blk_drew BK159.out)
                          have n2_ := Aside0.mk (below_drew1 HB.out)
                          clear HO_6
                          clear BK159
                          clear HB
                          have HO_6 := n0_
                          have BK159 := n1_
                          have HB := n2_
                          clear n0_ n1_ n2_
                          have p164 : 0 ≤ (x7_1 : Int) := of_decide_eq_true (by first | (with_reducible assumption) | assumption)
                          have q164 : x7_1 < (l1.length : Int) := of_decide_eq_true (by first | (with_reducible assumption) | assumption)
                          obtain ⟨ad164, e164, hx164_0⟩ := Kd.at_int HR1.out x7_1 p164 q164
                          have hw164_0 := hx164_0
                          obtain rfl : ad160 = ad164 := (by injection e164)
                          replace hx164_0 := (HB.out.cell (World.block_lt_of_cell? w _ hx164_0)).trans hx164_0
                          replace p164 := eq_true p164
                          replace q164 := eq_true q164
                          have p165 : 0 ≤ ((ji14) : Int) := of_decide_eq_true (by first | (with_reducible assumption) | assumption)
                          have q165 : (ji14) < (l1.length : Int) := of_decide_eq_true (by first | (with_reducible assumption) | assumption)
                          obtain ⟨ad165, e165, hx165_0⟩ := Kd.at_int HR1.out (ji14) p165 q165
                          have hw165_0 := hx165_0
                          obtain rfl : ad160 = ad165 := (by injection e165)
                          replace hx165_0 := (HB.out.cell (World.block_lt_of_cell? w _ hx165_0)).trans hx165_0
                          replace p165 := eq_true p165
                          replace q165 := eq_true q165
                          refine start_ (n := 11) (S := fun w' => w'.cell? (ad160.add (x7_1).toNat) = some (.int .i64 (rd l1 x7_1)) ∧ w'.cell? (ad160.add ((ji14)).toNat) = some (.int .i64 (rd l1 (ji14)))) (ds := []) #[false, false, false, false, false, false, false, false, false, false, false] (by kernel_rfl) rfl rfl ⟨((HB.out.cell (World.block_lt_of_cell? w _ hw164_0)).trans hw164_0), ((HB.out.cell (World.block_lt_of_cell? w _ hw165_0)).trans hw165_0)⟩ (fun hHeld => ?_); refine with_tabW postriderref07_Read.tab9 postriderref07_Read.bits9 (fun HT_ HW_ => ?_)
                          generalize w20.drew = w21 at HO_6 BK159 HB hx164_0 hx165_0 hHeld ⊢
                          refine pure_ (i := 0) (N := some 48) (v := ?_) (a' := ?_) #[true, false, false, false, false, false, false, false, false, false, false] rfl rfl (any_of HT_.out (by kernel_rfl)) (fun _ _ _ h => h) (Or.inl ⟨by rfl, ?_⟩) ?_ ?_
                          rotate_left
                          · intro w'
                            go_simp
                            with_reducible rfl
                          rotate_left
                          · simp only [Act.put, List.setIfInBounds_toArray, List.set_cons_zero, List.set_cons_succ, i64_w, i32_w]
                            rfl
                          refine pure_ (i := 1) (N := some 49) (v := ?_) (a' := ?_) #[true, true, false, false, false, false, false, false, false, false, false] rfl rfl (any_of HT_.out (by kernel_rfl)) (fun _ _ _ h => h) (Or.inl ⟨by rfl, ?_⟩) ?_ ?_
                          rotate_left
                          · intro w'
                            go_simp
                            with_reducible rfl
                          rotate_left
                          · simp only [Act.put, List.setIfInBounds_toArray, List.set_cons_zero, List.set_cons_succ, i64_w, i32_w]
                            rfl
                          refine pure_ (i := 2) (N := some 50) (v := ?_) (a' := ?_) #[true, true, true, false, false, false, false, false, false, false, false] rfl rfl (any_of HT_.out (by kernel_rfl)) (fun _ _ _ h => h) (Or.inl ⟨by rfl, ?_⟩) ?_ ?_
                          rotate_left
                          · intro w'
                            go_simp
                            with_reducible rfl
                          rotate_left
                          · simp only [Act.put, List.setIfInBounds_toArray, List.set_cons_zero, List.set_cons_succ, i64_w, i32_w]
                            rfl
                          refine pure_ (i := 4) (N := some 52) (v := ?_) (a' := ?_) #[true, true, true, false, true, false, false, false, false, false, false] rfl rfl (any_of HT_.out (by kernel_rfl)) (fun _ _ _ h => h) (Or.inl ⟨by rfl, ?_⟩) ?_ ?_
                          rotate_left
                          · intro w'
                            go_simp
                            with_reducible rfl
                          rotate_left
                          · simp only [Act.put, List.setIfInBounds_toArray, List.set_cons_zero, List.set_cons_succ, i64_w, i32_w]
                            rfl
                          refine pure_ (i := 5) (N := some 53) (v := ?_) (a' := ?_) #[true, true, true, false, true, true, false, false, false, false, false] rfl rfl (any_of HT_.out (by kernel_rfl)) (fun _ _ _ h => h) (Or.inl ⟨by rfl, ?_⟩) ?_ ?_
                          rotate_left
                          · intro w'
                            go_simp
                            with_reducible rfl
                          rotate_left
                          · simp only [Act.put, List.setIfInBounds_toArray, List.set_cons_zero, List.set_cons_succ, i64_w, i32_w]
                            rfl
                          refine pure_ (i := 6) (N := some 54) (v := ?_) (a' := ?_) #[true, true, true, false, true, true, true, false, false, false, false] rfl rfl (any_of HT_.out (by kernel_rfl)) (fun _ _ _ h => h) (Or.inl ⟨by rfl, ?_⟩) ?_ ?_
                          rotate_left
                          · intro w'
                            go_simp
                            with_reducible rfl
                          rotate_left
                          · simp only [Act.put, List.setIfInBounds_toArray, List.set_cons_zero, List.set_cons_succ, i64_w, i32_w]
                            rfl
                          refine pure_ (i := 7) (N := some 55) (v := ?_) (a' := ?_) #[true, true, true, false, true, true, true, true, false, false, false] rfl rfl (any_of HT_.out (by kernel_rfl)) (fun _ _ _ h => h) (Or.inl ⟨by rfl, ?_⟩) ?_ ?_
                          rotate_left
                          · intro w'
                            go_simp
                            with_reducible rfl
                          rotate_left
                          · simp only [Act.put, List.setIfInBounds_toArray, List.set_cons_zero, List.set_cons_succ, i64_w, i32_w]
                            rfl
                          refine take_ (i := 3) (N := some 51) (v := ?_) (a' := ?_) #[true, true, true, true, true, true, true, true, false, false, false] rfl rfl (take_ofW HT_.out HW_.out (by kernel_rfl)) (fun _ _ _ h => h) (Or.inl ⟨by rfl, ?_⟩) hHeld ?_ ?_
                          rotate_left
                          · rintro w' ⟨s0, s1⟩
                            go_simp
                            with_reducible rfl
                          rotate_left
                          · simp only [Act.put, List.setIfInBounds_toArray, List.set_cons_zero, List.set_cons_succ, i64_w, i32_w]
                            rfl
                          refine take_ (i := 8) (N := some 56) (v := ?_) (a' := ?_) #[true, true, true, true, true, true, true, true, true, false, false] rfl rfl (take_ofW HT_.out HW_.out (by kernel_rfl)) (fun _ _ _ h => h) (Or.inl ⟨by rfl, ?_⟩) hHeld ?_ ?_
                          rotate_left
                          · rintro w' ⟨s0, s1⟩
                            go_simp
                            with_reducible rfl
                          rotate_left
                          · simp only [Act.put, List.setIfInBounds_toArray, List.set_cons_zero, List.set_cons_succ, i64_w, i32_w]
                            rfl
                          refine pure_ (i := 9) (N := some 57) (v := ?_) (a' := ?_) #[true, true, true, true, true, true, true, true, true, true, false] rfl rfl (any_of HT_.out (by kernel_rfl)) (fun _ _ _ h => h) (Or.inl ⟨by rfl, ?_⟩) ?_ ?_
                          rotate_left
                          · intro w'
                            go_simp
                            with_reducible rfl
                          rotate_left
                          · simp only [Act.put, List.setIfInBounds_toArray, List.set_cons_zero, List.set_cons_succ, i64_w, i32_w]
                            rfl
                          refine one_ (i := 10) (N := none) #[true, true, true, true, true, true, true, true, true, true, true] rfl rfl (one_of HT_.out (by kernel_rfl)) (by decide) (fun K hK => ?_)
                          have hs22 : w21.cell? ⟨gb159, 0, none⟩ = some (.int .i64 0) := (blk_cell BK159.out 0).trans rfl
                          have hfs22 := blk_frozen BK159.out 0
                          have hs23 : w21.cell? ⟨gb159, 1, none⟩ = some (.string (⟨#[]⟩ : ByteArray)) := (blk_cell BK159.out 1).trans rfl
                          have hfs23 := blk_frozen BK159.out 1
                          have hs24 : w21.cell? ⟨gb159, 2, none⟩ = some (.string (⟨#[]⟩ : ByteArray)) := (blk_cell BK159.out 2).trans rfl
                          have hfs24 := blk_frozen BK159.out 2
                          have hs25 : w21.cell? ⟨gb159, 3, none⟩ = some (.int .i64 0) := (blk_cell BK159.out 3).trans rfl
                          have hfs25 := blk_frozen BK159.out 3
                          have hs26 : w21.cell? ⟨gb159, 4, none⟩ = some (.int .i64 0) := (blk_cell BK159.out 4).trans rfl
                          have hfs26 := blk_frozen BK159.out 4
                          refine skip_ (w1 := ?_) (by rfl) rfl ?_ ?_
                          rotate_left
                          · go_simp
                            rfl
                          refine hK.out _ _ ⟨((cell_far (p := ⟨gb159, _, none⟩) (by first | exact Nat.ne_of_lt (Nat.lt_of_lt_of_le (by have := World.block_lt_of_cell? _ _ hw164_0; first | rwa [add_block] at this | exact this) GW159.out) | (rw [add_block]; exact Nat.ne_of_lt (Nat.lt_of_lt_of_le (by have := World.block_lt_of_cell? _ _ hw164_0; first | rwa [add_block] at this | exact this) GW159.out)) | (show (Addr.add _ _).block ≠ _; rw [add_block]; exact Nat.ne_of_lt (Nat.lt_of_lt_of_le (by have := World.block_lt_of_cell? _ _ hw164_0; first | rwa [add_block] at this | exact this) GW159.out)) | (dsimp only; exact Nat.ne_of_lt (Nat.lt_of_lt_of_le (by have := World.block_lt_of_cell? _ _ hw164_0; first | rwa [add_block] at this | exact this) GW159.out))) _).trans (((cell_far (p := ⟨gb159, _, none⟩) (by first | exact Nat.ne_of_lt (Nat.lt_of_lt_of_le (by have := World.block_lt_of_cell? _ _ hw164_0; first | rwa [add_block] at this | exact this) GW159.out) | (rw [add_block]; exact Nat.ne_of_lt (Nat.lt_of_lt_of_le (by have := World.block_lt_of_cell? _ _ hw164_0; first | rwa [add_block] at this | exact this) GW159.out)) | (show (Addr.add _ _).block ≠ _; rw [add_block]; exact Nat.ne_of_lt (Nat.lt_of_lt_of_le (by have := World.block_lt_of_cell? _ _ hw164_0; first | rwa [add_block] at this | exact this) GW159.out)) | (dsimp only; exact Nat.ne_of_lt (Nat.lt_of_lt_of_le (by have := World.block_lt_of_cell? _ _ hw164_0; first | rwa [add_block] at this | exact this) GW159.out))) _).trans (((cell_far (p := ⟨gb159, _, none⟩) (by first | exact Nat.ne_of_lt (Nat.lt_of_lt_of_le (by have := World.block_lt_of_cell? _ _ hw164_0; first | rwa [add_block] at this | exact this) GW159.out) | (rw [add_block]; exact Nat.ne_of_lt (Nat.lt_of_lt_of_le (by have := World.block_lt_of_cell? _ _ hw164_0; first | rwa [add_block] at this | exact this) GW159.out)) | (show (Addr.add _ _).block ≠ _; rw [add_block]; exact Nat.ne_of_lt (Nat.lt_of_lt_of_le (by have := World.block_lt_of_cell? _ _ hw164_0; first | rwa [add_block] at this | exact this) GW159.out)) | (dsimp only; exact Nat.ne_of_lt (Nat.lt_of_lt_of_le (by have := World.block_lt_of_cell? _ _ hw164_0; first | rwa [add_block] at this | exact this) GW159.out))) _).trans (((cell_far (p := ⟨gb159, _, none⟩) (by first | exact Nat.ne_of_lt (Nat.lt_of_lt_of_le (by have := World.block_lt_of_cell? _ _ hw164_0; first | rwa [add_block] at this | exact this) GW159.out) | (rw [add_block]; exact Nat.ne_of_lt (Nat.lt_of_lt_of_le (by have := World.block_lt_of_cell? _ _ hw164_0; first | rwa [add_block] at this | exact this) GW159.out)) | (show (Addr.add _ _).block ≠ _; rw [add_block]; exact Nat.ne_of_lt (Nat.lt_of_lt_of_le (by have := World.block_lt_of_cell? _ _ hw164_0; first | rwa [add_block] at this | exact this) GW159.out)) | (dsimp only; exact Nat.ne_of_lt (Nat.lt_of_lt_of_le (by have := World.block_lt_of_cell? _ _ hw164_0; first | rwa [add_block] at this | exact this) GW159.out))) _).trans (((cell_far (p := ⟨gb159, _, none⟩) (by first | exact Nat.ne_of_lt (Nat.lt_of_lt_of_le (by have := World.block_lt_of_cell? _ _ hw164_0; first | rwa [add_block] at this | exact this) GW159.out) | (rw [add_block]; exact Nat.ne_of_lt (Nat.lt_of_lt_of_le (by have := World.block_lt_of_cell? _ _ hw164_0; first | rwa [add_block] at this | exact this) GW159.out)) | (show (Addr.add _ _).block ≠ _; rw [add_block]; exact Nat.ne_of_lt (Nat.lt_of_lt_of_le (by have := World.block_lt_of_cell? _ _ hw164_0; first | rwa [add_block] at this | exact this) GW159.out)) | (dsimp only; exact Nat.ne_of_lt (Nat.lt_of_lt_of_le (by have := World.block_lt_of_cell? _ _ hw164_0; first | rwa [add_block] at this | exact this) GW159.out))) _).trans (hHeld.1)))))))))), ((cell_far (p := ⟨gb159, _, none⟩) (by first | exact Nat.ne_of_lt (Nat.lt_of_lt_of_le (by have := World.block_lt_of_cell? _ _ hw165_0; first | rwa [add_block] at this | exact this) GW159.out) | (rw [add_block]; exact Nat.ne_of_lt (Nat.lt_of_lt_of_le (by have := World.block_lt_of_cell? _ _ hw165_0; first | rwa [add_block] at this | exact this) GW159.out)) | (show (Addr.add _ _).block ≠ _; rw [add_block]; exact Nat.ne_of_lt (Nat.lt_of_lt_of_le (by have := World.block_lt_of_cell? _ _ hw165_0; first | rwa [add_block] at this | exact this) GW159.out)) | (dsimp only; exact Nat.ne_of_lt (Nat.lt_of_lt_of_le (by have := World.block_lt_of_cell? _ _ hw165_0; first | rwa [add_block] at this | exact this) GW159.out))) _).trans (((cell_far (p := ⟨gb159, _, none⟩) (by first | exact Nat.ne_of_lt (Nat.lt_of_lt_of_le (by have := World.block_lt_of_cell? _ _ hw165_0; first | rwa [add_block] at this | exact this) GW159.out) | (rw [add_block]; exact Nat.ne_of_lt (Nat.lt_of_lt_of_le (by have := World.block_lt_of_cell? _ _ hw165_0; first | rwa [add_block] at this | exact this) GW159.out)) | (show (Addr.add _ _).block ≠ _; rw [add_block]; exact Nat.ne_of_lt (Nat.lt_of_lt_of_le (by have := World.block_lt_of_cell? _ _ hw165_0; first | rwa [add_block] at this | exact this) GW159.out)) | (dsimp only; exact Nat.ne_of_lt (Nat.lt_of_lt_of_le (by have := World.block_lt_of_cell? _ _ hw165_0; first | rwa [add_block] at this | exact this) GW159.out))) _).trans (((cell_far (p := ⟨gb159, _, none⟩) (by first | exact Nat.ne_of_lt (Nat.lt_of_lt_of_le (by have := World.block_lt_of_cell? _ _ hw165_0; first | rwa [add_block] at this | exact this) GW159.out) | (rw [add_block]; exact Nat.ne_of_lt (Nat.lt_of_lt_of_le (by have := World.block_lt_of_cell? _ _ hw165_0; first | rwa [add_block] at this | exact this) GW159.out)) | (show (Addr.add _ _).block ≠ _; rw [add_block]; exact Nat.ne_of_lt (Nat.lt_of_lt_of_le (by have := World.block_lt_of_cell? _ _ hw165_0; first | rwa [add_block] at this | exact this) GW159.out)) | (dsimp only; exact Nat.ne_of_lt (Nat.lt_of_lt_of_le (by have := World.block_lt_of_cell? _ _ hw165_0; first | rwa [add_block] at this | exact this) GW159.out))) _).trans (((cell_far (p := ⟨gb159, _, none⟩) (by first | exact Nat.ne_of_lt (Nat.lt_of_lt_of_le (by have := World.block_lt_of_cell? _ _ hw165_0; first | rwa [add_block] at this | exact this) GW159.out) | (rw [add_block]; exact Nat.ne_of_lt (Nat.lt_of_lt_of_le (by have := World.block_lt_of_cell? _ _ hw165_0; first | rwa [add_block] at this | exact this) GW159.out)) | (show (Addr.add _ _).block ≠ _; rw [add_block]; exact Nat.ne_of_lt (Nat.lt_of_lt_of_le (by have := World.block_lt_of_cell? _ _ hw165_0; first | rwa [add_block] at this | exact this) GW159.out)) | (dsimp only; exact Nat.ne_of_lt (Nat.lt_of_lt_of_le (by have := World.block_lt_of_cell? _ _ hw165_0; first | rwa [add_block] at this | exact this) GW159.out))) _).trans (((cell_far (p := ⟨gb159, _, none⟩) (by first | exact Nat.ne_of_lt (Nat.lt_of_lt_of_le (by have := World.block_lt_of_cell? _ _ hw165_0; first | rwa [add_block] at this | exact this) GW159.out) | (rw [add_block]; exact Nat.ne_of_lt (Nat.lt_of_lt_of_le (by have := World.block_lt_of_cell? _ _ hw165_0; first | rwa [add_block] at this | exact this) GW159.out)) | (show (Addr.add _ _).block ≠ _; rw [add_block]; exact Nat.ne_of_lt (Nat.lt_of_lt_of_le (by have := World.block_lt_of_cell? _ _ hw165_0; first | rwa [add_block] at this | exact this) GW159.out)) | (dsimp only; exact Nat.ne_of_lt (Nat.lt_of_lt_of_le (by have := World.block_lt_of_cell? _ _ hw165_0; first | rwa [add_block] at this | exact this) GW159.out))) _).trans (hHeld.2))))))))))⟩ (fun hHeld => ?_)
                          clear hK K
                          refine done_ (done_of HT_.out (by kernel_rfl)) ?_
                          have hcz27_0 : w21.cell? ⟨gb159, 0, none⟩ = some (.int .i64 0) := (blk_cell BK159.out 0).trans rfl
                          have hcz27_1 : w21.cell? ⟨gb159, 1, none⟩ = some (.string (⟨#[]⟩ : ByteArray)) := (blk_cell BK159.out 1).trans rfl
                          have hcz27_2 : w21.cell? ⟨gb159, 2, none⟩ = some (.string (⟨#[]⟩ : ByteArray)) := (blk_cell BK159.out 2).trans rfl
                          have hcz27_3 : w21.cell? ⟨gb159, 3, none⟩ = some (.int .i64 0) := (blk_cell BK159.out 3).trans rfl
                          have hcz27_4 : w21.cell? ⟨gb159, 4, none⟩ = some (.int .i64 0) := (blk_cell BK159.out 4).trans rfl
                          have hfz27_0 := blk_frozen BK159.out 0
                          have hfz27_1 := blk_frozen BK159.out 1
                          have hfz27_2 := blk_frozen BK159.out 2
                          have hfz27_3 := blk_frozen BK159.out 3
                          have hfz27_4 := blk_frozen BK159.out 4
                          try go_wp2_with (first | ((with_reducible refine gate_builtin (b := .append) (xs := #[.tmp 58, .tmp 60]) rfl ?_); at_builtin; refine Kd.R_append k41 (w0 := w) w.heap.size rfl (.tmp 58) (.tmp 60) 22 41 (.agg #[(.int .i64 0), (.string ⟨#[]⟩), (.string ⟨#[]⟩), (.int .i64 0), (.int .i64 0)]) 56 rfl Tryz.underlying22 info41 rfl (by decide) (by omega) u6 x6_1 (⟨2, (⟨#[]⟩ : ByteArray), (⟨#[]⟩ : ByteArray), rd l1 x7_1, rd l1 (ji14)⟩ : S41) [.int .i64 2, .string (⟨#[]⟩ : ByteArray), .string (⟨#[]⟩ : ByteArray), .int .i64 (rd l1 x7_1), .int .i64 (rd l1 (ji14))] (fun k_ => k_ ≠ gb159) (fun _ => False) rfl (by first | (go_simp; done) | (go_simp; rfl)) ?aP (fun _ hk => hk.elim) ?aF ?aO ?aB ?aS ?aL ?_; (case aP => exact k41_mkM _ _ _ (⟨2, (⟨#[]⟩ : ByteArray), (⟨#[]⟩ : ByteArray), rd l1 x7_1, rd l1 (ji14)⟩ : S41)); (case aB => exact (by repeat (first | (with_reducible first | exact HB.out | apply below_alloc | apply pw_below_drewN | apply below_drew1 | refine below_set ?_ GE159.out) | exact HB.out))); (case aF => exact (fun k_ hk => Kd.freshB (g := gb159) (o := .cells #[.int .i64 2, .string (⟨#[]⟩ : ByteArray), .string (⟨#[]⟩ : ByteArray), .int .i64 (rd l1 x7_1), .int .i64 (rd l1 (ji14))] 41 (0, 0)) (by (with_reducible repeat (first | refine blk_drewN ?_ _ | refine blk_drew ?_ | refine blk_alloc ?_ _)); refine blk_put (cs := #[.int .i64 2, .string (⟨#[]⟩ : ByteArray), .string (⟨#[]⟩ : ByteArray), .int .i64 (rd l1 x7_1), .int .i64 0]) ?_ 4 _ rfl; (with_reducible repeat (first | refine blk_drewN ?_ _ | refine blk_drew ?_ | refine blk_alloc ?_ _)); refine blk_put (cs := #[.int .i64 2, .string (⟨#[]⟩ : ByteArray), .string (⟨#[]⟩ : ByteArray), .int .i64 0, .int .i64 0]) ?_ 3 _ rfl; (with_reducible repeat (first | refine blk_drewN ?_ _ | refine blk_drew ?_ | refine blk_alloc ?_ _)); refine blk_put (cs := #[.int .i64 2, .string (⟨#[]⟩ : ByteArray), .string (⟨#[]⟩ : ByteArray), .int .i64 0, .int .i64 0]) ?_ 2 _ rfl; (with_reducible repeat (first | refine blk_drewN ?_ _ | refine blk_drew ?_ | refine blk_alloc ?_ _)); refine blk_put (cs := #[.int .i64 2, .string (⟨#[]⟩ : ByteArray), .string (⟨#[]⟩ : ByteArray), .int .i64 0, .int .i64 0]) ?_ 1 _ rfl; (with_reducible repeat (first | refine blk_drewN ?_ _ | refine blk_drew ?_ | refine blk_alloc ?_ _)); refine blk_put (cs := #[.int .i64 0, .string (⟨#[]⟩ : ByteArray), .string (⟨#[]⟩ : ByteArray), .int .i64 0, .int .i64 0]) ?_ 0 _ rfl; (with_reducible repeat (first | refine blk_drewN ?_ _ | refine blk_drew ?_ | refine blk_alloc ?_ _)); exact BK159.out) k_ hk)); (case aO => exact (by (with_reducible repeat (first | apply Kd.R_alloc | apply Kd.R_drewN | apply Kd.R_drew)); exact Kd.R_mono (Kd.R_far (p := ⟨gb159, 4, none⟩) (Kd.R_far (p := ⟨gb159, 3, none⟩) (Kd.R_far (p := ⟨gb159, 2, none⟩) (Kd.R_far (p := ⟨gb159, 1, none⟩) (Kd.R_far (p := ⟨gb159, 0, none⟩) (Kd.R_mono HO_6.out (fun k_ hk => (⟨hk, hk⟩ : _ ∧ k_ ≠ gb159))) (fun _ hk => hk.2) (.int .i64 2)) (fun _ hk => hk.2) (.string (⟨#[]⟩ : ByteArray))) (fun _ hk => hk.2) (.string (⟨#[]⟩ : ByteArray))) (fun _ hk => hk.2) (.int .i64 (rd l1 x7_1))) (fun _ hk => hk.2) (.int .i64 (rd l1 (ji14)))) (fun _ hk => hk.1))); (case aS => exact (below_size (by repeat (first | (with_reducible first | exact HB.out | apply below_alloc | apply pw_below_drewN | apply below_drew1 | refine below_set ?_ GE159.out) | exact HB.out)))); (case aL => have := LMc17.out; omega); intro v167 w28 ho hb hg hat; rw [← Ny166.out] at ho; have n0_ := Aside0.mk (blk_grown (g := gb159) (o := .cells #[.int .i64 2, .string (⟨#[]⟩ : ByteArray), .string (⟨#[]⟩ : ByteArray), .int .i64 (rd l1 x7_1), .int .i64 (rd l1 (ji14))] 41 (0, 0)) (by (with_reducible repeat (first | refine blk_drewN ?_ _ | refine blk_drew ?_ | refine blk_alloc ?_ _)); refine blk_put (cs := #[.int .i64 2, .string (⟨#[]⟩ : ByteArray), .string (⟨#[]⟩ : ByteArray), .int .i64 (rd l1 x7_1), .int .i64 0]) ?_ 4 _ rfl; (with_reducible repeat (first | refine blk_drewN ?_ _ | refine blk_drew ?_ | refine blk_alloc ?_ _)); refine blk_put (cs := #[.int .i64 2, .string (⟨#[]⟩ : ByteArray), .string (⟨#[]⟩ : ByteArray), .int .i64 0, .int .i64 0]) ?_ 3 _ rfl; (with_reducible repeat (first | refine blk_drewN ?_ _ | refine blk_drew ?_ | refine blk_alloc ?_ _)); refine blk_put (cs := #[.int .i64 2, .string (⟨#[]⟩ : ByteArray), .string (⟨#[]⟩ : ByteArray), .int .i64 0, .int .i64 0]) ?_ 2 _ rfl; (with_reducible repeat (first | refine blk_drewN ?_ _ | refine blk_drew ?_ | refine blk_alloc ?_ _)); refine blk_put (cs := #[.int .i64 2, .string (⟨#[]⟩ : ByteArray), .string (⟨#[]⟩ : ByteArray), .int .i64 0, .int .i64 0]) ?_ 1 _ rfl; (with_reducible repeat (first | refine blk_drewN ?_ _ | refine blk_drew ?_ | refine blk_alloc ?_ _)); refine blk_put (cs := #[.int .i64 0, .string (⟨#[]⟩ : ByteArray), .string (⟨#[]⟩ : ByteArray), .int .i64 0, .int .i64 0]) ?_ 0 _ rfl; (with_reducible repeat (first | refine blk_drewN ?_ _ | refine blk_drew ?_ | refine blk_alloc ?_ _)); exact BK159.out) hg (Kd.R_away HO_6.out (fun _ hk => hk))); have n1_ := Aside0.mk (hb); have n2_ := Aside0.mk (ho); clear BK159; clear HB; clear HO_6; have BK159 := n0_; have HB := n1_; have HO168 := n2_; clear n0_ n1_ n2_; clear ho hb hg hat))
                          go_roundg kj2
                          case measure => have := HK1.out; have := HJ2.out; omega
                          case rel => exact ⟨(y166), (wrap64 (x7_1 + 2)), (by first | rfl | (simp; done) | (simp [*]; done)), H', ⟨by have := HK1.out; have := HJ2.out; omega⟩, ⟨by (with_reducible repeat (first | apply Kd.R_alloc | apply Kd.R_drewN | apply Kd.R_drew)); exact Kd.R_mono HO168.out (fun _ hk => trivial)⟩, ⟨by repeat (first | (with_reducible first | exact HB.out | apply below_alloc | apply pw_below_drewN | apply below_drew1 | refine below_set ?_ GE159.out) | exact HB.out)⟩⟩
                        · rw [if_neg c17] at H
                          exact absurd H (by simp)
                      · rw [if_neg c16] at H
                        exact absurd H (by simp)
                    · rw [if_neg c15] at H
                      exact absurd H (by simp)
                · rw [if_neg c8] at H
                  exact absurd H (by simp)
              · rw [if_neg c7] at H
                exact absurd H (by simp)
            · rw [if_neg c6] at H
              have c6b0 : (a0.toList == ([] : List UInt8)) = false := beq_eq_false_iff_ne.mpr c6
              have c6b1 : (a0.toList != ([] : List UInt8)) = true := bne_iff_ne.mpr c6
              by_cases c29 : 0 ≤ x7_1
              · rw [if_pos c29] at H
                have c29b0 : decide (0 ≤ x7_1) = true := decide_eq_true c29
                clear c29
                by_cases c30 : x7_1 < (l1.length : Int)
                · rw [if_pos c30] at H
                  have c30b0 : decide (x7_1 < (l1.length : Int)) = true := decide_eq_true c30
                  clear c30
                  replace H := Option.bind_eq_some_iff.mp H
                  obtain ⟨t170, A310, H⟩ := H
                  replace H : (if 0 ≤ (wrap64 (x7_1 + 1)) then (if (wrap64 (x7_1 + 1)) < (l1.length : Int) then ((postriderref07_textAt.f kj2 a0 (rd l1 (wrap64 (x7_1 + 1)))).bind fun t172 => ((postriderref06_Join.f kj2 t170 t172).bind fun bt173 => (if x6_1.length < 2513169434916 then (postriderref07_Read.l0 kj2 a0 l1 (x6_1 ++ [(⟨bt173.1, bt173.2.1, bt173.2.2.1, bt173.2.2.2.1, bt173.2.2.2.2.1⟩ : S41)]) (wrap64 (x7_1 + 2))) else (none)))) else (none)) else (none)) = some (r1, r2) := H
                  have A31 := Aside0.mk A310
                  clear A310
                  obtain ⟨ji32, hji32⟩ : ∃ j_ : Int, (wrap64 (x7_1 + 1)) = j_ := ⟨_, rfl⟩
                  replace H : (if 0 ≤ (ji32) then (if (ji32) < (l1.length : Int) then ((postriderref07_textAt.f kj2 a0 (rd l1 (ji32))).bind fun t172 => ((postriderref06_Join.f kj2 t170 t172).bind fun bt173 => (if x6_1.length < 2513169434916 then (postriderref07_Read.l0 kj2 a0 l1 (x6_1 ++ [(⟨bt173.1, bt173.2.1, bt173.2.2.1, bt173.2.2.2.1, bt173.2.2.2.2.1⟩ : S41)]) (wrap64 (x7_1 + 2))) else (none)))) else (none)) else (none)) = some (r1, r2) := by first | (rw [hji32] at H; exact H) | (simp only [hji32] at H ⊢; exact H)
                  (try rw [hji32] at A31)
                  have hji32w : (IntKind.i64.wrap (x7_1 + 1)) = ji32 := (i64_w _).trans hji32
                  by_cases c33 : 0 ≤ (ji32)
                  · rw [if_pos c33] at H
                    have c33b0 : decide (0 ≤ (ji32)) = true := decide_eq_true c33
                    clear c33
                    by_cases c34 : (ji32) < (l1.length : Int)
                    · rw [if_pos c34] at H
                      have c34b0 : decide ((ji32) < (l1.length : Int)) = true := decide_eq_true c34
                      clear c34
                      replace H := Option.bind_eq_some_iff.mp H
                      obtain ⟨t172, A350, H⟩ := H
                      replace H : ((postriderref06_Join.f kj2 t170 t172).bind fun bt173 => (if x6_1.length < 2513169434916 then (postriderref07_Read.l0 kj2 a0 l1 (x6_1 ++ [(⟨bt173.1, bt173.2.1, bt173.2.2.1, bt173.2.2.2.1, bt173.2.2.2.2.1⟩ : S41)]) (wrap64 (x7_1 + 2))) else (none))) = some (r1, r2) := H
                      have A35 := Aside0.mk A350
                      clear A350
                      replace H := Option.bind_eq_some_iff.mp H
                      obtain ⟨⟨t173, t174, t175, t176, t177, t178⟩, A360, H⟩ := H
                      replace H : (if x6_1.length < 2513169434916 then (postriderref07_Read.l0 kj2 a0 l1 (x6_1 ++ [(⟨t173, t174, t175, t176, t177⟩ : S41)]) (wrap64 (x7_1 + 2))) else (none)) = some (r1, r2) := H
                      have A36 := Aside0.mk A360
                      clear A360
                      by_cases c37 : x6_1.length < 2513169434916
                      · rw [if_pos c37] at H
                        have LMc37 := Aside0.mk c37
                        clear c37
                        obtain ⟨y179, hy179⟩ : ∃ y_ : List (S41), y_ = (x6_1 ++ [(⟨t173, t174, t175, t176, t177⟩ : S41)]) := ⟨_, rfl⟩
                        replace H : (postriderref07_Read.l0 kj2 a0 l1 y179 (wrap64 (x7_1 + 2))) = some (r1, r2) := by first | (rw [hy179]; with_reducible exact H) | (have H2_ := (Option.bind_some _ _).symm.trans H; rw [hy179]; with_reducible exact H2_) | (have H2_ := (Option.bind_some _ _).symm.trans H; with_reducible exact H2_) | with_reducible exact H | (rw [hy179]; exact H) | exact H
                        have Ny179 := Aside0.mk hy179
                        clear hy179
                        have H' := Aside0.mk H
                        clear H
                        try go_wp2_with (first | ((with_reducible refine gate_dst (N := 8) rfl ?_); refine box_event ?hg (N := 8) ?hd (cs := #[.int .i64 0, .string (⟨#[]⟩ : ByteArray), .string (⟨#[]⟩ : ByteArray), .int .i64 0, .int .i64 0]) (t := 41) ?hr ?_; (case hd => rfl); (case hg => rfl); (case hr => first | (go_simp; done) | (go_simp; rfl) | (go_simp; simp only [isEmpty_ne, isEmpty_eq]; done) | (go_simp; simp only [isEmpty_ne, isEmpty_eq]; rfl)); intro gb159 hg w38 hbox hb; have n0_ := Aside0.mk (Kd.R_below (Kd.R_elderB (by (with_reducible repeat (first | apply Kd.R_alloc | apply Kd.R_drewN | apply Kd.R_drew)); exact HO_6.out) gb159 (Nat.le_of_eq hg.symm)) hb); have n1_ := Aside0.mk (below_step (by repeat (first | (with_reducible first | exact HB.out | apply below_alloc | apply pw_below_drewN | apply below_drew1) | exact HB.out)) hb); have n2_ := Aside0.mk (hbox); have n3_ := Aside0.mk ((by rw [hg]; exact (below_size (by repeat (first | (with_reducible first | exact HB.out | apply below_alloc | apply pw_below_drewN | apply below_drew1) | exact HB.out))) : w.heap.size ≤ gb159)); have n4_ := Aside0.mk ((by rw [hg]; exact (below_size (by repeat (first | (with_reducible first | exact HB.out | apply below_alloc | apply pw_below_drewN | apply below_drew1) | exact HB.out))) : w.heap.size ≤ gb159)); clear HO_6; clear HB; have HO_6 := n0_; have HB := n1_; have BK159 := n2_; have GW159 := n3_; have GE159 := n4_; clear n0_ n1_ n2_ n3_ n4_; clear hb hbox hg; have hcz39_0 : w38.cell? ⟨gb159, 0, none⟩ = some (.int .i64 0) := (blk_cell BK159.out 0).trans rfl; have hcz39_1 : w38.cell? ⟨gb159, 1, none⟩ = some (.string (⟨#[]⟩ : ByteArray)) := (blk_cell BK159.out 1).trans rfl; have hcz39_2 : w38.cell? ⟨gb159, 2, none⟩ = some (.string (⟨#[]⟩ : ByteArray)) := (blk_cell BK159.out 2).trans rfl; have hcz39_3 : w38.cell? ⟨gb159, 3, none⟩ = some (.int .i64 0) := (blk_cell BK159.out 3).trans rfl; have hcz39_4 : w38.cell? ⟨gb159, 4, none⟩ = some (.int .i64 0) := (blk_cell BK159.out 4).trans rfl; have hfz39_0 := blk_frozen BK159.out 0; have hfz39_1 := blk_frozen BK159.out 1; have hfz39_2 := blk_frozen BK159.out 2; have hfz39_3 := blk_frozen BK159.out 3; have hfz39_4 := blk_frozen BK159.out 4))
                        have n0_ : Aside0 (Kd.R k41 41 (((((w38.setCell ⟨gb159, 0, none⟩ (.int .i64 0)).setCell ⟨gb159, 1, none⟩ (.string (⟨#[]⟩ : ByteArray))).setCell ⟨gb159, 2, none⟩ (.string (⟨#[]⟩ : ByteArray))).setCell ⟨gb159, 3, none⟩ (.int .i64 0)).setCell ⟨gb159, 4, none⟩ (.int .i64 0)) w.heap.size (fun k_ => k_ ≠ gb159) u6 x6_1) := ⟨by (with_reducible repeat (first | apply Kd.R_alloc | apply Kd.R_drewN | apply Kd.R_drew)); exact Kd.R_mono (Kd.R_far (p := ⟨gb159, 4, none⟩) (Kd.R_far (p := ⟨gb159, 3, none⟩) (Kd.R_far (p := ⟨gb159, 2, none⟩) (Kd.R_far (p := ⟨gb159, 1, none⟩) (Kd.R_far (p := ⟨gb159, 0, none⟩) (Kd.R_mono HO_6.out (fun k_ hk => (⟨hk, hk.2⟩ : _ ∧ k_ ≠ gb159))) (fun _ hk => hk.2) (.int .i64 0)) (fun _ hk => hk.2) (.string (⟨#[]⟩ : ByteArray))) (fun _ hk => hk.2) (.string (⟨#[]⟩ : ByteArray))) (fun _ hk => hk.2) (.int .i64 0)) (fun _ hk => hk.2) (.int .i64 0)) (fun _ hk => hk.1.2)⟩
                        have n1_ : Aside0 ((((((w38.setCell ⟨gb159, 0, none⟩ (.int .i64 0)).setCell ⟨gb159, 1, none⟩ (.string (⟨#[]⟩ : ByteArray))).setCell ⟨gb159, 2, none⟩ (.string (⟨#[]⟩ : ByteArray))).setCell ⟨gb159, 3, none⟩ (.int .i64 0)).setCell ⟨gb159, 4, none⟩ (.int .i64 0)).heap[gb159]? = some (.cells #[.int .i64 0, .string (⟨#[]⟩ : ByteArray), .string (⟨#[]⟩ : ByteArray), .int .i64 0, .int .i64 0] 41 (0, 0))) := ⟨by (with_reducible repeat (first | refine blk_drewN ?_ _ | refine blk_drew ?_ | refine blk_alloc ?_ _)); refine blk_put (cs := #[.int .i64 0, .string (⟨#[]⟩ : ByteArray), .string (⟨#[]⟩ : ByteArray), .int .i64 0, .int .i64 0]) ?_ 4 _ rfl; (with_reducible repeat (first | refine blk_drewN ?_ _ | refine blk_drew ?_ | refine blk_alloc ?_ _)); refine blk_put (cs := #[.int .i64 0, .string (⟨#[]⟩ : ByteArray), .string (⟨#[]⟩ : ByteArray), .int .i64 0, .int .i64 0]) ?_ 3 _ rfl; (with_reducible repeat (first | refine blk_drewN ?_ _ | refine blk_drew ?_ | refine blk_alloc ?_ _)); refine blk_put (cs := #[.int .i64 0, .string (⟨#[]⟩ : ByteArray), .string (⟨#[]⟩ : ByteArray), .int .i64 0, .int .i64 0]) ?_ 2 _ rfl; (with_reducible repeat (first | refine blk_drewN ?_ _ | refine blk_drew ?_ | refine blk_alloc ?_ _)); refine blk_put (cs := #[.int .i64 0, .string (⟨#[]⟩ : ByteArray), .string (⟨#[]⟩ : ByteArray), .int .i64 0, .int .i64 0]) ?_ 1 _ rfl; (with_reducible repeat (first | refine blk_drewN ?_ _ | refine blk_drew ?_ | refine blk_alloc ?_ _)); refine blk_put (cs := #[.int .i64 0, .string (⟨#[]⟩ : ByteArray), .string (⟨#[]⟩ : ByteArray), .int .i64 0, .int .i64 0]) ?_ 0 _ rfl; (with_reducible repeat (first | refine blk_drewN ?_ _ | refine blk_drew ?_ | refine blk_alloc ?_ _)); exact BK159.out⟩
                        have n2_ : Aside0 (Below w.heap.size w (((((w38.setCell ⟨gb159, 0, none⟩ (.int .i64 0)).setCell ⟨gb159, 1, none⟩ (.string (⟨#[]⟩ : ByteArray))).setCell ⟨gb159, 2, none⟩ (.string (⟨#[]⟩ : ByteArray))).setCell ⟨gb159, 3, none⟩ (.int .i64 0)).setCell ⟨gb159, 4, none⟩ (.int .i64 0))) := ⟨by repeat (first | (with_reducible first | exact HB.out | apply below_alloc | apply pw_below_drewN | apply below_drew1 | refine below_set ?_ GE159.out) | exact HB.out)⟩
                        (try clear HO_6)
                        (try clear BK159)
                        (try clear HB)
                        generalize (((((w38.setCell ⟨gb159, 0, none⟩ (.int .i64 0)).setCell ⟨gb159, 1, none⟩ (.string (⟨#[]⟩ : ByteArray))).setCell ⟨gb159, 2, none⟩ (.string (⟨#[]⟩ : ByteArray))).setCell ⟨gb159, 3, none⟩ (.int .i64 0)).setCell ⟨gb159, 4, none⟩ (.int .i64 0)) = w40 at n0_ n1_ n2_ ⊢
                        have HO_6 := n0_
                        have BK159 := n1_
                        have HB := n2_
                        clear n0_ n1_ n2_
                        have n0_ := Aside0.mk (Kd.R_drew HO_6.out)
                        have n1_ := Aside0.mk (blk_drew BK159.out)
                        have n2_ := Aside0.mk (below_drew1 HB.out)
                        clear HO_6
                        clear BK159
                        clear HB
                        have HO_6 := n0_
                        have BK159 := n1_
                        have HB := n2_
                        clear n0_ n1_ n2_
                        have p169 : 0 ≤ (x7_1 : Int) := of_decide_eq_true (by first | (with_reducible assumption) | assumption)
                        have q169 : x7_1 < (l1.length : Int) := of_decide_eq_true (by first | (with_reducible assumption) | assumption)
                        obtain ⟨ad169, e169, hx169_0⟩ := Kd.at_int HR1.out x7_1 p169 q169
                        have hw169_0 := hx169_0
                        cases e169
                        replace hx169_0 := (HB.out.cell (World.block_lt_of_cell? w _ hx169_0)).trans hx169_0
                        replace p169 := eq_true p169
                        replace q169 := eq_true q169
                        have p171 : 0 ≤ ((ji32) : Int) := of_decide_eq_true (by first | (with_reducible assumption) | assumption)
                        have q171 : (ji32) < (l1.length : Int) := of_decide_eq_true (by first | (with_reducible assumption) | assumption)
                        obtain ⟨ad171, e171, hx171_0⟩ := Kd.at_int HR1.out (ji32) p171 q171
                        have hw171_0 := hx171_0
                        obtain rfl : ad169 = ad171 := (by injection e171)
                        replace hx171_0 := (HB.out.cell (World.block_lt_of_cell? w _ hx171_0)).trans hx171_0
                        replace p171 := eq_true p171
                        replace q171 := eq_true q171
                        refine start_ (n := 18) (S := fun w' => w'.cell? (ad169.add (x7_1).toNat) = some (.int .i64 (rd l1 x7_1)) ∧ w'.cell? (ad169.add ((ji32)).toNat) = some (.int .i64 (rd l1 (ji32)))) (ds := []) #[false, false, false, false, false, false, false, false, false, false, false, false, false, false, false, false, false, false] (by kernel_rfl) rfl rfl ⟨((HB.out.cell (World.block_lt_of_cell? w _ hw169_0)).trans hw169_0), ((HB.out.cell (World.block_lt_of_cell? w _ hw171_0)).trans hw171_0)⟩ (fun hHeld => ?_); refine with_tabW postriderref07_Read.tab7 postriderref07_Read.bits7 (fun HT_ HW_ => ?_)
                        generalize w40.drew = w41 at HO_6 BK159 HB hx169_0 hx171_0 hHeld ⊢
                        refine pure_ (i := 0) (N := some 27) (v := ?_) (a' := ?_) #[true, false, false, false, false, false, false, false, false, false, false, false, false, false, false, false, false, false] rfl rfl (any_of HT_.out (by kernel_rfl)) (fun _ _ _ h => h) (Or.inl ⟨by rfl, ?_⟩) ?_ ?_
                        rotate_left
                        · intro w'
                          go_simp
                          with_reducible rfl
                        rotate_left
                        · simp only [Act.put, List.setIfInBounds_toArray, List.set_cons_zero, List.set_cons_succ, i64_w, i32_w]
                          rfl
                        refine pure_ (i := 1) (N := some 28) (v := ?_) (a' := ?_) #[true, true, false, false, false, false, false, false, false, false, false, false, false, false, false, false, false, false] rfl rfl (any_of HT_.out (by kernel_rfl)) (fun _ _ _ h => h) (Or.inl ⟨by rfl, ?_⟩) ?_ ?_
                        rotate_left
                        · intro w'
                          go_simp
                          with_reducible rfl
                        rotate_left
                        · simp only [Act.put, List.setIfInBounds_toArray, List.set_cons_zero, List.set_cons_succ, i64_w, i32_w]
                          rfl
                        refine pure_ (i := 2) (N := some 29) (v := ?_) (a' := ?_) #[true, true, true, false, false, false, false, false, false, false, false, false, false, false, false, false, false, false] rfl rfl (any_of HT_.out (by kernel_rfl)) (fun _ _ _ h => h) (Or.inl ⟨by rfl, ?_⟩) ?_ ?_
                        rotate_left
                        · intro w'
                          go_simp
                          with_reducible rfl
                        rotate_left
                        · simp only [Act.put, List.setIfInBounds_toArray, List.set_cons_zero, List.set_cons_succ, i64_w, i32_w]
                          rfl
                        refine pure_ (i := 3) (N := some 30) (v := ?_) (a' := ?_) #[true, true, true, true, false, false, false, false, false, false, false, false, false, false, false, false, false, false] rfl rfl (any_of HT_.out (by kernel_rfl)) (fun _ _ _ h => h) (Or.inl ⟨by rfl, ?_⟩) ?_ ?_
                        rotate_left
                        · intro w'
                          go_simp
                          with_reducible rfl
                        rotate_left
                        · simp only [Act.put, List.setIfInBounds_toArray, List.set_cons_zero, List.set_cons_succ, i64_w, i32_w]
                          rfl
                        refine pure_ (i := 6) (N := some 33) (v := ?_) (a' := ?_) #[true, true, true, true, false, false, true, false, false, false, false, false, false, false, false, false, false, false] rfl rfl (any_of HT_.out (by kernel_rfl)) (fun _ _ _ h => h) (Or.inl ⟨by rfl, ?_⟩) ?_ ?_
                        rotate_left
                        · intro w'
                          go_simp
                          with_reducible rfl
                        rotate_left
                        · simp only [Act.put, List.setIfInBounds_toArray, List.set_cons_zero, List.set_cons_succ, i64_w, i32_w]
                          rfl
                        refine pure_ (i := 7) (N := some 34) (v := ?_) (a' := ?_) #[true, true, true, true, false, false, true, true, false, false, false, false, false, false, false, false, false, false] rfl rfl (any_of HT_.out (by kernel_rfl)) (fun _ _ _ h => h) (Or.inl ⟨by rfl, ?_⟩) ?_ ?_
                        rotate_left
                        · intro w'
                          go_simp
                          with_reducible rfl
                        rotate_left
                        · simp only [Act.put, List.setIfInBounds_toArray, List.set_cons_zero, List.set_cons_succ, i64_w, i32_w]
                          rfl
                        refine pure_ (i := 8) (N := some 35) (v := ?_) (a' := ?_) #[true, true, true, true, false, false, true, true, true, false, false, false, false, false, false, false, false, false] rfl rfl (any_of HT_.out (by kernel_rfl)) (fun _ _ _ h => h) (Or.inl ⟨by rfl, ?_⟩) ?_ ?_
                        rotate_left
                        · intro w'
                          go_simp
                          with_reducible rfl
                        rotate_left
                        · simp only [Act.put, List.setIfInBounds_toArray, List.set_cons_zero, List.set_cons_succ, i64_w, i32_w]
                          rfl
                        refine pure_ (i := 9) (N := some 36) (v := ?_) (a' := ?_) #[true, true, true, true, false, false, true, true, true, true, false, false, false, false, false, false, false, false] rfl rfl (any_of HT_.out (by kernel_rfl)) (fun _ _ _ h => h) (Or.inl ⟨by rfl, ?_⟩) ?_ ?_
                        rotate_left
                        · intro w'
                          go_simp
                          with_reducible rfl
                        rotate_left
                        · simp only [Act.put, List.setIfInBounds_toArray, List.set_cons_zero, List.set_cons_succ, i64_w, i32_w]
                          rfl
                        refine pure_ (i := 10) (N := some 37) (v := ?_) (a' := ?_) #[true, true, true, true, false, false, true, true, true, true, true, false, false, false, false, false, false, false] rfl rfl (any_of HT_.out (by kernel_rfl)) (fun _ _ _ h => h) (Or.inl ⟨by rfl, ?_⟩) ?_ ?_
                        rotate_left
                        · intro w'
                          go_simp
                          with_reducible rfl
                        rotate_left
                        · simp only [Act.put, List.setIfInBounds_toArray, List.set_cons_zero, List.set_cons_succ, i64_w, i32_w]
                          rfl
                        refine take_ (i := 4) (N := some 31) (v := ?_) (a' := ?_) #[true, true, true, true, true, false, true, true, true, true, true, false, false, false, false, false, false, false] rfl rfl (take_ofW HT_.out HW_.out (by kernel_rfl)) (fun _ _ _ h => h) (Or.inl ⟨by rfl, ?_⟩) hHeld ?_ ?_
                        rotate_left
                        · rintro w' ⟨s0, s1⟩
                          go_simp
                          with_reducible rfl
                        rotate_left
                        · simp only [Act.put, List.setIfInBounds_toArray, List.set_cons_zero, List.set_cons_succ, i64_w, i32_w]
                          rfl
                        refine take_ (i := 11) (N := some 38) (v := ?_) (a' := ?_) #[true, true, true, true, true, false, true, true, true, true, true, true, false, false, false, false, false, false] rfl rfl (take_ofW HT_.out HW_.out (by kernel_rfl)) (fun _ _ _ h => h) (Or.inl ⟨by rfl, ?_⟩) hHeld ?_ ?_
                        rotate_left
                        · rintro w' ⟨s0, s1⟩
                          go_simp
                          with_reducible rfl
                        rotate_left
                        · simp only [Act.put, List.setIfInBounds_toArray, List.set_cons_zero, List.set_cons_succ, i64_w, i32_w]
                          rfl
                        refine one_ (i := 5) (N := some 32) #[true, true, true, true, true, true, true, true, true, true, true, true, false, false, false, false, false, false] rfl rfl (one_of HT_.out (by kernel_rfl)) (by decide) (fun K hK => ?_)
                        refine goes_ Tryz.func33 (by kernel_rfl) rfl #[.string a0, .int .i64 (rd l1 x7_1)] (by rfl) rfl rfl (by (try simp only [List.map_toArray, List.map_cons, List.map_nil]); first | done | rfl | (simp only [List.length_drop, List.length_take]; rfl)) ?_
                        with_reducible refine (postriderref07_textAt.calls kj2 a0 (rd l1 x7_1) t170 _ A31.out).mono ?_
                        rintro e w' ⟨rfl, ⟨nd, rfl⟩⟩
                        refine ⟨_, rfl, ?_⟩
                        refine hK.out _ _ ⟨((HB.out.cell (World.block_lt_of_cell? w _ hw169_0)).trans hw169_0), ((HB.out.cell (World.block_lt_of_cell? w _ hw171_0)).trans hw171_0)⟩ (fun hHeld => ?_)
                        clear hK K
                        refine norm_ (a' := ?_) ?_ ?_
                        rotate_left
                        · show Act.put _ (some 32) _ = _
                          simp only [Act.put, List.setIfInBounds_toArray, List.set_cons_zero, List.set_cons_succ, i64_w, i32_w]
                          rfl
                        refine one_ (i := 12) (N := some 39) #[true, true, true, true, true, true, true, true, true, true, true, true, true, false, false, false, false, false] rfl rfl (one_of HT_.out (by kernel_rfl)) (by decide) (fun K hK => ?_)
                        refine goes_ Tryz.func33 (by kernel_rfl) rfl #[.string a0, .int .i64 (rd l1 (ji32))] (by rfl) rfl rfl (by (try simp only [List.map_toArray, List.map_cons, List.map_nil]); first | done | (simp only [hji32]; rfl) | rfl | (simp only [List.length_drop, List.length_take]; rfl)) ?_
                        with_reducible refine (postriderref07_textAt.calls kj2 a0 (rd l1 (ji32)) t172 _ A35.out).mono ?_
                        rintro e w' ⟨rfl, ⟨nd, rfl⟩⟩
                        refine ⟨_, rfl, ?_⟩
                        refine hK.out _ _ ⟨((HB.out.cell (World.block_lt_of_cell? w _ hw169_0)).trans hw169_0), ((HB.out.cell (World.block_lt_of_cell? w _ hw171_0)).trans hw171_0)⟩ (fun hHeld => ?_)
                        clear hK K
                        refine norm_ (a' := ?_) ?_ ?_
                        rotate_left
                        · show Act.put _ (some 39) _ = _
                          simp only [Act.put, List.setIfInBounds_toArray, List.set_cons_zero, List.set_cons_succ, i64_w, i32_w]
                          rfl
                        refine one_ (i := 13) (N := some 40) #[true, true, true, true, true, true, true, true, true, true, true, true, true, true, false, false, false, false] rfl rfl (one_of HT_.out (by kernel_rfl)) (by decide) (fun K hK => ?_)
                        refine goes_ Tryz.func32 (by kernel_rfl) rfl #[.string t170, .string t172] (by rfl) rfl rfl (by (try simp only [List.map_toArray, List.map_cons, List.map_nil]); first | done | rfl | (simp only [List.length_drop, List.length_take]; rfl)) ?_
                        with_reducible refine (postriderref06_Join.calls kj2 t170 t172 t173 t174 t175 t176 t177 t178 _ A36.out).mono ?_
                        rintro e w42 ⟨rfl, hb⟩
                        refine ⟨_, rfl, ?_⟩
                        have n0_ := Aside0.mk (Kd.R_below (by (with_reducible repeat (first | apply Kd.R_alloc | apply Kd.R_drewN | apply Kd.R_drew)); exact HO_6.out) hb)
                        have n1_ := Aside0.mk (blk_below (g := gb159) (o := .cells #[.int .i64 0, .string (⟨#[]⟩ : ByteArray), .string (⟨#[]⟩ : ByteArray), .int .i64 0, .int .i64 0] 41 (0, 0)) (by (with_reducible repeat (first | refine blk_drewN ?_ _ | refine blk_drew ?_ | refine blk_alloc ?_ _)); exact BK159.out) hb)
                        have n2_ := Aside0.mk (below_step (by repeat (first | (with_reducible first | exact HB.out | apply below_alloc | apply pw_below_drewN | apply below_drew1 | refine below_set ?_ GE159.out) | exact HB.out)) hb)
                        clear HO_6
                        clear BK159
                        clear HB
                        have HO_6 := n0_
                        have BK159 := n1_
                        have HB := n2_
                        clear n0_ n1_ n2_
                        (try clear hb)
                        (try clear hb2)
                        (try clear hk)
                        (try clear hi)
                        refine hK.out _ _ ⟨((HB.out.cell (World.block_lt_of_cell? w _ hw169_0)).trans hw169_0), ((HB.out.cell (World.block_lt_of_cell? w _ hw171_0)).trans hw171_0)⟩ (fun hHeld => ?_)
                        clear hK K
                        refine norm_ (a' := ?_) ?_ ?_
                        rotate_left
                        · show Act.put _ (some 40) _ = _
                          simp only [Act.put, List.setIfInBounds_toArray, List.set_cons_zero, List.set_cons_succ, i64_w, i32_w]
                          rfl
                        refine pure_ (i := 14) (N := some 26) (v := ?_) (a' := ?_) #[true, true, true, true, true, true, true, true, true, true, true, true, true, true, true, false, false, false] rfl rfl (any_of HT_.out (by kernel_rfl)) (fun _ _ _ h => h) (Or.inl ⟨by rfl, ?_⟩) ?_ ?_
                        rotate_left
                        · intro w'
                          go_simp
                          with_reducible rfl
                        rotate_left
                        · simp only [Act.put, List.setIfInBounds_toArray, List.set_cons_zero, List.set_cons_succ, i64_w, i32_w]
                          rfl
                        refine pure_ (i := 15) (N := some 41) (v := ?_) (a' := ?_) #[true, true, true, true, true, true, true, true, true, true, true, true, true, true, true, true, false, false] rfl rfl (any_of HT_.out (by kernel_rfl)) (fun _ _ _ h => h) (Or.inl ⟨by rfl, ?_⟩) ?_ ?_
                        rotate_left
                        · intro w'
                          go_simp
                          with_reducible rfl
                        rotate_left
                        · simp only [Act.put, List.setIfInBounds_toArray, List.set_cons_zero, List.set_cons_succ, i64_w, i32_w]
                          rfl
                        refine pure_ (i := 16) (N := some 42) (v := ?_) (a' := ?_) #[true, true, true, true, true, true, true, true, true, true, true, true, true, true, true, true, true, false] rfl rfl (any_of HT_.out (by kernel_rfl)) (fun _ _ _ h => h) (Or.inl ⟨by rfl, ?_⟩) ?_ ?_
                        rotate_left
                        · intro w'
                          go_simp
                          with_reducible rfl
                        rotate_left
                        · simp only [Act.put, List.setIfInBounds_toArray, List.set_cons_zero, List.set_cons_succ, i64_w, i32_w]
                          rfl
                        refine one_ (i := 17) (N := none) #[true, true, true, true, true, true, true, true, true, true, true, true, true, true, true, true, true, true] rfl rfl (one_of HT_.out (by kernel_rfl)) (by decide) (fun K hK => ?_)
                        have hs43 : w42.cell? ⟨gb159, 0, none⟩ = some (.int .i64 0) := (blk_cell BK159.out 0).trans rfl
                        have hfs43 := blk_frozen BK159.out 0
                        have hs44 : w42.cell? ⟨gb159, 1, none⟩ = some (.string (⟨#[]⟩ : ByteArray)) := (blk_cell BK159.out 1).trans rfl
                        have hfs44 := blk_frozen BK159.out 1
                        have hs45 : w42.cell? ⟨gb159, 2, none⟩ = some (.string (⟨#[]⟩ : ByteArray)) := (blk_cell BK159.out 2).trans rfl
                        have hfs45 := blk_frozen BK159.out 2
                        have hs46 : w42.cell? ⟨gb159, 3, none⟩ = some (.int .i64 0) := (blk_cell BK159.out 3).trans rfl
                        have hfs46 := blk_frozen BK159.out 3
                        have hs47 : w42.cell? ⟨gb159, 4, none⟩ = some (.int .i64 0) := (blk_cell BK159.out 4).trans rfl
                        have hfs47 := blk_frozen BK159.out 4
                        refine skip_ (w1 := ?_) (by rfl) rfl ?_ ?_
                        rotate_left
                        · go_simp
                          rfl
                        refine hK.out _ _ ⟨((cell_far (p := ⟨gb159, _, none⟩) (by first | exact Nat.ne_of_lt (Nat.lt_of_lt_of_le (by have := World.block_lt_of_cell? _ _ hw169_0; first | rwa [add_block] at this | exact this) GW159.out) | (rw [add_block]; exact Nat.ne_of_lt (Nat.lt_of_lt_of_le (by have := World.block_lt_of_cell? _ _ hw169_0; first | rwa [add_block] at this | exact this) GW159.out)) | (show (Addr.add _ _).block ≠ _; rw [add_block]; exact Nat.ne_of_lt (Nat.lt_of_lt_of_le (by have := World.block_lt_of_cell? _ _ hw169_0; first | rwa [add_block] at this | exact this) GW159.out)) | (dsimp only; exact Nat.ne_of_lt (Nat.lt_of_lt_of_le (by have := World.block_lt_of_cell? _ _ hw169_0; first | rwa [add_block] at this | exact this) GW159.out))) _).trans (((cell_far (p := ⟨gb159, _, none⟩) (by first | exact Nat.ne_of_lt (Nat.lt_of_lt_of_le (by have := World.block_lt_of_cell? _ _ hw169_0; first | rwa [add_block] at this | exact this) GW159.out) | (rw [add_block]; exact Nat.ne_of_lt (Nat.lt_of_lt_of_le (by have := World.block_lt_of_cell? _ _ hw169_0; first | rwa [add_block] at this | exact this) GW159.out)) | (show (Addr.add _ _).block ≠ _; rw [add_block]; exact Nat.ne_of_lt (Nat.lt_of_lt_of_le (by have := World.block_lt_of_cell? _ _ hw169_0; first | rwa [add_block] at this | exact this) GW159.out)) | (dsimp only; exact Nat.ne_of_lt (Nat.lt_of_lt_of_le (by have := World.block_lt_of_cell? _ _ hw169_0; first | rwa [add_block] at this | exact this) GW159.out))) _).trans (((cell_far (p := ⟨gb159, _, none⟩) (by first | exact Nat.ne_of_lt (Nat.lt_of_lt_of_le (by have := World.block_lt_of_cell? _ _ hw169_0; first | rwa [add_block] at this | exact this) GW159.out) | (rw [add_block]; exact Nat.ne_of_lt (Nat.lt_of_lt_of_le (by have := World.block_lt_of_cell? _ _ hw169_0; first | rwa [add_block] at this | exact this) GW159.out)) | (show (Addr.add _ _).block ≠ _; rw [add_block]; exact Nat.ne_of_lt (Nat.lt_of_lt_of_le (by have := World.block_lt_of_cell? _ _ hw169_0; first | rwa [add_block] at this | exact this) GW159.out)) | (dsimp only; exact Nat.ne_of_lt (Nat.lt_of_lt_of_le (by have := World.block_lt_of_cell? _ _ hw169_0; first | rwa [add_block] at this | exact this) GW159.out))) _).trans (((cell_far (p := ⟨gb159, _, none⟩) (by first | exact Nat.ne_of_lt (Nat.lt_of_lt_of_le (by have := World.block_lt_of_cell? _ _ hw169_0; first | rwa [add_block] at this | exact this) GW159.out) | (rw [add_block]; exact Nat.ne_of_lt (Nat.lt_of_lt_of_le (by have := World.block_lt_of_cell? _ _ hw169_0; first | rwa [add_block] at this | exact this) GW159.out)) | (show (Addr.add _ _).block ≠ _; rw [add_block]; exact Nat.ne_of_lt (Nat.lt_of_lt_of_le (by have := World.block_lt_of_cell? _ _ hw169_0; first | rwa [add_block] at this | exact this) GW159.out)) | (dsimp only; exact Nat.ne_of_lt (Nat.lt_of_lt_of_le (by have := World.block_lt_of_cell? _ _ hw169_0; first | rwa [add_block] at this | exact this) GW159.out))) _).trans (((cell_far (p := ⟨gb159, _, none⟩) (by first | exact Nat.ne_of_lt (Nat.lt_of_lt_of_le (by have := World.block_lt_of_cell? _ _ hw169_0; first | rwa [add_block] at this | exact this) GW159.out) | (rw [add_block]; exact Nat.ne_of_lt (Nat.lt_of_lt_of_le (by have := World.block_lt_of_cell? _ _ hw169_0; first | rwa [add_block] at this | exact this) GW159.out)) | (show (Addr.add _ _).block ≠ _; rw [add_block]; exact Nat.ne_of_lt (Nat.lt_of_lt_of_le (by have := World.block_lt_of_cell? _ _ hw169_0; first | rwa [add_block] at this | exact this) GW159.out)) | (dsimp only; exact Nat.ne_of_lt (Nat.lt_of_lt_of_le (by have := World.block_lt_of_cell? _ _ hw169_0; first | rwa [add_block] at this | exact this) GW159.out))) _).trans (hHeld.1)))))))))), ((cell_far (p := ⟨gb159, _, none⟩) (by first | exact Nat.ne_of_lt (Nat.lt_of_lt_of_le (by have := World.block_lt_of_cell? _ _ hw171_0; first | rwa [add_block] at this | exact this) GW159.out) | (rw [add_block]; exact Nat.ne_of_lt (Nat.lt_of_lt_of_le (by have := World.block_lt_of_cell? _ _ hw171_0; first | rwa [add_block] at this | exact this) GW159.out)) | (show (Addr.add _ _).block ≠ _; rw [add_block]; exact Nat.ne_of_lt (Nat.lt_of_lt_of_le (by have := World.block_lt_of_cell? _ _ hw171_0; first | rwa [add_block] at this | exact this) GW159.out)) | (dsimp only; exact Nat.ne_of_lt (Nat.lt_of_lt_of_le (by have := World.block_lt_of_cell? _ _ hw171_0; first | rwa [add_block] at this | exact this) GW159.out))) _).trans (((cell_far (p := ⟨gb159, _, none⟩) (by first | exact Nat.ne_of_lt (Nat.lt_of_lt_of_le (by have := World.block_lt_of_cell? _ _ hw171_0; first | rwa [add_block] at this | exact this) GW159.out) | (rw [add_block]; exact Nat.ne_of_lt (Nat.lt_of_lt_of_le (by have := World.block_lt_of_cell? _ _ hw171_0; first | rwa [add_block] at this | exact this) GW159.out)) | (show (Addr.add _ _).block ≠ _; rw [add_block]; exact Nat.ne_of_lt (Nat.lt_of_lt_of_le (by have := World.block_lt_of_cell? _ _ hw171_0; first | rwa [add_block] at this | exact this) GW159.out)) | (dsimp only; exact Nat.ne_of_lt (Nat.lt_of_lt_of_le (by have := World.block_lt_of_cell? _ _ hw171_0; first | rwa [add_block] at this | exact this) GW159.out))) _).trans (((cell_far (p := ⟨gb159, _, none⟩) (by first | exact Nat.ne_of_lt (Nat.lt_of_lt_of_le (by have := World.block_lt_of_cell? _ _ hw171_0; first | rwa [add_block] at this | exact this) GW159.out) | (rw [add_block]; exact Nat.ne_of_lt (Nat.lt_of_lt_of_le (by have := World.block_lt_of_cell? _ _ hw171_0; first | rwa [add_block] at this | exact this) GW159.out)) | (show (Addr.add _ _).block ≠ _; rw [add_block]; exact Nat.ne_of_lt (Nat.lt_of_lt_of_le (by have := World.block_lt_of_cell? _ _ hw171_0; first | rwa [add_block] at this | exact this) GW159.out)) | (dsimp only; exact Nat.ne_of_lt (Nat.lt_of_lt_of_le (by have := World.block_lt_of_cell? _ _ hw171_0; first | rwa [add_block] at this | exact this) GW159.out))) _).trans (((cell_far (p := ⟨gb159, _, none⟩) (by first | exact Nat.ne_of_lt (Nat.lt_of_lt_of_le (by have := World.block_lt_of_cell? _ _ hw171_0; first | rwa [add_block] at this | exact this) GW159.out) | (rw [add_block]; exact Nat.ne_of_lt (Nat.lt_of_lt_of_le (by have := World.block_lt_of_cell? _ _ hw171_0; first | rwa [add_block] at this | exact this) GW159.out)) | (show (Addr.add _ _).block ≠ _; rw [add_block]; exact Nat.ne_of_lt (Nat.lt_of_lt_of_le (by have := World.block_lt_of_cell? _ _ hw171_0; first | rwa [add_block] at this | exact this) GW159.out)) | (dsimp only; exact Nat.ne_of_lt (Nat.lt_of_lt_of_le (by have := World.block_lt_of_cell? _ _ hw171_0; first | rwa [add_block] at this | exact this) GW159.out))) _).trans (((cell_far (p := ⟨gb159, _, none⟩) (by first | exact Nat.ne_of_lt (Nat.lt_of_lt_of_le (by have := World.block_lt_of_cell? _ _ hw171_0; first | rwa [add_block] at this | exact this) GW159.out) | (rw [add_block]; exact Nat.ne_of_lt (Nat.lt_of_lt_of_le (by have := World.block_lt_of_cell? _ _ hw171_0; first | rwa [add_block] at this | exact this) GW159.out)) | (show (Addr.add _ _).block ≠ _; rw [add_block]; exact Nat.ne_of_lt (Nat.lt_of_lt_of_le (by have := World.block_lt_of_cell? _ _ hw171_0; first | rwa [add_block] at this | exact this) GW159.out)) | (dsimp only; exact Nat.ne_of_lt (Nat.lt_of_lt_of_le (by have := World.block_lt_of_cell? _ _ hw171_0; first | rwa [add_block] at this | exact this) GW159.out))) _).trans (hHeld.2))))))))))⟩ (fun hHeld => ?_)
                        clear hK K
                        refine done_ (done_of HT_.out (by kernel_rfl)) ?_
                        have hcz48_0 : w42.cell? ⟨gb159, 0, none⟩ = some (.int .i64 0) := (blk_cell BK159.out 0).trans rfl
                        have hcz48_1 : w42.cell? ⟨gb159, 1, none⟩ = some (.string (⟨#[]⟩ : ByteArray)) := (blk_cell BK159.out 1).trans rfl
                        have hcz48_2 : w42.cell? ⟨gb159, 2, none⟩ = some (.string (⟨#[]⟩ : ByteArray)) := (blk_cell BK159.out 2).trans rfl
                        have hcz48_3 : w42.cell? ⟨gb159, 3, none⟩ = some (.int .i64 0) := (blk_cell BK159.out 3).trans rfl
                        have hcz48_4 : w42.cell? ⟨gb159, 4, none⟩ = some (.int .i64 0) := (blk_cell BK159.out 4).trans rfl
                        have hfz48_0 := blk_frozen BK159.out 0
                        have hfz48_1 := blk_frozen BK159.out 1
                        have hfz48_2 := blk_frozen BK159.out 2
                        have hfz48_3 := blk_frozen BK159.out 3
                        have hfz48_4 := blk_frozen BK159.out 4
                        try go_wp2_with (first | ((with_reducible refine gate_builtin (b := .append) (xs := #[.tmp 58, .tmp 60]) rfl ?_); at_builtin; refine Kd.R_append k41 (w0 := w) w.heap.size rfl (.tmp 58) (.tmp 60) 22 41 (.agg #[(.int .i64 0), (.string ⟨#[]⟩), (.string ⟨#[]⟩), (.int .i64 0), (.int .i64 0)]) 56 rfl Tryz.underlying22 info41 rfl (by decide) (by omega) u6 x6_1 (⟨t173, t174, t175, t176, t177⟩ : S41) [.int .i64 t173, .string t174, .string t175, .int .i64 t176, .int .i64 t177] (fun k_ => k_ ≠ gb159) (fun _ => False) rfl (by first | (go_simp; done) | (go_simp; rfl)) ?aP (fun _ hk => hk.elim) ?aF ?aO ?aB ?aS ?aL ?_; (case aP => exact k41_mkM _ _ _ (⟨t173, t174, t175, t176, t177⟩ : S41)); (case aB => exact (by repeat (first | (with_reducible first | exact HB.out | apply below_alloc | apply pw_below_drewN | apply below_drew1 | refine below_set ?_ GE159.out) | exact HB.out))); (case aF => exact (fun k_ hk => Kd.freshB (g := gb159) (o := .cells #[.int .i64 t173, .string t174, .string t175, .int .i64 t176, .int .i64 t177] 41 (0, 0)) (by (with_reducible repeat (first | refine blk_drewN ?_ _ | refine blk_drew ?_ | refine blk_alloc ?_ _)); refine blk_put (cs := #[.int .i64 t173, .string t174, .string t175, .int .i64 t176, .int .i64 0]) ?_ 4 _ rfl; (with_reducible repeat (first | refine blk_drewN ?_ _ | refine blk_drew ?_ | refine blk_alloc ?_ _)); refine blk_put (cs := #[.int .i64 t173, .string t174, .string t175, .int .i64 0, .int .i64 0]) ?_ 3 _ rfl; (with_reducible repeat (first | refine blk_drewN ?_ _ | refine blk_drew ?_ | refine blk_alloc ?_ _)); refine blk_put (cs := #[.int .i64 t173, .string t174, .string (⟨#[]⟩ : ByteArray), .int .i64 0, .int .i64 0]) ?_ 2 _ rfl; (with_reducible repeat (first | refine blk_drewN ?_ _ | refine blk_drew ?_ | refine blk_alloc ?_ _)); refine blk_put (cs := #[.int .i64 t173, .string (⟨#[]⟩ : ByteArray), .string (⟨#[]⟩ : ByteArray), .int .i64 0, .int .i64 0]) ?_ 1 _ rfl; (with_reducible repeat (first | refine blk_drewN ?_ _ | refine blk_drew ?_ | refine blk_alloc ?_ _)); refine blk_put (cs := #[.int .i64 0, .string (⟨#[]⟩ : ByteArray), .string (⟨#[]⟩ : ByteArray), .int .i64 0, .int .i64 0]) ?_ 0 _ rfl; (with_reducible repeat (first | refine blk_drewN ?_ _ | refine blk_drew ?_ | refine blk_alloc ?_ _)); exact BK159.out) k_ hk)); (case aO => exact (by (with_reducible repeat (first | apply Kd.R_alloc | apply Kd.R_drewN | apply Kd.R_drew)); exact Kd.R_mono (Kd.R_far (p := ⟨gb159, 4, none⟩) (Kd.R_far (p := ⟨gb159, 3, none⟩) (Kd.R_far (p := ⟨gb159, 2, none⟩) (Kd.R_far (p := ⟨gb159, 1, none⟩) (Kd.R_far (p := ⟨gb159, 0, none⟩) (Kd.R_mono HO_6.out (fun k_ hk => (⟨hk, hk⟩ : _ ∧ k_ ≠ gb159))) (fun _ hk => hk.2) (.int .i64 t173)) (fun _ hk => hk.2) (.string t174)) (fun _ hk => hk.2) (.string t175)) (fun _ hk => hk.2) (.int .i64 t176)) (fun _ hk => hk.2) (.int .i64 t177)) (fun _ hk => hk.1))); (case aS => exact (below_size (by repeat (first | (with_reducible first | exact HB.out | apply below_alloc | apply pw_below_drewN | apply below_drew1 | refine below_set ?_ GE159.out) | exact HB.out)))); (case aL => have := LMc37.out; omega); intro v180 w49 ho hb hg hat; rw [← Ny179.out] at ho; have n0_ := Aside0.mk (blk_grown (g := gb159) (o := .cells #[.int .i64 t173, .string t174, .string t175, .int .i64 t176, .int .i64 t177] 41 (0, 0)) (by (with_reducible repeat (first | refine blk_drewN ?_ _ | refine blk_drew ?_ | refine blk_alloc ?_ _)); refine blk_put (cs := #[.int .i64 t173, .string t174, .string t175, .int .i64 t176, .int .i64 0]) ?_ 4 _ rfl; (with_reducible repeat (first | refine blk_drewN ?_ _ | refine blk_drew ?_ | refine blk_alloc ?_ _)); refine blk_put (cs := #[.int .i64 t173, .string t174, .string t175, .int .i64 0, .int .i64 0]) ?_ 3 _ rfl; (with_reducible repeat (first | refine blk_drewN ?_ _ | refine blk_drew ?_ | refine blk_alloc ?_ _)); refine blk_put (cs := #[.int .i64 t173, .string t174, .string (⟨#[]⟩ : ByteArray), .int .i64 0, .int .i64 0]) ?_ 2 _ rfl; (with_reducible repeat (first | refine blk_drewN ?_ _ | refine blk_drew ?_ | refine blk_alloc ?_ _)); refine blk_put (cs := #[.int .i64 t173, .string (⟨#[]⟩ : ByteArray), .string (⟨#[]⟩ : ByteArray), .int .i64 0, .int .i64 0]) ?_ 1 _ rfl; (with_reducible repeat (first | refine blk_drewN ?_ _ | refine blk_drew ?_ | refine blk_alloc ?_ _)); refine blk_put (cs := #[.int .i64 0, .string (⟨#[]⟩ : ByteArray), .string (⟨#[]⟩ : ByteArray), .int .i64 0, .int .i64 0]) ?_ 0 _ rfl; (with_reducible repeat (first | refine blk_drewN ?_ _ | refine blk_drew ?_ | refine blk_alloc ?_ _)); exact BK159.out) hg (Kd.R_away HO_6.out (fun _ hk => hk))); have n1_ := Aside0.mk (hb); have n2_ := Aside0.mk (ho); clear BK159; clear HB; clear HO_6; have BK159 := n0_; have HB := n1_; have HO181 := n2_; clear n0_ n1_ n2_; clear ho hb hg hat))
                        go_roundg kj2
                        case measure => have := HK1.out; have := HJ2.out; omega
                        case rel => exact ⟨(y179), (wrap64 (x7_1 + 2)), (by first | rfl | (simp; done) | (simp [*]; done)), H', ⟨by have := HK1.out; have := HJ2.out; omega⟩, ⟨by (with_reducible repeat (first | apply Kd.R_alloc | apply Kd.R_drewN | apply Kd.R_drew)); exact Kd.R_mono HO181.out (fun _ hk => trivial)⟩, ⟨by repeat (first | (with_reducible first | exact HB.out | apply below_alloc | apply pw_below_drewN | apply below_drew1 | refine below_set ?_ GE159.out) | exact HB.out)⟩⟩
                      · rw [if_neg c37] at H
                        exact absurd H (by simp)
                    · rw [if_neg c34] at H
                      exact absurd H (by simp)
                  · rw [if_neg c33] at H
                    exact absurd H (by simp)
                · rw [if_neg c30] at H
                  exact absurd H (by simp)
              · rw [if_neg c29] at H
                exact absurd H (by simp)
          · replace c5 := Bool.eq_false_iff.mpr c5
            subst c5
            have H1 : ((postriderref07_Build.f kj2 x6_1).bind fun bt182 => (if bt182.2.2 = 0 then (if bt182.1.toList = a0.toList then ((postriderref02_Ints.f kj2 bt182.2.1 l1).bind fun t187 => (if t187 = true then (some (x6_1, 0)) else (some (([] : List (S41)), 70)))) else (some (([] : List (S41)), 70))) else (some (([] : List (S41)), 70)))) = some (r1, r2) := by rw [if_neg (show ¬ (false = true) by decide)] at H; exact H
            clear H
            have H := H1
            clear H1
            replace H := Option.bind_eq_some_iff.mp H
            obtain ⟨⟨t182, t183, t184⟩, A500, H⟩ := H
            replace H : (if t184 = 0 then (if t182.toList = a0.toList then ((postriderref02_Ints.f kj2 t183 l1).bind fun t187 => (if t187 = true then (some (x6_1, 0)) else (some (([] : List (S41)), 70)))) else (some (([] : List (S41)), 70))) else (some (([] : List (S41)), 70))) = some (r1, r2) := H
            have A50 := Aside0.mk A500
            clear A500
            by_cases c51 : t184 = 0
            · rw [if_pos c51] at H
              have c51b0 : (t184 == 0) = true := beq_iff_eq.mpr c51
              have c51b1 : (t184 != 0) = false := bne_eq_false_iff_eq.mpr c51
              clear c51
              by_cases c52 : t182.toList = a0.toList
              · rw [if_pos c52] at H
                have c52b0 : (t182.toList == a0.toList) = true := beq_iff_eq.mpr c52
                have c52b1 : (t182.toList != a0.toList) = false := bne_eq_false_iff_eq.mpr c52
                clear c52
                replace H := Option.bind_eq_some_iff.mp H
                obtain ⟨t187, A530, H⟩ := H
                replace H : (if t187 = true then (some (x6_1, 0)) else (some (([] : List (S41)), 70))) = some (r1, r2) := H
                have A53 := Aside0.mk A530
                clear A530
                by_cases c54 : t187 = true
                · subst c54
                  have H1 : (some (x6_1, 0)) = some (r1, r2) := by rw [if_pos rfl] at H; exact H
                  clear H
                  have H := H1
                  clear H1
                  simp only [Option.some.injEq, Prod.mk.injEq] at H
                  obtain ⟨rfl, rfl⟩ := H
                  obtain ⟨Ao55, co55, eo55⟩ := Kd.R_slice HO_6.out
                  subst eo55
                  go_wp2_with (first | ((with_reducible refine gate_callee (f := 13) rfl ?_); refine goesL_ (some 64) rfl rfl Tryz.func13 (by kernel_rfl) rfl #[.slice Ao55 x6_1.length co55] rfl (by (try simp only [List.map_toArray, List.map_cons, List.map_nil]); first | done | rfl | (simp only [List.length_drop, List.length_take]; rfl)) ?_; (with_reducible refine (postriderref07_Build.calls kj2 _ _ x6_1 t182 t183 t184 _ ?side1 ?side2 A50.out).mono ?_); (case side1 => repeat (first | exact (Kd.R_reads' HO_6.out).2.2 | (with_reducible refine Kd.C_alloc ?_ _) | (with_reducible refine Kd.C_drewN ?_ _) | (with_reducible refine Kd.C_drew ?_))); (case side2 => exact (Kd.R_reads' HO_6.out).2.1); rintro e w56 ⟨v185, rfl, ho0, hb⟩; refine ⟨_, rfl, ?_⟩; have n0_ := Aside0.mk (Kd.R_below (by (with_reducible repeat (first | apply Kd.R_alloc | apply Kd.R_drewN | apply Kd.R_drew)); exact HO_6.out) hb); have n1_ := Aside0.mk (Kd.R_lower ho0 (below_size (by repeat (first | (with_reducible first | exact HB.out | apply below_alloc | apply pw_below_drewN | apply below_drew1) | exact HB.out)))); have n2_ := Aside0.mk (below_step (by repeat (first | (with_reducible first | exact HB.out | apply below_alloc | apply pw_below_drewN | apply below_drew1) | exact HB.out)) hb); clear HO_6; clear HB; have HO_6 := n0_; have HO186 := n1_; have HB := n2_; clear n0_ n1_ n2_; (try clear hb); (try clear hb2); (try clear hk); (try clear hi); (try clear ho0); obtain ⟨Ao57, co57, eo57⟩ := Kd.R_slice HO186.out; subst eo57) | (go_at_call 18; (with_reducible refine (postriderref02_Ints.calls kj2 _ _ t183 _ _ l1 true _ ?side1 ?side2 ?side3 ?side4 A53.out).mono ?_); (case side1 => repeat (first | exact (Kd.R_reads' HO186.out).2.2 | (with_reducible refine Kd.C_alloc ?_ _) | (with_reducible refine Kd.C_drewN ?_ _) | (with_reducible refine Kd.C_drew ?_))); (case side2 => exact (Kd.R_reads' HO186.out).2.1); (case side3 => repeat (first | exact (Kd.C_below HR1.out HB.out) | (with_reducible refine Kd.C_alloc ?_ _) | (with_reducible refine Kd.C_drewN ?_ _) | (with_reducible refine Kd.C_drew ?_))); (case side4 => exact HC1.out); rintro e w' ⟨rfl, ⟨nd, rfl⟩⟩))
                  go_ret2
                  exact ⟨_, by first | rfl | (simp [errW_none, errW_some] <;> rfl) | (simp [*, errW_none, errW_some] <;> rfl), by (with_reducible repeat (first | apply Kd.R_alloc | apply Kd.R_drewN | apply Kd.R_drew)); exact HO_6.out, by repeat (first | (with_reducible first | exact HB.out | apply below_alloc | apply pw_below_drewN | apply below_drew1) | exact HB.out)⟩
                · replace c54 := Bool.eq_false_iff.mpr c54
                  subst c54
                  have H1 : (some (([] : List (S41)), 70)) = some (r1, r2) := by rw [if_neg (show ¬ (false = true) by decide)] at H; exact H
                  clear H
                  have H := H1
                  clear H1
                  simp only [Option.some.injEq, Prod.mk.injEq] at H
                  obtain ⟨rfl, rfl⟩ := H
                  obtain ⟨Ao58, co58, eo58⟩ := Kd.R_slice HO_6.out
                  subst eo58
                  go_wp2_with (first | ((with_reducible refine gate_callee (f := 13) rfl ?_); refine goesL_ (some 64) rfl rfl Tryz.func13 (by kernel_rfl) rfl #[.slice Ao58 x6_1.length co58] rfl (by (try simp only [List.map_toArray, List.map_cons, List.map_nil]); first | done | rfl | (simp only [List.length_drop, List.length_take]; rfl)) ?_; (with_reducible refine (postriderref07_Build.calls kj2 _ _ x6_1 t182 t183 t184 _ ?side1 ?side2 A50.out).mono ?_); (case side1 => repeat (first | exact (Kd.R_reads' HO_6.out).2.2 | (with_reducible refine Kd.C_alloc ?_ _) | (with_reducible refine Kd.C_drewN ?_ _) | (with_reducible refine Kd.C_drew ?_))); (case side2 => exact (Kd.R_reads' HO_6.out).2.1); rintro e w59 ⟨v185, rfl, ho0, hb⟩; refine ⟨_, rfl, ?_⟩; have n0_ := Aside0.mk (Kd.R_below (by (with_reducible repeat (first | apply Kd.R_alloc | apply Kd.R_drewN | apply Kd.R_drew)); exact HO_6.out) hb); have n1_ := Aside0.mk (Kd.R_lower ho0 (below_size (by repeat (first | (with_reducible first | exact HB.out | apply below_alloc | apply pw_below_drewN | apply below_drew1) | exact HB.out)))); have n2_ := Aside0.mk (below_step (by repeat (first | (with_reducible first | exact HB.out | apply below_alloc | apply pw_below_drewN | apply below_drew1) | exact HB.out)) hb); clear HO_6; clear HB; have HO_6 := n0_; have HO186 := n1_; have HB := n2_; clear n0_ n1_ n2_; (try clear hb); (try clear hb2); (try clear hk); (try clear hi); (try clear ho0); obtain ⟨Ao60, co60, eo60⟩ := Kd.R_slice HO186.out; subst eo60) | (go_at_call 18; (with_reducible refine (postriderref02_Ints.calls kj2 _ _ t183 _ _ l1 false _ ?side1 ?side2 ?side3 ?side4 A53.out).mono ?_); (case side1 => repeat (first | exact (Kd.R_reads' HO186.out).2.2 | (with_reducible refine Kd.C_alloc ?_ _) | (with_reducible refine Kd.C_drewN ?_ _) | (with_reducible refine Kd.C_drew ?_))); (case side2 => exact (Kd.R_reads' HO186.out).2.1); (case side3 => repeat (first | exact (Kd.C_below HR1.out HB.out) | (with_reducible refine Kd.C_alloc ?_ _) | (with_reducible refine Kd.C_drewN ?_ _) | (with_reducible refine Kd.C_drew ?_))); (case side4 => exact HC1.out); rintro e w' ⟨rfl, ⟨nd, rfl⟩⟩))
                  go_ret2
                  exact ⟨_, by first | rfl | (simp [errW_none, errW_some] <;> rfl) | (simp [*, errW_none, errW_some] <;> rfl), by first | exact Kd.R_nil _ _ _ _ _ | exact Kd.N_nil _ _ _ _ _ | exact Kd.V_nil _ _ _ _ _ | exact Kd.Q_nil _ _ _ _ _ | exact Kd.S_nil _ _ _ _ _, by repeat (first | (with_reducible first | exact HB.out | apply below_alloc | apply pw_below_drewN | apply below_drew1) | exact HB.out)⟩
              · rw [if_neg c52] at H
                have c52b0 : (t182.toList == a0.toList) = false := beq_eq_false_iff_ne.mpr c52
                have c52b1 : (t182.toList != a0.toList) = true := bne_iff_ne.mpr c52
                simp only [Option.some.injEq, Prod.mk.injEq] at H
                obtain ⟨rfl, rfl⟩ := H
                obtain ⟨Ao61, co61, eo61⟩ := Kd.R_slice HO_6.out
                subst eo61
                go_wp2_with (first | ((with_reducible refine gate_callee (f := 13) rfl ?_); refine goesL_ (some 64) rfl rfl Tryz.func13 (by kernel_rfl) rfl #[.slice Ao61 x6_1.length co61] rfl (by (try simp only [List.map_toArray, List.map_cons, List.map_nil]); first | done | rfl | (simp only [List.length_drop, List.length_take]; rfl)) ?_; (with_reducible refine (postriderref07_Build.calls kj2 _ _ x6_1 t182 t183 t184 _ ?side1 ?side2 A50.out).mono ?_); (case side1 => repeat (first | exact (Kd.R_reads' HO_6.out).2.2 | (with_reducible refine Kd.C_alloc ?_ _) | (with_reducible refine Kd.C_drewN ?_ _) | (with_reducible refine Kd.C_drew ?_))); (case side2 => exact (Kd.R_reads' HO_6.out).2.1); rintro e w62 ⟨v185, rfl, ho0, hb⟩; refine ⟨_, rfl, ?_⟩; have n0_ := Aside0.mk (Kd.R_below (by (with_reducible repeat (first | apply Kd.R_alloc | apply Kd.R_drewN | apply Kd.R_drew)); exact HO_6.out) hb); have n1_ := Aside0.mk (Kd.R_lower ho0 (below_size (by repeat (first | (with_reducible first | exact HB.out | apply below_alloc | apply pw_below_drewN | apply below_drew1) | exact HB.out)))); have n2_ := Aside0.mk (below_step (by repeat (first | (with_reducible first | exact HB.out | apply below_alloc | apply pw_below_drewN | apply below_drew1) | exact HB.out)) hb); clear HO_6; clear HB; have HO_6 := n0_; have HO186 := n1_; have HB := n2_; clear n0_ n1_ n2_; (try clear hb); (try clear hb2); (try clear hk); (try clear hi); (try clear ho0)))
                go_ret2
                exact ⟨_, by first | rfl | (simp [errW_none, errW_some] <;> rfl) | (simp [*, errW_none, errW_some] <;> rfl), by first | exact Kd.R_nil _ _ _ _ _ | exact Kd.N_nil _ _ _ _ _ | exact Kd.V_nil _ _ _ _ _ | exact Kd.Q_nil _ _ _ _ _ | exact Kd.S_nil _ _ _ _ _, by repeat (first | (with_reducible first | exact HB.out | apply below_alloc | apply pw_below_drewN | apply below_drew1) | exact HB.out)⟩
            · rw [if_neg c51] at H
              have c51b0 : (t184 == 0) = false := beq_eq_false_iff_ne.mpr c51
              have c51b1 : (t184 != 0) = true := bne_iff_ne.mpr c51
              simp only [Option.some.injEq, Prod.mk.injEq] at H
              obtain ⟨rfl, rfl⟩ := H
              obtain ⟨Ao63, co63, eo63⟩ := Kd.R_slice HO_6.out
              subst eo63
              go_wp2_with (first | ((with_reducible refine gate_callee (f := 13) rfl ?_); refine goesL_ (some 64) rfl rfl Tryz.func13 (by kernel_rfl) rfl #[.slice Ao63 x6_1.length co63] rfl (by (try simp only [List.map_toArray, List.map_cons, List.map_nil]); first | done | rfl | (simp only [List.length_drop, List.length_take]; rfl)) ?_; (with_reducible refine (postriderref07_Build.calls kj2 _ _ x6_1 t182 t183 t184 _ ?side1 ?side2 A50.out).mono ?_); (case side1 => repeat (first | exact (Kd.R_reads' HO_6.out).2.2 | (with_reducible refine Kd.C_alloc ?_ _) | (with_reducible refine Kd.C_drewN ?_ _) | (with_reducible refine Kd.C_drew ?_))); (case side2 => exact (Kd.R_reads' HO_6.out).2.1); rintro e w64 ⟨v185, rfl, ho0, hb⟩; refine ⟨_, rfl, ?_⟩; have n0_ := Aside0.mk (Kd.R_below (by (with_reducible repeat (first | apply Kd.R_alloc | apply Kd.R_drewN | apply Kd.R_drew)); exact HO_6.out) hb); have n1_ := Aside0.mk (Kd.R_lower ho0 (below_size (by repeat (first | (with_reducible first | exact HB.out | apply below_alloc | apply pw_below_drewN | apply below_drew1) | exact HB.out)))); have n2_ := Aside0.mk (below_step (by repeat (first | (with_reducible first | exact HB.out | apply below_alloc | apply pw_below_drewN | apply below_drew1) | exact HB.out)) hb); clear HO_6; clear HB; have HO_6 := n0_; have HO186 := n1_; have HB := n2_; clear n0_ n1_ n2_; (try clear hb); (try clear hb2); (try clear hk); (try clear hi); (try clear ho0)))
              go_ret2
              exact ⟨_, by first | rfl | (simp [errW_none, errW_some] <;> rfl) | (simp [*, errW_none, errW_some] <;> rfl), by first | exact Kd.R_nil _ _ _ _ _ | exact Kd.N_nil _ _ _ _ _ | exact Kd.V_nil _ _ _ _ _ | exact Kd.Q_nil _ _ _ _ _ | exact Kd.S_nil _ _ _ _ _, by repeat (first | (with_reducible first | exact HB.out | apply below_alloc | apply pw_below_drewN | apply below_drew1) | exact HB.out)⟩
def postriderref07_Texts.l0 : Nat → ByteArray → List ByteArray → Int → Int → Option (List ByteArray × Int)
  | 0, _, _, _, _ => none
  | k + 1, x0, x4, x5, x6 => if x6 < (x0.size : Int) then (if 0 ≤ x6 then (if (bt x0 x6) = 0 then (if 0 ≤ x5 then (if x5 ≤ x6 then (if x6 ≤ (x0.size : Int) then (if x4.length < 8796093022208 then (postriderref07_Texts.l0 k x0 (x4 ++ [x0.extract (x5 : Int).toNat (x6 : Int).toNat]) (wrap64 (x6 + 1)) (wrap64 (x6 + 1))) else (none)) else (none)) else (none)) else (none)) else (postriderref07_Texts.l0 k x0 x4 x5 (wrap64 (x6 + 1)))) else (none)) else (if x5 = (x0.size : Int) then (some (x4, 0)) else (some (([] : List ByteArray), 70)))
def postriderref07_Texts.f (k : Nat) (a0 : ByteArray) : Option (List ByteArray × Int) := postriderref07_Texts.l0 k a0 ([] : List ByteArray) 0 0
theorem postriderref07_Texts.mono_l : ∀ k, (∀ y0 y1 y2 y3, LeO (postriderref07_Texts.l0 k y0 y1 y2 y3) (postriderref07_Texts.l0 (k + 1) y0 y1 y2 y3))
  | 0 => fun _ _ _ _ r h => by simp [postriderref07_Texts.l0] at h
  | k + 1 => by
    have ih0 := postriderref07_Texts.mono_l k
    · intro y0 y1 y2 y3
      unfold postriderref07_Texts.l0
      repeat' first
      | (with_reducible exact ih0 _ _ _ _)
      | (with_reducible exact LeO.refl _)
      | (with_reducible exact LeO.none _)
      | (with_reducible refine LeO.ite ?_ ?_)
      | (with_reducible refine LeO.bind ?_ (fun _ => ?_))
      | exact ih0 _ _ _ _
      | exact LeO.none _
      | refine LeO.ite ?_ ?_
      | refine LeO.bind ?_ (fun _ => ?_)
theorem postriderref07_Texts.mono : ∀ a0 k, LeO (postriderref07_Texts.f k a0) (postriderref07_Texts.f (k + 1) a0) := by
  intro a0 k
  have ih0 := postriderref07_Texts.mono_l k
  unfold postriderref07_Texts.f
  repeat' first
      | (with_reducible exact ih0 _ _ _ _)
      | (with_reducible exact LeO.refl _)
      | (with_reducible exact LeO.none _)
      | (with_reducible refine LeO.ite ?_ ?_)
      | (with_reducible refine LeO.bind ?_ (fun _ => ?_))
      | exact ih0 _ _ _ _
      | exact LeO.none _
      | refine LeO.ite ?_ ?_
      | refine LeO.bind ?_ (fun _ => ?_)
set_option maxHeartbeats 8000000 in
set_option maxRecDepth 100000 in
theorem postriderref07_Texts.calls (k : Nat) (a0 : ByteArray) (r1 : List ByteArray) (r2 : Int) (w : World) (h : postriderref07_Texts.f k a0 = some (r1, r2)) :
    Calls Tryz.prog 17 #[.string a0] w fun e w' => ∃ v0_ : Value, e = .returned (.tuple #[v0_, .int .i64 r2]) ∧ Kd.R Kd.string 9 w' w.heap.size (fun _ => True) v0_ r1 ∧ Below w.heap.size w w' := by
  have HB := Aside0.mk (Below.refl w.heap.size w)
  have H : (postriderref07_Texts.l0 k a0 ([] : List ByteArray) 0 0) = some (r1, r2) := h
  clear h
  have H' := Aside0.mk H
  clear H
  go_enter Tryz.func17, Tryz.ntmps17
  go_wp2
  go_loopg [4, 5, 6] k (fun kq v4 v5 v6 w' => ∃ (x4_1 : List ByteArray) (x5_1 : Int) (x6_1 : Int), v5 = .int .i64 x5_1 ∧ v6 = .int .i64 x6_1 ∧ Aside0 (postriderref07_Texts.l0 kq a0 x4_1 x5_1 x6_1 = some (r1, r2)) ∧ Aside0 (kq ≤ k) ∧ Aside0 (Kd.R Kd.string 9 w' w.heap.size (fun _ => True) v4 x4_1) ∧ Aside0 (Below w.heap.size w w'))
  case atStart => exact ⟨(([] : List ByteArray)), (0), (0), (by first | rfl | (simp; done) | (simp [*]; done)), (by first | rfl | (simp; done) | (simp [*]; done)), H', ⟨Nat.le_refl _⟩, ⟨by first | exact Kd.R_nil _ _ _ _ _ | exact Kd.N_nil _ _ _ _ _ | exact Kd.V_nil _ _ _ _ _ | exact Kd.Q_nil _ _ _ _ _ | exact Kd.S_nil _ _ _ _ _⟩, ⟨by repeat (first | (with_reducible first | exact HB.out | apply below_alloc | apply pw_below_drewN | apply below_drew1) | exact HB.out)⟩⟩
  case round =>
    clear H'
    try clear c1
    obtain ⟨x4_1, x5_1, x6_1, rfl, rfl, HA, HK1, HO_4, HB⟩ := hrel
    cases gk with
    | zero => exact absurd HA.out (by simp [postriderref07_Texts.l0])
    | succ k1 =>
      have H := HA.out
      clear HA
      simp only [postriderref07_Texts.l0] at H
      by_cases c2 : x6_1 < (a0.size : Int)
      · rw [if_pos c2] at H
        have c2b0 : decide (x6_1 < (a0.size : Int)) = true := decide_eq_true c2
        clear c2
        by_cases c3 : 0 ≤ x6_1
        · rw [if_pos c3] at H
          have c3b0 : decide (0 ≤ x6_1) = true := decide_eq_true c3
          clear c3
          by_cases c5 : (bt a0 x6_1) = 0
          · rw [if_pos c5] at H
            have c5b0 : ((bt a0 x6_1) == 0) = true := beq_iff_eq.mpr c5
            have c5b1 : ((bt a0 x6_1) != 0) = false := bne_eq_false_iff_eq.mpr c5
            clear c5
            by_cases c6 : 0 ≤ x5_1
            · rw [if_pos c6] at H
              have c6b0 := eq_true c6
              have c6b1 : decide (0 ≤ x5_1) = true := decide_eq_true c6
              clear c6
              by_cases c7 : x5_1 ≤ x6_1
              · rw [if_pos c7] at H
                have c7b0 := eq_true c7
                have c7b1 : decide (x5_1 ≤ x6_1) = true := decide_eq_true c7
                clear c7
                by_cases c8 : x6_1 ≤ (a0.size : Int)
                · rw [if_pos c8] at H
                  have c8b0 := eq_true c8
                  have c8b1 : decide (x6_1 ≤ (a0.size : Int)) = true := decide_eq_true c8
                  clear c8
                  by_cases c9 : x4_1.length < 8796093022208
                  · rw [if_pos c9] at H
                    have LMc9 := Aside0.mk c9
                    clear c9
                    obtain ⟨y188, hy188⟩ : ∃ y_ : List ByteArray, y_ = (x4_1 ++ [a0.extract (x5_1 : Int).toNat (x6_1 : Int).toNat]) := ⟨_, rfl⟩
                    replace H : (postriderref07_Texts.l0 k1 a0 y188 (wrap64 (x6_1 + 1)) (wrap64 (x6_1 + 1))) = some (r1, r2) := by first | (rw [hy188]; with_reducible exact H) | (have H2_ := (Option.bind_some _ _).symm.trans H; rw [hy188]; with_reducible exact H2_) | (have H2_ := (Option.bind_some _ _).symm.trans H; with_reducible exact H2_) | with_reducible exact H | (rw [hy188]; exact H) | exact H
                    have Ny188 := Aside0.mk hy188
                    clear hy188
                    have H' := Aside0.mk H
                    clear H
                    have p4 : 0 ≤ (x6_1 : Int) := of_decide_eq_true (by first | (with_reducible assumption) | assumption)
                    have q4 : x6_1 < (a0.size : Int) := of_decide_eq_true (by first | (with_reducible assumption) | assumption)
                    have hx4 := bt_at a0 x6_1
                    replace p4 := eq_true p4
                    replace q4 := eq_true q4
                    go_wp2_with (first | ((with_reducible refine gate_builtin (b := .append) (xs := #[.tmp 17, .tmp 22]) rfl ?_); at_builtin; refine Kd.R_append Kd.string (w0 := w) w.heap.size rfl (.tmp 17) (.tmp 22) 33 9 (.string ⟨#[]⟩) 16 rfl Tryz.underlying33 info9 rfl (by decide) (by omega) u4 x4_1 (a0.extract (x5_1 : Int).toNat (x6_1 : Int).toNat) [.string (a0.extract (x5_1 : Int).toNat (x6_1 : Int).toNat)] (fun _ => True) (fun _ => False) rfl rfl ?aP (fun _ hk => hk.elim) ?aF ?aO ?aB ?aS ?aL ?_; (case aP => exact rfl); (case aB => exact (by repeat (first | (with_reducible first | exact HB.out | apply below_alloc | apply pw_below_drewN | apply below_drew1) | exact HB.out))); (case aF => exact (fun _ _ => trivial)); (case aO => exact (by (with_reducible repeat (first | apply Kd.R_alloc | apply Kd.R_drewN | apply Kd.R_drew)); exact HO_4.out)); (case aS => exact (below_size (by repeat (first | (with_reducible first | exact HB.out | apply below_alloc | apply pw_below_drewN | apply below_drew1) | exact HB.out)))); (case aL => have := LMc9.out; omega); intro v189 w10 ho hb hg hat; rw [← Ny188.out] at ho; have n0_ := Aside0.mk (hb); have n1_ := Aside0.mk (ho); clear HB; clear HO_4; have HB := n0_; have HO190 := n1_; clear n0_ n1_; clear ho hb hg hat))
                    go_roundg k1
                    case measure => have := HK1.out; omega
                    case rel => exact ⟨(y188), (wrap64 (x6_1 + 1)), (wrap64 (x6_1 + 1)), (by first | rfl | (simp; done) | (simp [*]; done)), (by first | rfl | (simp; done) | (simp [*]; done)), H', ⟨by have := HK1.out; omega⟩, ⟨by (with_reducible repeat (first | apply Kd.R_alloc | apply Kd.R_drewN | apply Kd.R_drew)); exact HO190.out⟩, ⟨by repeat (first | (with_reducible first | exact HB.out | apply below_alloc | apply pw_below_drewN | apply below_drew1) | exact HB.out)⟩⟩
                  · rw [if_neg c9] at H
                    exact absurd H (by simp)
                · rw [if_neg c8] at H
                  exact absurd H (by simp)
              · rw [if_neg c7] at H
                exact absurd H (by simp)
            · rw [if_neg c6] at H
              exact absurd H (by simp)
          · rw [if_neg c5] at H
            have c5b0 : ((bt a0 x6_1) == 0) = false := beq_eq_false_iff_ne.mpr c5
            have c5b1 : ((bt a0 x6_1) != 0) = true := bne_iff_ne.mpr c5
            have H' := Aside0.mk H
            clear H
            have p4 : 0 ≤ (x6_1 : Int) := of_decide_eq_true (by first | (with_reducible assumption) | assumption)
            have q4 : x6_1 < (a0.size : Int) := of_decide_eq_true (by first | (with_reducible assumption) | assumption)
            have hx4 := bt_at a0 x6_1
            replace p4 := eq_true p4
            replace q4 := eq_true q4
            go_wp2
            go_roundg k1
            case measure => have := HK1.out; omega
            case rel => exact ⟨(x4_1), (x5_1), (wrap64 (x6_1 + 1)), (by first | rfl | (simp; done) | (simp [*]; done)), (by first | rfl | (simp; done) | (simp [*]; done)), H', ⟨by have := HK1.out; omega⟩, ⟨by (with_reducible repeat (first | apply Kd.R_alloc | apply Kd.R_drewN | apply Kd.R_drew)); exact HO_4.out⟩, ⟨by repeat (first | (with_reducible first | exact HB.out | apply below_alloc | apply pw_below_drewN | apply below_drew1) | exact HB.out)⟩⟩
        · rw [if_neg c3] at H
          exact absurd H (by simp)
      · rw [if_neg c2] at H
        have c2b0 : decide (x6_1 < (a0.size : Int)) = false := decide_eq_false c2
        clear c2
        by_cases c11 : x5_1 = (a0.size : Int)
        · rw [if_pos c11] at H
          have c11b0 : (x5_1 == (a0.size : Int)) = true := beq_iff_eq.mpr c11
          have c11b1 : (x5_1 != (a0.size : Int)) = false := bne_eq_false_iff_eq.mpr c11
          clear c11
          simp only [Option.some.injEq, Prod.mk.injEq] at H
          obtain ⟨rfl, rfl⟩ := H
          go_wp2
          go_ret2
          exact ⟨_, by first | rfl | (simp [errW_none, errW_some] <;> rfl) | (simp [*, errW_none, errW_some] <;> rfl), by (with_reducible repeat (first | apply Kd.R_alloc | apply Kd.R_drewN | apply Kd.R_drew)); exact HO_4.out, by repeat (first | (with_reducible first | exact HB.out | apply below_alloc | apply pw_below_drewN | apply below_drew1) | exact HB.out)⟩
        · rw [if_neg c11] at H
          have c11b0 : (x5_1 == (a0.size : Int)) = false := beq_eq_false_iff_ne.mpr c11
          have c11b1 : (x5_1 != (a0.size : Int)) = true := bne_iff_ne.mpr c11
          simp only [Option.some.injEq, Prod.mk.injEq] at H
          obtain ⟨rfl, rfl⟩ := H
          go_wp2
          go_ret2
          exact ⟨_, by first | rfl | (simp [errW_none, errW_some] <;> rfl) | (simp [*, errW_none, errW_some] <;> rfl), by first | exact Kd.R_nil _ _ _ _ _ | exact Kd.N_nil _ _ _ _ _ | exact Kd.V_nil _ _ _ _ _ | exact Kd.Q_nil _ _ _ _ _ | exact Kd.S_nil _ _ _ _ _, by repeat (first | (with_reducible first | exact HB.out | apply below_alloc | apply pw_below_drewN | apply below_drew1) | exact HB.out)⟩
end Go.Proofs.YtbjbicaffblchaaGreatDoor.SR
end
section
namespace Go.Proofs.YtbjbicaffblchaaGreatDoor.Hand
open Go.RowKit Go.Proofs.YtbjbicaffblchaaGreatDoor.SA Go.Proofs.YtbjbicaffblchaaGreatDoor.SR Go.Proofs.YtbjbicaffblchaaGreatDoorW.PrintWords
theorem w64 {x : Int} (h0 : -9223372036854775808 ≤ x) (h1 : x ≤ 9223372036854775807) : wrap64 x = x := by unfold wrap64; omega
theorem bt_is (a : ByteArray) (i : Int) (h0 : 0 ≤ i) (h1 : i < a.size) : ∃ (c : UInt8) (r : List UInt8), a.data.toList.drop i.toNat = c :: r ∧ bt a i = (c.toNat : Int) ∧ a.data.toList.drop (i + 1).toNat = r := by
  have hi : i.toNat < a.size := by omega
  have hl : i.toNat < a.data.toList.length := by rw [Array.length_toList]; exact hi
  refine ⟨a.data.toList[i.toNat], a.data.toList.drop (i.toNat + 1), List.drop_eq_getElem_cons hl, ?_, by rw [show (i + 1).toNat = i.toNat + 1 by omega]⟩
  unfold bt
  rw [dif_pos hi]
  rfl
theorem signs2 : ∀ n : Nat, n < 256 → okByte ⟨#[45, 46]⟩ (UInt8.ofNat n) = decide (97 ≤ n ∧ n ≤ 122 ∨ 48 ≤ n ∧ n ≤ 57 ∨ n = 45 ∨ n = 46) := by decide +kernel
theorem signs3 : ∀ n : Nat, n < 256 → okByte ⟨#[45, 46, 47]⟩ (UInt8.ofNat n) = decide (97 ≤ n ∧ n ≤ 122 ∨ 48 ≤ n ∧ n ≤ 57 ∨ n = 45 ∨ n = 46 ∨ n = 47) := by decide +kernel
def signsOf (slash : Bool) : ByteArray := if slash then ⟨#[45, 46, 47]⟩ else ⟨#[45, 46]⟩
theorem ok_byte (slash : Bool) (c : UInt8) : okByte (signsOf slash) c = true ↔ (97 ≤ c.toNat ∧ c.toNat ≤ 122 ∨ 48 ≤ c.toNat ∧ c.toNat ≤ 57 ∨ c.toNat = 45 ∨ c.toNat = 46 ∨ slash = true ∧ c.toNat = 47) := by
  have hc := UInt8.toNat_lt c
  have e : UInt8.ofNat c.toNat = c := UInt8.ofNat_toNat
  cases slash
  · have := signs2 c.toNat (by simpa using hc)
    rw [e] at this
    rw [show signsOf false = ⟨#[45, 46]⟩ from rfl, this, decide_eq_true_iff]
    simp
  · have := signs3 c.toNat (by simpa using hc)
    rw [e] at this
    rw [show signsOf true = ⟨#[45, 46, 47]⟩ from rfl, this, decide_eq_true_iff]
    simp
theorem part_from (a : ByteArray) (slash : Bool) (ha : a.size ≤ 1000) : ∀ (d k : Nat) (i : Int), 0 ≤ i → i ≤ a.size → (a.size : Int) - i = d → d < k →
    postriderref06_part.l0 k a slash i = some ((a.data.toList.drop i.toNat).all (okByte (signsOf slash)) && decide (a.size ≤ 20)) := by
  intro d
  induction d with
  | zero =>
    intro k i h0 h1 hd hk
    obtain ⟨k, rfl⟩ : ∃ m, k = m + 1 := ⟨k - 1, by omega⟩
    simp only [postriderref06_part.l0]
    rw [if_neg (by omega), List.drop_eq_nil_of_le (by rw [Array.length_toList]; show a.size ≤ _; omega)]
    simp
    omega
  | succ d ih =>
    intro k i h0 h1 hd hk
    obtain ⟨k, rfl⟩ : ∃ m, k = m + 1 := ⟨k - 1, by omega⟩
    obtain ⟨c, r, hdr, hb, hr⟩ := bt_is a i h0 (by omega)
    have hi := ih k (i + 1) (by omega) (by omega) (by omega) (by omega)
    rw [hr] at hi
    simp only [postriderref06_part.l0]
    rw [if_pos (by omega), if_pos h0, w64 (by omega) (by omega), hb, hdr, List.all_cons, hi]
    have hok := ok_byte slash c
    by_cases h : okByte (signsOf slash) c = true
    · have h' := hok.1 h
      rw [h, Bool.true_and]
      repeat' split
      all_goals first | rfl | (exfalso; omega) | (exfalso; simp_all; omega)
    · have h' := fun z => h (hok.2 z)
      rw [Bool.eq_false_iff.2 h, Bool.false_and]
      repeat' split
      all_goals first | rfl | (exfalso; apply h'; omega) | (exfalso; apply h'; simp_all; omega)
theorem part_ref (k : Nat) (a : ByteArray) (slash : Bool) (ha : a.size ≤ 1000) (hk : 1000 < k) : postriderref06_part.f k a slash = some (partS a (signsOf slash)) := by
  unfold postriderref06_part.f partS
  have := part_from a slash ha a.size k 0 (by omega) (by omega) (by omega) (by omega)
  simpa using this
theorem Right_ref (k : Nat) (n : Int) (a1 a2 : ByteArray) (a3 a4 : Int) (h1 : a1.size ≤ 1000) (h2 : a2.size ≤ 1000) (hk : 1000 < k) : postriderref06_Right.f k n a1 a2 a3 a4 = some (rightS n a1 a2 a3 a4) := by
  unfold postriderref06_Right.f rightS
  by_cases e0 : n = 0
  · rw [if_pos e0, if_pos e0, e0]
    simp
  · rw [if_neg e0, if_neg e0]
    by_cases e1 : n = 1
    · rw [if_pos e1, if_pos e1, part_ref k a1 false (by omega) hk, part_ref k a2 true (by omega) hk]
      simp only [Option.bind_some, show signsOf false = ⟨#[45, 46]⟩ from rfl, show signsOf true = ⟨#[45, 46, 47]⟩ from rfl]
      by_cases hz : a1.toList = []
      · rw [if_pos hz]; simp [hz]
      · rw [if_neg hz]
        have : (a1.toList != []) = true := by simpa using hz
        rw [this, Bool.true_and]
        cases partS a1 ⟨#[45, 46]⟩ <;> cases partS a2 ⟨#[45, 46, 47]⟩ <;> by_cases h3 : a3 = 0 <;> simp [h3]
    · rw [if_neg e1, if_neg e1]
      by_cases e2 : n = 2
      · rw [if_pos e2, if_pos e2]
        by_cases q1 : a1.toList = [] <;> by_cases q2 : a2.toList = [] <;> by_cases q3 : a3 ≥ 1 <;> by_cases q4 : a3 ≤ 999999999 <;> by_cases q5 : a4 ≥ 0 <;> simp [q1, q2, q3, q4, q5]
      · rw [if_neg e2, if_neg e2]
theorem dig10 (d : Int) (h0 : 0 ≤ d) (h1 : d < 10) : (⟨#[48, 49, 50, 51, 52, 53, 54, 55, 56, 57]⟩ : ByteArray).extract d.toNat (d + 1).toNat = txt [UInt8.ofNat (48 + d.toNat)] := by
  rcases (show d = 0 ∨ d = 1 ∨ d = 2 ∨ d = 3 ∨ d = 4 ∨ d = 5 ∨ d = 6 ∨ d = 7 ∨ d = 8 ∨ d = 9 by omega) with rfl | rfl | rfl | rfl | rfl | rfl | rfl | rfl | rfl | rfl <;> decide +kernel
theorem txt_app (l r : List UInt8) : txt l ++ txt r = txt (l ++ r) := by
  apply ByteArray.ext
  simp [txt, ByteArray.data_append]
theorem Num_from : ∀ (k : Nat) (a : Int), 0 ≤ a → a ≤ 999999999 → a < 10 ^ k → postriderref06_Num.f (k + 1) a = some (txt (Lib.decDigits a.toNat)) := by
  intro k
  induction k with
  | zero =>
    intro a h0 h1 h2
    have : a = 0 := by omega
    subst this
    simp only [postriderref06_Num.f]
    rw [w64 (by decide) (by decide), if_pos (by decide), if_pos (by decide), if_pos (by decide), if_pos (by decide), dig10 0 (by decide) (by decide), Lib.decDigits]
    rfl
  | succ k ih =>
    intro a h0 h1 h2
    rw [postriderref06_Num.f, Lib.decDigits]
    by_cases h : a < 10
    · rw [if_pos h, if_pos h0, w64 (by omega) (by omega), if_pos (by omega), if_pos (by omega), dig10 a h0 h, dif_pos (by omega)]
    · have hd : Int.tdiv a 10 = a / 10 := Int.tdiv_eq_ediv_of_nonneg h0
      have hm : Int.tmod a 10 = a % 10 := Int.tmod_eq_emod_of_nonneg h0
      have hp : (10 : Int) ^ (k + 1) = 10 ^ k * 10 := Int.pow_succ ..
      rw [if_neg h, hd, hm, w64 (x := a / 10) (by omega) (by omega), ih (a / 10) (by omega) (by omega) (by rw [hp] at h2; omega), dif_neg (by omega)]
      simp only [Option.bind_some]
      rw [w64 (x := a % 10 + 1) (by omega) (by omega), if_pos (by omega), if_pos (by omega), if_pos (by omega), dig10 (a % 10) (by omega) (by omega), txt_app]
      have hl := dig_len 8 (a / 10).toNat (by omega)
      rw [if_pos (by rw [txt_size, txt_size]; simp; omega)]
      rw [show (a / 10).toNat = a.toNat / 10 by omega, show (a % 10).toNat = a.toNat % 10 by omega]
theorem Num_ref (k : Nat) (a : Int) (h0 : 0 ≤ a) (h1 : a ≤ 999999999) (hk : 1000 < k) : postriderref06_Num.f k a = some (txt (Lib.itoa a)) := by
  obtain ⟨k, rfl⟩ : ∃ m, k = (m + 9) + 1 := ⟨k - 10, by omega⟩
  rw [itoa_dig a h0]
  refine Num_from (k + 9) a h0 h1 ?_
  have : (10 : Int) ^ 9 ≤ 10 ^ (k + 9) := by
    rw [Int.pow_add]
    have : (0 : Int) < 10 ^ k := Int.pow_pos (by decide)
    omega
  omega
theorem Halves_ref (k : Nat) (n : Int) (a1 a2 : ByteArray) (a3 a4 : Int) (h1 : a1.size ≤ 1000) (h2 : a2.size ≤ 1000) (hk : 1000 < k) : postriderref06_Halves.f k n a1 a2 a3 a4 = some (halvesS n a1 a2 a3 a4) := by
  unfold postriderref06_Halves.f halvesS
  rw [Right_ref k n a1 a2 a3 a4 h1 h2 hk]
  simp only [Option.bind_some]
  by_cases hr : rightS n a1 a2 a3 a4 = true
  · rw [if_pos hr, if_pos hr]
    rcases right_num hr with rfl | rfl | rfl
    · rfl
    · rw [if_pos rfl, if_pos (by omega), if_pos (by omega), if_pos (by omega)]
      rfl
    · obtain ⟨_, _, h3, h3', h4, h4'⟩ := right_ipn hr
      rw [if_neg (by decide), if_pos rfl, Num_ref k a3 (by omega) h3' hk, Num_ref k a4 h4 h4' hk]
      simp only [Option.bind_some]
      have q3 := itoa_short a3 (by omega) (by omega)
      have q4 := itoa_short a4 (by omega) (by omega)
      rw [if_pos (by omega), if_pos (by omega)]
      rfl
  · rw [if_neg hr, if_neg hr]
end Go.Proofs.YtbjbicaffblchaaGreatDoor.Hand
end
section
namespace Go.Proofs.YtbjbicaffblchaaGreatDoor.Hand
open Go.RowKit Go.Proofs.YtbjbicaffblchaaGreatDoor.SA Go.Proofs.YtbjbicaffblchaaGreatDoor.SR Go.Proofs.YtbjbicaffblchaaGreatDoorW.PrintWords
theorem ext_txt (a : ByteArray) (n m : Nat) : a.extract n m = txt ((a.data.toList.drop n).take (m - n)) := by
  apply ByteArray.ext
  apply Array.toList_inj.1
  simp [txt]
theorem drop_lt {l : List UInt8} {n : Nat} {q r : List UInt8} {c : UInt8} (h : l.drop n = q ++ c :: r) : n < l.length := by
  rcases Nat.lt_or_ge n l.length with h' | h'
  · exact h'
  · rw [List.drop_eq_nil_of_le h'] at h
    simp at h
theorem cut_hit (a : ByteArray) (c : UInt8) (ha : a.size ≤ 1000) (frm : Int) (hf : 0 ≤ frm) : ∀ (q r : List UInt8) (k : Nat) (i : Int), frm ≤ i → a.data.toList.drop i.toNat = q ++ c :: r → c ∉ q → q.length < k →
    postriderref06_cut.l0 k a frm (c.toNat : Int) i = some (a.extract frm.toNat (i.toNat + q.length), txt r) := by
  intro q
  induction q with
  | nil =>
    intro r k i hfi hd _ hk
    obtain ⟨k, rfl⟩ : ∃ m, k = m + 1 := ⟨k - 1, by simp at hk; omega⟩
    have hlen : i.toNat < a.size := by
      have := drop_lt hd
      rwa [Array.length_toList] at this
    obtain ⟨c', r', hdr, hb, hr⟩ := bt_is a i (by omega) (by omega)
    rw [hdr] at hd
    simp only [List.nil_append, List.cons.injEq] at hd
    obtain ⟨rfl, rfl⟩ := hd
    simp only [postriderref06_cut.l0]
    rw [if_pos (by omega), if_pos (by omega), if_pos hb, if_pos hf, if_pos hfi, if_pos (by omega), w64 (by omega) (by omega), if_pos (by omega), if_pos (by omega), ext_txt a _ a.size, hr]
    congr 1
    rw [List.take_of_length_le]
    · rfl
    · rw [← hr]
      simp
  | cons b q ih =>
    intro r k i hfi hd hc hk
    obtain ⟨k, rfl⟩ : ∃ m, k = m + 1 := ⟨k - 1, by simp at hk; omega⟩
    have hlen : i.toNat < a.size := by
      have := drop_lt hd
      rwa [Array.length_toList] at this
    obtain ⟨c', r', hdr, hb, hr⟩ := bt_is a i (by omega) (by omega)
    rw [hdr] at hd
    simp only [List.cons_append, List.cons.injEq] at hd
    obtain ⟨rfl, rfl⟩ := hd
    have hne : ¬ (bt a i = (c.toNat : Int)) := by
      rw [hb]
      intro h
      apply hc
      have : c'.toNat = c.toNat := by omega
      rw [UInt8.toNat_inj.1 this]
      exact List.mem_cons_self ..
    simp only [postriderref06_cut.l0]
    rw [if_pos (by omega), if_pos (by omega), if_neg hne, w64 (by omega) (by omega), ih r k (i + 1) (by omega) hr (fun h => hc (List.mem_cons_of_mem _ h)) (by simp at hk; omega)]
    rw [show (i + 1).toNat + q.length = i.toNat + (c' :: q).length by simp; omega]
theorem cut_total (a : ByteArray) (c : Int) (ha : a.size ≤ 1000) (frm : Int) (hf : 0 ≤ frm) : ∀ (d k : Nat) (i : Int), frm ≤ i → (a.size : Int) - i ≤ d → d < k →
    ∃ y z : ByteArray, postriderref06_cut.l0 k a frm c i = some (y, z) ∧ y.size ≤ a.size ∧ z.size ≤ a.size := by
  intro d
  induction d with
  | zero =>
    intro k i hfi hd hk
    obtain ⟨k, rfl⟩ : ∃ m, k = m + 1 := ⟨k - 1, by omega⟩
    simp only [postriderref06_cut.l0]
    rw [if_neg (by omega)]
    exact ⟨_, _, rfl, Nat.zero_le _, Nat.zero_le _⟩
  | succ d ih =>
    intro k i hfi hd hk
    obtain ⟨k, rfl⟩ : ∃ m, k = m + 1 := ⟨k - 1, by omega⟩
    simp only [postriderref06_cut.l0]
    by_cases h : i < (a.size : Int)
    · rw [if_pos h, if_pos (by omega), w64 (by omega) (by omega)]
      by_cases hb : bt a i = c
      · rw [if_pos hb, if_pos hf, if_pos hfi, if_pos (by omega), if_pos (by omega), if_pos (by omega)]
        exact ⟨_, _, rfl, by rw [ByteArray.size_extract]; omega, by rw [ByteArray.size_extract]; omega⟩
      · rw [if_neg hb]
        exact ih k (i + 1) (by omega) (by omega) (by omega)
    · rw [if_neg h]
      exact ⟨_, _, rfl, Nat.zero_le _, Nat.zero_le _⟩
def numStep (n : Int) (c : UInt8) : Int := mn (10 * n + (c.toNat : Int) % 48 % 10) 1000000000
theorem number_from (x : ByteArray) (hx : x.size ≤ 1000) : ∀ (d k : Nat) (n i : Int), 0 ≤ i → i ≤ x.size → (x.size : Int) - i = d → d < k → 0 ≤ n → n ≤ 1000000000 →
    postriderref06_number.l0 k x n i = some ((x.data.toList.drop i.toNat).foldl numStep n) := by
  intro d
  induction d with
  | zero =>
    intro k n i h0 h1 hd hk _ _
    obtain ⟨k, rfl⟩ : ∃ m, k = m + 1 := ⟨k - 1, by omega⟩
    simp only [postriderref06_number.l0]
    rw [if_neg (by omega), List.drop_eq_nil_of_le (by rw [Array.length_toList]; show x.size ≤ _; omega)]
    rfl
  | succ d ih =>
    intro k n i h0 h1 hd hk hn hn'
    obtain ⟨k, rfl⟩ : ∃ m, k = m + 1 := ⟨k - 1, by omega⟩
    obtain ⟨c, r, hdr, hb, hr⟩ := bt_is x i h0 (by omega)
    have hc := UInt8.toNat_lt c
    have hc' : (c.toNat : Int) < 256 := by have := hc; simp at this; omega
    have hm1 : Int.tmod (c.toNat : Int) 48 = (c.toNat : Int) % 48 := Int.tmod_eq_emod_of_nonneg (by omega)
    have hm2 : Int.tmod ((c.toNat : Int) % 48) 10 = (c.toNat : Int) % 48 % 10 := Int.tmod_eq_emod_of_nonneg (by omega)
    have hs : 0 ≤ numStep n c ∧ numStep n c ≤ 1000000000 := by
      unfold numStep mn
      split <;> omega
    simp only [postriderref06_number.l0]
    rw [if_pos (by omega), if_pos h0, hb, w64 (x := (c.toNat : Int)) (by omega) (by omega), hm1, hm2, w64 (x := 10 * n) (by omega) (by omega), w64 (x := 10 * n + _) (by omega) (by omega), w64 (x := i + 1) (by omega) (by omega)]
    have := ih k (numStep n c) (i + 1) (by omega) (by omega) (by omega) (by omega) hs.1 hs.2
    rw [hr] at this
    rw [hdr, List.foldl_cons]
    exact this
theorem number_is (k : Nat) (x : ByteArray) (hx : x.size ≤ 1000) (hk : 1000 < k) : postriderref06_number.f k x = some (x.data.toList.foldl numStep 0) := by
  unfold postriderref06_number.f
  have := number_from x hx x.size k 0 0 (by omega) (by omega) (by omega) (by omega) (by omega) (by omega)
  simpa using this
theorem fold_dig : ∀ u : Nat, u ≤ 999999999 → (Lib.decDigits u).foldl numStep 0 = (u : Int) := by
  intro u
  induction u using Nat.strongRecOn with
  | _ u ih =>
    intro hu
    rw [Lib.decDigits]
    split
    · have : (UInt8.ofNat (48 + u)).toNat = 48 + u := by simp; omega
      simp only [List.foldl_cons, List.foldl_nil, numStep, this]
      unfold mn
      split <;> omega
    · have : (UInt8.ofNat (48 + u % 10)).toNat = 48 + u % 10 := by simp; omega
      rw [List.foldl_append, ih (u / 10) (by omega) (by omega)]
      simp only [List.foldl_cons, List.foldl_nil, numStep, this]
      unfold mn
      split <;> omega
theorem number_itoa (k : Nat) (a : Int) (h0 : 0 ≤ a) (h1 : a ≤ 999999999) (hk : 1000 < k) : postriderref06_number.f k (txt (Lib.itoa a)) = some a := by
  have hs := itoa_short a h0 (by omega)
  rw [number_is k _ (by omega) hk, itoa_dig a h0]
  have := fold_dig a.toNat (by omega)
  rw [show (txt (Lib.decDigits a.toNat)).data.toList = Lib.decDigits a.toNat from rfl, this]
  congr 1
  omega
theorem cut_ipn (k : Nat) (a3 a4 : Int) (h3 : 0 ≤ a3) (h3' : a3 ≤ 999999999) (h4 : 0 ≤ a4) (h4' : a4 ≤ 999999999) (hk : 1000 < k) :
    postriderref06_cut.f k (restIpn a3 a4) 0 46 = some (txt (Lib.itoa a3), txt (Lib.itoa a4)) := by
  have hn : (46 : UInt8) ∉ Lib.itoa a3 := by
    intro hm
    rw [itoa_dig a3 h3] at hm
    have := dig_ok _ _ hm
    simp at this
  have s3 := itoa_short a3 h3 (by omega)
  have s4 := itoa_short a4 h4 (by omega)
  rw [txt_size] at s3 s4
  have hsz : (restIpn a3 a4).size ≤ 1000 := by
    have e : (restIpn a3 a4).size = (restIpn a3 a4).data.toList.length := (Array.length_toList ..).symm
    rw [e, restIpn_data]
    simp
    omega
  unfold postriderref06_cut.f
  have := cut_hit (restIpn a3 a4) 46 hsz 0 (by decide) (Lib.itoa a3) (Lib.itoa a4) k 0 (by decide) (by rw [restIpn_data]; rfl) hn (by omega)
  rw [show (((46 : UInt8).toNat : Nat) : Int) = 46 from rfl] at this
  rw [this, ext_txt, restIpn_data]
  simp
theorem cut_dtn (k : Nat) (a1 a2 : ByteArray) (h : partS a1 ⟨#[45, 46]⟩ = true) (h2 : a2.size ≤ 900) (hk : 1000 < k) :
    postriderref06_cut.f k (restDtn a1 a2) 2 47 = some (a1, a2) := by
  have hn : (47 : UInt8) ∉ a1.data.toList := part_no h (by decide)
  have s1 := partS_size h
  have e1 : a1.data.toList.length = a1.size := Array.length_toList ..
  have e2 : a2.data.toList.length = a2.size := Array.length_toList ..
  have hsz : (restDtn a1 a2).size ≤ 1000 := by
    have e : (restDtn a1 a2).size = (restDtn a1 a2).data.toList.length := (Array.length_toList ..).symm
    rw [e, restDtn_data]
    simp only [List.length_append, List.length_cons, List.length_nil, e1, e2]
    omega
  unfold postriderref06_cut.f
  have := cut_hit (restDtn a1 a2) 47 hsz 2 (by decide) a1.data.toList a2.data.toList k 2 (by decide) (by rw [restDtn_data]; rfl) hn (by omega)
  rw [show (((47 : UInt8).toNat : Nat) : Int) = 47 from rfl] at this
  rw [this, ext_txt, restDtn_data, txt_data]
  simp
  exact txt_data a1
theorem word_ipn {n : Int} (h : wordS n = wIpn) : n = 2 := by
  unfold wordS at h
  by_cases hn : n = 2
  · exact hn
  · rw [if_neg hn] at h
    exact absurd h (by decide)
theorem joinT_none {a0 a1 : ByteArray} (h : ∀ n b1 b2 b3 b4, rightS n b1 b2 b3 b4 = true → wordS n = a0 → restS n b1 b2 b3 b4 = a1 → False) : joinT a0 a1 = (0, ⟨#[]⟩, ⟨#[]⟩, 0, 0, 60) := by
  unfold joinT
  cases hj : joinS a0 a1 with
  | none => rfl
  | some x =>
    obtain ⟨h1, h2, h3⟩ := join_right hj
    exact (h _ _ _ _ _ h1 h2 h3).elim
theorem Join_ref (k : Nat) (a0 a1 : ByteArray) (h1 : a1.size ≤ 1000) (hk : 1001 < k) : postriderref06_Join.f k a0 a1 = some (joinT a0 a1) := by
  have e0 : (⟨#[]⟩ : ByteArray).size ≤ 1000 := by decide
  have li : wIpn.toList = [105, 112, 110] := by rw [ByteArray.toList_eq]; rfl
  have ln : wNone.toList = [110, 111, 110, 101] := by rw [ByteArray.toList_eq]; rfl
  unfold postriderref06_Join.f
  by_cases hi : a0.toList = [105, 112, 110]
  · rw [if_pos hi]
    obtain rfl : a0 = wIpn := ba_ext (hi.trans li.symm)
    obtain ⟨y, z, hyz, hy, hz⟩ := cut_total a1 46 (by omega) 0 (by decide) a1.size k 0 (by decide) (by omega) (by omega)
    have hcut : postriderref06_cut.f k a1 0 46 = some (y, z) := hyz
    rw [hcut]
    simp only [Option.bind_some]
    obtain ⟨n1, hn1⟩ : ∃ n, postriderref06_number.f k y = some n := ⟨_, number_is k y (by omega) (by omega)⟩
    obtain ⟨n2, hn2⟩ : ∃ n, postriderref06_number.f k z = some n := ⟨_, number_is k z (by omega) (by omega)⟩
    rw [hn1, hn2]
    simp only [Option.bind_some]
    rw [Halves_ref k 2 _ _ n1 n2 e0 e0 (by omega)]
    unfold halvesS
    have key : ∀ n b1 b2 b3 b4, rightS n b1 b2 b3 b4 = true → wordS n = wIpn → restS n b1 b2 b3 b4 = a1 → rightS 2 ⟨#[]⟩ ⟨#[]⟩ n1 n2 = true ∧ restS 2 ⟨#[]⟩ ⟨#[]⟩ n1 n2 = a1 := by
      intro n b1 b2 b3 b4 hr hw hrest
      obtain rfl := word_ipn hw
      obtain ⟨q1, q2, q3, q3', q4, q4'⟩ := right_ipn hr
      obtain rfl := ba_nil q1
      obtain rfl := ba_nil q2
      have hc := cut_ipn k b3 b4 (by omega) q3' q4 q4' (by omega)
      rw [show restIpn b3 b4 = a1 from hrest, hcut] at hc
      simp only [Option.some.injEq, Prod.mk.injEq] at hc
      rw [hc.1, number_itoa k b3 (by omega) q3' (by omega)] at hn1
      rw [hc.2, number_itoa k b4 q4 q4' (by omega)] at hn2
      obtain rfl := Option.some.inj hn1
      obtain rfl := Option.some.inj hn2
      exact ⟨hr, hrest⟩
    by_cases hr : rightS 2 ⟨#[]⟩ ⟨#[]⟩ n1 n2 = true
    · rw [if_pos hr]
      simp only [Option.bind_some]
      rw [if_pos trivial, if_pos (show (wordS 2).toList = wIpn.toList from rfl)]
      by_cases ha : (restS 2 ⟨#[]⟩ ⟨#[]⟩ n1 n2).toList = a1.toList
      · rw [if_pos ha, ← ba_ext ha, show wIpn = wordS 2 from rfl, joinT_of hr]
      · rw [if_neg ha, joinT_none]
        intro n b1 b2 b3 b4 q1 q2 q3
        exact ha (by rw [(key n b1 b2 b3 b4 q1 q2 q3).2])
    · rw [if_neg hr]
      simp only [Option.bind_some]
      rw [if_neg (by decide), joinT_none]
      intro n b1 b2 b3 b4 q1 q2 q3
      exact hr (key n b1 b2 b3 b4 q1 q2 q3).1
  · rw [if_neg hi]
    obtain ⟨k, rfl⟩ : ∃ m, k = m + 1 := ⟨k - 1, by omega⟩
    have hno : ∀ n, wordS n = a0 → n ≠ 2 := by
      rintro n hw rfl
      exact hi (by rw [← hw]; exact li)
    have w01 : ∀ n, n ≠ 2 → wordS n = wDtn := by
      intro n hn
      unfold wordS
      rw [if_neg hn]
    have r0 : rightS 0 ⟨#[]⟩ ⟨#[]⟩ 0 0 = true := by
      unfold rightS
      rw [if_pos rfl, ByteArray.toList_eq]
      rfl
    by_cases hn : a1.toList = [110, 111, 110, 101]
    · rw [if_pos hn]
      obtain rfl : a1 = wNone := ba_ext (hn.trans ln.symm)
      simp only [postriderref06_Join.j0]
      rw [if_neg (by decide), Halves_ref k 0 _ _ 0 0 e0 e0 (by omega)]
      unfold halvesS
      rw [if_pos r0]
      simp only [Option.bind_some]
      rw [if_pos trivial]
      by_cases hw : (wordS 0).toList = a0.toList
      · rw [if_pos hw, if_pos (show (restS 0 ⟨#[]⟩ ⟨#[]⟩ 0 0).toList = wNone.toList from rfl), ← ba_ext hw, show wNone = restS 0 ⟨#[]⟩ ⟨#[]⟩ 0 0 from rfl, joinT_of r0]
      · rw [if_neg hw, joinT_none]
        intro n b1 b2 b3 b4 _ q2 _
        apply hw
        rw [← q2, w01 n (hno n q2)]
        rfl
    · rw [if_neg hn]
      have hnn : ∀ n b1 b2 b3 b4, rightS n b1 b2 b3 b4 = true → wordS n = a0 → restS n b1 b2 b3 b4 = a1 → n = 1 := by
        intro n b1 b2 b3 b4 q1 q2 q3
        rcases right_num q1 with rfl | rfl | rfl
        · exact absurd (show a1.toList = [110, 111, 110, 101] by rw [← q3]; exact ln) hn
        · rfl
        · exact absurd rfl (hno 2 q2)
      by_cases hs : (a1.size : Int) > 2
      · rw [decide_eq_true hs]
        simp only [postriderref06_Join.j0]
        obtain ⟨y, z, hyz, hy, hz⟩ := cut_total a1 47 (by omega) 2 (by decide) a1.size k 2 (by decide) (by omega) (by omega)
        have hcut : postriderref06_cut.f k a1 2 47 = some (y, z) := hyz
        rw [if_pos trivial, hcut]
        simp only [Option.bind_some]
        rw [Halves_ref k 1 y z 0 0 (by omega) (by omega) (by omega)]
        unfold halvesS
        have key : ∀ n b1 b2 b3 b4, rightS n b1 b2 b3 b4 = true → wordS n = a0 → restS n b1 b2 b3 b4 = a1 → rightS 1 y z 0 0 = true ∧ restS 1 y z 0 0 = a1 ∧ wordS 1 = a0 := by
          intro n b1 b2 b3 b4 hr hw hrest
          obtain rfl := hnn n b1 b2 b3 b4 hr hw hrest
          obtain ⟨_, hp, hq, rfl, rfl⟩ := right_dtn hr
          have hc := cut_dtn k b1 b2 hp (by have := partS_size hq; omega) (by omega)
          rw [show restDtn b1 b2 = a1 from hrest, hcut] at hc
          simp only [Option.some.injEq, Prod.mk.injEq] at hc
          obtain ⟨rfl, rfl⟩ := hc
          exact ⟨hr, hrest, hw⟩
        by_cases hr : rightS 1 y z 0 0 = true
        · rw [if_pos hr]
          simp only [Option.bind_some]
          rw [if_pos trivial]
          by_cases hw : (wordS 1).toList = a0.toList
          · rw [if_pos hw]
            by_cases ha : (restS 1 y z 0 0).toList = a1.toList
            · rw [if_pos ha, ← ba_ext ha, ← ba_ext hw, joinT_of hr]
            · rw [if_neg ha, joinT_none]
              intro n b1 b2 b3 b4 q1 q2 q3
              exact ha (by rw [(key n b1 b2 b3 b4 q1 q2 q3).2.1])
          · rw [if_neg hw, joinT_none]
            intro n b1 b2 b3 b4 q1 q2 q3
            exact hw (by rw [(key n b1 b2 b3 b4 q1 q2 q3).2.2])
        · rw [if_neg hr]
          simp only [Option.bind_some]
          rw [if_neg (by decide), joinT_none]
          intro n b1 b2 b3 b4 q1 q2 q3
          exact hr (key n b1 b2 b3 b4 q1 q2 q3).1
      · rw [decide_eq_false hs]
        simp only [postriderref06_Join.j0]
        rw [if_neg (by decide), Halves_ref k 0 _ _ 0 0 e0 e0 (by omega)]
        unfold halvesS
        rw [if_pos r0]
        simp only [Option.bind_some]
        rw [if_pos trivial, joinT_none]
        · by_cases hw : (wordS 0).toList = a0.toList
          · rw [if_pos hw, if_neg]
            intro hx
            exact hn (by rw [← hx]; exact ln)
          · rw [if_neg hw]
        · intro n b1 b2 b3 b4 q1 q2 q3
          obtain rfl := hnn n b1 b2 b3 b4 q1 q2 q3
          have e : (restDtn b1 b2).size = (restDtn b1 b2).data.toList.length := (Array.length_toList ..).symm
          rw [show restDtn b1 b2 = a1 from q3] at e
          rw [← show restDtn b1 b2 = a1 from q3, restDtn_data] at e
          simp at e
          rw [show restDtn b1 b2 = a1 from q3] at e
          omega
end Go.Proofs.YtbjbicaffblchaaGreatDoor.Hand
end
section
namespace Go.Proofs.YtbjbicaffblchaaGreatDoor.Hand
open Go.RowKit Go.Proofs.YtbjbicaffblchaaGreatDoorW Go.Proofs.YtbjbicaffblchaaGreatDoorW.PrintWords Go.Proofs.YtbjbicaffblchaaGreatDoor.SA Go.Proofs.YtbjbicaffblchaaGreatDoor.SK Go.Proofs.YtbjbicaffblchaaGreatDoor.SS
theorem nil_of_toList {a : ByteArray} (h : a.toList = []) : a = ⟨#[]⟩ := by
  rw [ByteArray.toList_eq] at h
  have := congrArg txt h
  rw [txt_data] at this
  exact this
theorem names_map (s : ByteArray) (f g : Nm → Int) : ∀ l : List Nm, (∀ x ∈ l, nameT s (f x) (g x) = (x, true)) → namesT s (l.flatMap fun x => [f x, g x]) = some l
  | [], _ => rfl
  | x :: l, h => by
    have ih := names_map s f g l (fun y hy => h y (List.mem_cons_of_mem _ hy))
    have hx := h x List.mem_cons_self
    rw [List.flatMap_cons]
    show namesT s (f x :: g x :: (l.flatMap fun x => [f x, g x])) = some (x :: l)
    rw [namesT, hx, if_pos rfl, ih]
    rfl
theorem Built.names {l : List Nm} {s : ByteArray} {p : List Int} (h : Built l s p) : namesT s p = some l := by
  cases hd : l.any Nm.dtn with
  | false =>
    obtain ⟨rfl, rfl⟩ := h.plain hd
    refine names_map _ (fun x => x.f3) (fun x => x.f4) l fun x hx => ?_
    have hr : rightS x.f0 x.f1 x.f2 x.f3 x.f4 = true := h.right x hx
    have hn : ¬ x.f0 = 1 := by
      have := (List.any_eq_false.1 hd) x hx
      simpa [Nm.dtn] using this
    obtain ⟨n, a1, a2, a3, a4⟩ := x
    dsimp only at hr hn ⊢
    unfold nameT
    rw [if_pos (by rw [ByteArray.toList_eq])]
    rcases right_num hr with rfl | rfl | rfl
    · obtain ⟨rfl, rfl, rfl, rfl⟩ := right_none2 hr
      rw [if_pos ⟨rfl, rfl⟩]
    · exact absurd rfl hn
    · obtain ⟨h1, h2, h3, _⟩ := right_ipn hr
      obtain rfl := nil_of_toList h1
      obtain rfl := nil_of_toList h2
      rw [if_neg (by omega)]
  | true =>
    obtain ⟨q1, q2, q3⟩ := h.full hd
    rw [q1]
    refine names_map _ (fun x => ((placeL (builtS l).1 x.w : Nat) : Int)) (fun x => ((placeL (builtS l).1 x.r : Nat) : Int)) l fun x hx => ?_
    have hr := h.right x hx
    have hr' : rightS x.f0 x.f1 x.f2 x.f3 x.f4 = true := hr
    unfold nameT
    rw [if_neg q3, h.bytes, half_of _ _ h.zero (q2 x hx).1, half_of _ _ h.zero (q2 x hx).2, txt_data, txt_data, Nm.word_is hr, Nm.rest_is hr, joinT_of hr']
    rfl
theorem Built.read {l : List Nm} {s : ByteArray} {p : List Int} (h : Built l s p) : readT s p = (l, 0) := by
  have h1 := h.small.2
  have h2 := h.many
  unfold readT
  rw [if_pos ⟨by omega, by omega⟩, h.names]
  dsimp only
  rw [if_pos h.is]
theorem read_cases (s : ByteArray) (p : List Int) : (∃ l, readT s p = (l, 0) ∧ namesT s p = some l ∧ buildT l = (s, p, 0)) ∨ readT s p = ([], 70) := by
  unfold readT
  by_cases h1 : p.length % 2 = 0 ∧ p.length ≤ 60
  · rw [if_pos h1]
    cases hn : namesT s p with
    | none => exact .inr rfl
    | some l =>
      dsimp only
      by_cases h2 : buildT l = (s, p, 0)
      · rw [if_pos h2]; exact .inl ⟨l, rfl, rfl, h2⟩
      · rw [if_neg h2]; exact .inr rfl
  · rw [if_neg h1]; exact .inr rfl
end Go.Proofs.YtbjbicaffblchaaGreatDoor.Hand
end
section
namespace Go.Proofs.YtbjbicaffblchaaGreatDoor.Hand
open Go.RowKit Go.Proofs.YtbjbicaffblchaaGreatDoorW Go.Proofs.YtbjbicaffblchaaGreatDoorW.PrintWords Go.Proofs.YtbjbicaffblchaaGreatDoor.SA Go.Proofs.YtbjbicaffblchaaGreatDoor.SK Go.Proofs.YtbjbicaffblchaaGreatDoor.SR
theorem bt_drop {s : ByteArray} {i : Nat} {c : UInt8} {r : List UInt8} (h : s.data.toList.drop i = c :: r) : i < s.size ∧ bt s (i : Int) = (c.toNat : Int) ∧ s.data.toList.drop (i + 1) = r := by
  have hl : s.data.toList.length = s.size := Array.length_toList ..
  have hi : i < s.data.toList.length := by
    rcases Nat.lt_or_ge i s.data.toList.length with h1 | h1
    · exact h1
    · rw [List.drop_eq_nil_of_le h1] at h; cases h
  obtain ⟨c', r', h1, h2, h3⟩ := bt_is s (i : Int) (by omega) (by omega)
  rw [Int.toNat_natCast, h] at h1
  obtain ⟨rfl, rfl⟩ := List.cons.inj h1
  rw [show ((i : Int) + 1).toNat = i + 1 by omega] at h3
  exact ⟨by omega, h2, h3⟩
theorem u8_zero {c : UInt8} (h : (c.toNat : Int) = 0) : c = 0 := UInt8.toNat_inj.1 (by rw [show (0 : UInt8).toNat = 0 from rfl]; omega)
theorem ext_list (s : ByteArray) (a b : Nat) : (s.extract a b).toList = (s.data.toList.drop a).take (b - a) := by
  rw [ByteArray.toList_eq, ByteArray.data_extract, Array.toList_extract, List.extract_eq_take_drop]
theorem place_scan (s t : ByteArray) (hs : s.size ≤ 1000000) (frm K : Nat) (R : Option Int) : ∀ (q r : List UInt8) (k i : Nat), frm ≤ i → s.data.toList.drop i = q ++ 0 :: r → (0 : UInt8) ∉ q → K + q.length < k →
    (∀ k', K ≤ k' → postriderref07_place.l0 k' s t ((i + q.length + 1 : Nat) : Int) ((i + q.length + 1 : Nat) : Int) = R) →
    postriderref07_place.l0 k s t (frm : Int) (i : Int) = if (s.data.toList.drop frm).take (i + q.length - frm) = t.toList then some (frm : Int) else R
  | [], r, k, i, hf, hd, _, hk, hR => by
    obtain ⟨k, rfl⟩ : ∃ m, k = m + 1 := ⟨k - 1, by omega⟩
    obtain ⟨h1, h2, h3⟩ := bt_drop hd
    simp only [postriderref07_place.l0]
    rw [if_pos (by omega), if_pos (by omega), if_pos (by rw [h2]; rfl), if_pos (by omega), if_pos (by omega), if_pos (by omega), Int.toNat_natCast, Int.toNat_natCast, ext_list, wrap_up i (by omega)]
    have := hR k (by simp at hk; omega)
    simp only [List.length_nil, Nat.add_zero] at this ⊢
    rw [this]
  | c :: q, r, k, i, hf, hd, hz, hk, hR => by
    obtain ⟨k, rfl⟩ : ∃ m, k = m + 1 := ⟨k - 1, by omega⟩
    obtain ⟨h1, h2, h3⟩ := bt_drop hd
    simp only [postriderref07_place.l0]
    rw [if_pos (by omega), if_pos (by omega), if_neg (by rw [h2]; exact fun e => hz (by rw [u8_zero e]; exact List.mem_cons_self)), wrap_up i (by omega)]
    have e : i + (c :: q).length = i + 1 + q.length := by rw [List.length_cons]; omega
    rw [e] at hR ⊢
    exact place_scan s t hs frm K R q r k (i + 1) (by omega) h3 (fun h => hz (List.mem_cons_of_mem _ h)) (by rw [List.length_cons] at hk; omega) hR
theorem place_from (s t : ByteArray) (hs : s.size ≤ 1000000) : ∀ (Q P : List (List UInt8)) (k : Nat), s.data.toList = flatT (P ++ Q) → (∀ x ∈ Q, (0 : UInt8) ∉ x) → (flatT Q).length < k →
    postriderref07_place.l0 k s t ((flatT P).length : Int) ((flatT P).length : Int) = some (if t.toList ∈ Q then (((flatT P).length + placeL Q t.toList : Nat) : Int) else -1)
  | [], P, k, hd, _, hk => by
    obtain ⟨k, rfl⟩ : ∃ m, k = m + 1 := ⟨k - 1, by omega⟩
    have hl : s.data.toList.length = s.size := Array.length_toList ..
    rw [hd, List.append_nil] at hl
    simp only [postriderref07_place.l0]
    rw [if_neg (by omega), if_neg (by simp)]
  | x :: Q, P, k, hd, hz, hk => by
    have hd' : s.data.toList = flatT ((P ++ [x]) ++ Q) := by rw [hd]; simp
    have e1 : (flatT (P ++ [x])).length = (flatT P).length + x.length + 1 := by rw [flatT_snoc]; simp; omega
    have hkx : (flatT Q).length + 1 + x.length < k := by rw [flatT_cons, List.length_append, List.length_cons] at hk; omega
    have hdrop : s.data.toList.drop (flatT P).length = x ++ 0 :: flatT Q := by rw [hd, flatT_app, List.drop_left, flatT_cons]
    have := place_scan s t hs (flatT P).length ((flatT Q).length + 1) (some (if t.toList ∈ Q then (((flatT P).length + x.length + 1 + placeL Q t.toList : Nat) : Int) else -1)) x (flatT Q) k (flatT P).length (Nat.le_refl _) hdrop (hz x List.mem_cons_self) (by omega) (fun k' hk' => by
      have ih := place_from s t hs Q (P ++ [x]) k' hd' (fun y hy => hz y (List.mem_cons_of_mem _ hy)) (by omega)
      rw [e1] at ih
      exact ih)
    rw [this, hdrop, show (flatT P).length + x.length - (flatT P).length = x.length by omega, List.take_left]
    by_cases h : x = t.toList
    · rw [if_pos h, if_pos (by rw [h]; exact List.mem_cons_self), placeL, if_pos h, Nat.add_zero]
    · rw [if_neg h]
      by_cases h2 : t.toList ∈ Q
      · rw [if_pos h2, if_pos (List.mem_cons_of_mem _ h2), placeL, if_neg h, show (flatT P).length + x.length + 1 + placeL Q t.toList = (flatT P).length + (x.length + 1 + placeL Q t.toList) by omega]
      · rw [if_neg h2, if_neg (fun e => by rcases List.mem_cons.1 e with e | e; exact h e.symm; exact h2 e)]
theorem place_ref (L : List (List UInt8)) (t : ByteArray) (k : Nat) (hs : (flatT L).length ≤ 1000000) (hz : ∀ x ∈ L, (0 : UInt8) ∉ x) (hk : 1000000 < k) :
    postriderref07_place.f k (txt (flatT L)) t = some (if t.data.toList ∈ L then ((placeL L t.data.toList : Nat) : Int) else -1) := by
  unfold postriderref07_place.f
  have := place_from (txt (flatT L)) t (by rw [txt_size]; exact hs) L [] k (by rw [txt_list]; rfl) hz (by omega)
  rw [flatT_nil, List.length_nil, Nat.zero_add, ByteArray.toList_eq] at this
  exact this
theorem txt_more (L : List (List UInt8)) (t : ByteArray) : (txt (flatT L) ++ t) ++ (⟨#[0]⟩ : ByteArray) = txt (flatT (L ++ [t.data.toList])) := by
  rw [flatT_snoc, show (⟨#[0]⟩ : ByteArray) = txt [0] from rfl]
  conv => lhs; lhs; rhs; rw [← txt_data t]
  rw [txt_app, txt_app, List.append_assoc]
theorem bt110 {L : List (List UInt8)} {t : List UInt8} (_ : t ∈ L) : ¬ (((placeL L t : Nat) : Int) < 0) := by omega
theorem Build_l1 (l : List Nm) (dtn : Bool) (hl : l.length ≤ 30) (hr : ∀ x ∈ l, x.right = true) (hsz : ∀ x ∈ l, x.f1.size ≤ 1000 ∧ x.f2.size ≤ 1000) : ∀ (d k i : Nat) (L : List (List UInt8)) (p : List Int), l.length - i = d → i ≤ l.length → 1001000 + 2 * d < k →
    (∀ x ∈ L, (0 : UInt8) ∉ x) → (flatT L).length ≤ 2002 * i → p.length = 2 * i →
    postriderref07_Build.l1 k l dtn (txt (flatT L)) p (i : Int) = some (txt (flatT ((l.drop i).foldl (buildF dtn) (L, p)).1), ((l.drop i).foldl (buildF dtn) (L, p)).2, 0) := by
  intro d
  induction d with
  | zero =>
    intro k i L p hd hi hk hz hsize hp
    obtain ⟨k, rfl⟩ : ∃ m, k = m + 1 := ⟨k - 1, by omega⟩
    simp only [postriderref07_Build.l1]
    rw [if_neg (by omega), List.drop_eq_nil_of_le (by omega)]
    rfl
  | succ d ih =>
    intro k i L p hd hi hk hz hsize hp
    obtain ⟨k, rfl⟩ : ∃ m, k = m + 1 := ⟨k - 1, by omega⟩
    have hlt : i < l.length := by omega
    obtain ⟨x, hx⟩ : ∃ x, l[i] = x := ⟨_, rfl⟩
    have hxm : x ∈ l := hx ▸ List.getElem_mem hlt
    have hrd : rd_T41 l (i : Int) = x := by
      unfold rd_T41
      rw [Int.toNat_natCast, List.getD_eq_getElem?_getD, List.getElem?_eq_getElem hlt, hx]
      rfl
    rw [List.drop_eq_getElem_cons hlt, hx, List.foldl_cons]
    simp only [postriderref07_Build.l1]
    rw [if_pos (by omega), hrd, wrap_up i (by omega)]
    cases dtn with
    | false =>
      rw [if_neg (by simp), if_pos (by omega)]
      simp only [Option.bind_some]
      rw [if_pos (by simp; omega)]
      have := ih k (i + 1) L (p ++ [x.f3, x.f4]) (by omega) (by omega) (by omega) hz (by omega) (by simp; omega)
      exact this
    | true =>
      have hxr := hr x hxm
      obtain ⟨s1, s2⟩ := hsz x hxm
      have hH : postriderref06_Halves.f k x.f0 x.f1 x.f2 x.f3 x.f4 = some (x.word, x.rest, 0) := by
        rw [Halves_ref k _ _ _ _ _ s1 s2 (by omega), Nm.halves hxr]
      have zw : (0 : UInt8) ∉ x.w := by show (0 : UInt8) ∉ x.word.data.toList; rw [Nm.word_is hxr]; exact word_zero _
      have zr : (0 : UInt8) ∉ x.r := rest_zero hxr
      have lw : x.w.length ≤ 43 := by show x.word.data.toList.length ≤ 43; rw [Array.length_toList]; exact Nm.sizes hxr _ (by simp)
      have lr : x.r.length ≤ 43 := by show x.rest.data.toList.length ≤ 43; rw [Array.length_toList]; exact Nm.sizes hxr _ (by simp)
      have hL1 : (flatT (addL L x.w)).length ≤ 2002 * i + 44 := by have := flat_addL L x.w; omega
      have hL2 : (flatT (addL (addL L x.w) x.r)).length ≤ 2002 * i + 88 := by have := flat_addL (addL L x.w) x.r; omega
      have hz1 : ∀ y ∈ addL L x.w, (0 : UInt8) ∉ y := addL_keep hz zw
      have hz2 : ∀ y ∈ addL (addL L x.w) x.r, (0 : UInt8) ∉ y := addL_keep hz1 zr
      have e2 : buildF true (L, p) x = (addL (addL L x.w) x.r, p ++ [((placeL (addL (addL L x.w) x.r) x.w : Nat) : Int), ((placeL (addL (addL L x.w) x.r) x.r : Nat) : Int)]) := by
        obtain ⟨M, hM⟩ := addL_pre (addL L x.w) x.r
        have hw := addL_mem L x.w
        have e : buildF true (L, p) x = (addL (addL L x.w) x.r, p ++ [((placeL (addL L x.w) x.w : Nat) : Int)] ++ [((placeL (addL (addL L x.w) x.r) x.r : Nat) : Int)]) := rfl
        rw [e]
        have : placeL (addL (addL L x.w) x.r) x.w = placeL (addL L x.w) x.w := by rw [hM, placeL_app _ hw]
        rw [this]
        simp
      have step2 : ∀ k', 1001000 + 2 * d < k' → postriderref07_Build.j2 (k' + 1) l true (txt (flatT (addL L x.w))) p (i : Int) x.word x.rest =
          some (txt (flatT ((l.drop (i + 1)).foldl (buildF true) (buildF true (L, p) x)).1), ((l.drop (i + 1)).foldl (buildF true) (buildF true (L, p) x)).2, 0) := by
        intro k' hk'
        have fin := ih k' (i + 1) _ _ (by omega) (by omega) (by omega) hz2 (by omega) (show (buildF true (L, p) x).2.length = 2 * (i + 1) by rw [e2]; simp; omega)
        have pw := place_ref (addL (addL L x.w) x.r) x.word k' (by omega) hz2 (by omega)
        have pr := place_ref (addL (addL L x.w) x.r) x.rest k' (by omega) hz2 (by omega)
        rw [if_pos (show x.word.data.toList ∈ addL (addL L x.w) x.r from by obtain ⟨M, hM⟩ := addL_pre (addL L x.w) x.r; rw [hM]; exact List.mem_append_left _ (addL_mem L x.w))] at pw
        rw [if_pos (show x.rest.data.toList ∈ addL (addL L x.w) x.r from addL_mem _ _)] at pr
        have p1 := place_ref (addL L x.w) x.rest k' (by omega) hz1 (by omega)
        have z1 : (txt (flatT (addL L x.w))).size ≤ 100000 := by rw [txt_size]; omega
        have z2 : x.rest.size ≤ 43 := Nm.sizes hxr _ (by simp)
        simp only [postriderref07_Build.j2]
        rw [p1]
        simp only [Option.bind_some]
        rw [e2] at fin ⊢
        dsimp only at fin
        by_cases hm : x.rest.data.toList ∈ addL L x.w
        · have ea : addL (addL L x.w) x.r = addL L x.w := by unfold addL; rw [if_pos]; exact hm
          rw [if_pos hm, if_neg (bt110 hm)]
          rw [ea] at pw fin ⊢
          rw [pw]
          simp only [Option.bind_some]
          rw [if_pos (by simp; omega), wrap_up i (by omega)]
          exact fin
        · have ea : addL (addL L x.w) x.r = addL L x.w ++ [x.r] := by rw [show addL (addL L x.w) x.r = if x.r ∈ addL L x.w then addL L x.w else addL L x.w ++ [x.r] from rfl, if_neg hm]
          rw [if_neg hm, if_pos (by decide), if_pos (by omega), if_pos (by omega), txt_more]
          rw [ea] at pw pr fin ⊢
          rw [show x.rest.data.toList = x.r from rfl] at *
          rw [pw]
          simp only [Option.bind_some]
          rw [pr]
          simp only [Option.bind_some]
          rw [if_pos (by simp; omega), wrap_up i (by omega)]
          exact fin
      rw [if_pos rfl, if_pos (by omega), hH]
      simp only [Option.bind_some]
      rw [place_ref L x.word k (by omega) hz (by omega)]
      simp only [Option.bind_some]
      have z1 : (txt (flatT L)).size ≤ 100000 := by rw [txt_size]; omega
      have z2 : x.word.size ≤ 43 := Nm.sizes hxr _ (by simp)
      obtain ⟨k, rfl⟩ : ∃ m, k = m + 1 := ⟨k - 1, by omega⟩
      by_cases hm : x.word.data.toList ∈ L
      · have ea : addL L x.w = L := by unfold addL; rw [if_pos]; exact hm
        rw [if_pos hm, if_neg (bt110 hm)]
        rw [ea] at step2
        exact step2 k (by omega)
      · have ea : addL L x.w = L ++ [x.w] := by unfold addL; rw [if_neg]; exact hm
        rw [if_neg hm, if_pos (by decide), if_pos (by omega), if_pos (by omega), txt_more]
        rw [ea] at step2
        exact step2 k (by omega)
theorem Build_l0 (l : List Nm) (hl : l.length ≤ 30) (hsz : ∀ x ∈ l, x.f1.size ≤ 1000 ∧ x.f2.size ≤ 1000) : ∀ (d k i : Nat), l.length - i = d → i ≤ l.length → 1001100 + d < k → (∀ x ∈ l.take i, x.right = true) →
    postriderref07_Build.l0 k l ((l.take i).any Nm.dtn) (i : Int) = some (buildT l) := by
  intro d
  induction d with
  | zero =>
    intro k i hd hi hk hr
    obtain ⟨k, rfl⟩ : ∃ m, k = m + 1 := ⟨k - 1, by omega⟩
    rw [List.take_of_length_le (by omega)] at hr ⊢
    simp only [postriderref07_Build.l0]
    rw [if_neg (by omega)]
    have := Build_l1 l (l.any Nm.dtn) hl hr hsz l.length k 0 [] [] (by omega) (by omega) (by omega) (fun x hx => by cases hx) (by simp [flatT_nil]) (by simp)
    refine this.trans ?_
    unfold buildT
    rw [if_neg (by omega), if_neg]
    · rfl
    · intro h
      obtain ⟨x, hx, hq⟩ := List.any_eq_true.1 h
      rw [hr x hx] at hq
      cases hq
  | succ d ih =>
    intro k i hd hi hk hr
    obtain ⟨k, rfl⟩ : ∃ m, k = m + 1 := ⟨k - 1, by omega⟩
    have hlt : i < l.length := by omega
    obtain ⟨x, hx⟩ : ∃ x, l[i] = x := ⟨_, rfl⟩
    have hxm : x ∈ l := hx ▸ List.getElem_mem hlt
    have hrd : rd_T41 l (i : Int) = x := by
      unfold rd_T41
      rw [Int.toNat_natCast, List.getD_eq_getElem?_getD, List.getElem?_eq_getElem hlt, hx]
      rfl
    obtain ⟨s1, s2⟩ := hsz x hxm
    have ht : l.take (i + 1) = l.take i ++ [x] := by rw [List.take_succ_eq_append_getElem hlt, hx]
    simp only [postriderref07_Build.l0]
    rw [if_pos (by omega), if_pos (by omega), hrd, Right_ref k _ _ _ _ _ s1 s2 (by omega)]
    simp only [Option.bind_some]
    by_cases hxr : x.right = true
    · have hxr' : rightS x.f0 x.f1 x.f2 x.f3 x.f4 = true := hxr
      rw [if_pos hxr', wrap_up i (by omega)]
      have := ih k (i + 1) (by omega) (by omega) (by omega) (fun y hy => by
        rw [ht] at hy
        rcases List.mem_append.1 hy with hy | hy
        · exact hr y hy
        · rw [List.mem_singleton.1 hy]; exact hxr)
      rw [ht, List.any_append] at this
      cases hc : (l.take i).any Nm.dtn with
      | true =>
        rw [if_pos rfl]
        rw [hc, Bool.true_or] at this
        exact this
      | false =>
        rw [if_neg (by simp)]
        rw [hc, Bool.false_or] at this
        rw [← this]
        simp [Nm.dtn]
    · have hxr' : ¬ rightS x.f0 x.f1 x.f2 x.f3 x.f4 = true := hxr
      rw [if_neg hxr']
      unfold buildT
      rw [if_neg (by omega), if_pos]
      exact List.any_eq_true.2 ⟨x, hxm, by simpa using hxr⟩
theorem Build_ref (l : List Nm) (k : Nat) (hsz : ∀ x ∈ l, x.f1.size ≤ 1000 ∧ x.f2.size ≤ 1000) (hk : 1002000 < k) : postriderref07_Build.f k l = some (buildT l) := by
  unfold postriderref07_Build.f
  by_cases h : (l.length : Int) > 30
  · rw [if_pos h]
    unfold buildT
    rw [if_pos (by omega)]
  · rw [if_neg h]
    exact Build_l0 l (by omega) hsz l.length k 0 (by omega) (by omega) (by omega) (fun x hx => by simp at hx)
end Go.Proofs.YtbjbicaffblchaaGreatDoor.Hand
end
section
namespace Go.Proofs.YtbjbicaffblchaaGreatDoor.Hand
open Go.RowKit Go.Proofs.YtbjbicaffblchaaGreatDoorW Go.Proofs.YtbjbicaffblchaaGreatDoorW.PrintWords Go.Proofs.YtbjbicaffblchaaGreatDoor.SA Go.Proofs.YtbjbicaffblchaaGreatDoor.SK Go.Proofs.YtbjbicaffblchaaGreatDoor.SR
def atT (s : ByteArray) (a : Int) : ByteArray :=
  if a < 0 ∨ a > s.size ∨ (0 : UInt8) ∉ s.data.toList.drop a.toNat then ⟨#[]⟩ else txt (cutp (s.data.toList.drop a.toNat))
theorem atT_size (s : ByteArray) (a : Int) : (atT s a).size ≤ s.size := by
  unfold atT
  split
  · exact Nat.zero_le _
  · rw [txt_size]
    have h1 := cutp_len (s.data.toList.drop a.toNat)
    have h2 : s.data.toList.length = s.size := Array.length_toList ..
    rw [List.length_drop] at h1
    omega
theorem textAt_none (s : ByteArray) (hs : s.size ≤ 1000000) (a : Int) : ∀ (d k i : Nat), s.size - i = d → i ≤ s.size → d < k → (0 : UInt8) ∉ s.data.toList.drop i → postriderref07_textAt.l0 k s a (i : Int) = some ⟨#[]⟩ := by
  intro d
  induction d with
  | zero =>
    intro k i hd hi hk _
    obtain ⟨k, rfl⟩ : ∃ m, k = m + 1 := ⟨k - 1, by omega⟩
    simp only [postriderref07_textAt.l0]
    rw [if_neg (by omega)]
  | succ d ih =>
    intro k i hd hi hk hz
    obtain ⟨k, rfl⟩ : ∃ m, k = m + 1 := ⟨k - 1, by omega⟩
    have hl : s.data.toList.length = s.size := Array.length_toList ..
    have hlt : i < s.data.toList.length := by omega
    have hd' := List.drop_eq_getElem_cons hlt
    obtain ⟨h1, h2, h3⟩ := bt_drop hd'
    simp only [postriderref07_textAt.l0]
    rw [if_pos (by omega), if_pos (by omega), if_neg (by rw [h2]; exact fun e => hz (by rw [hd', u8_zero e]; exact List.mem_cons_self)), wrap_up i (by omega)]
    exact ih k (i + 1) (by omega) (by omega) (by omega) (fun h => hz (by rw [hd']; exact List.mem_cons_of_mem _ h))
theorem textAt_hit (s : ByteArray) (hs : s.size ≤ 1000000) (a : Nat) : ∀ (q r : List UInt8) (k i : Nat), a ≤ i → s.data.toList.drop i = q ++ 0 :: r → (0 : UInt8) ∉ q → q.length < k →
    postriderref07_textAt.l0 k s (a : Int) (i : Int) = some (txt ((s.data.toList.drop a).take (i + q.length - a)))
  | [], r, k, i, ha, hd, _, hk => by
    obtain ⟨k, rfl⟩ : ∃ m, k = m + 1 := ⟨k - 1, by omega⟩
    obtain ⟨h1, h2, h3⟩ := bt_drop hd
    simp only [postriderref07_textAt.l0]
    rw [if_pos (by omega), if_pos (by omega), if_pos (by rw [h2]; rfl), if_pos (by omega), if_pos (by omega), if_pos (by omega), Int.toNat_natCast, Int.toNat_natCast, ext_txt]
    simp only [List.length_nil, Nat.add_zero]
  | c :: q, r, k, i, ha, hd, hz, hk => by
    obtain ⟨k, rfl⟩ : ∃ m, k = m + 1 := ⟨k - 1, by omega⟩
    obtain ⟨h1, h2, h3⟩ := bt_drop hd
    simp only [postriderref07_textAt.l0]
    rw [if_pos (by omega), if_pos (by omega), if_neg (by rw [h2]; exact fun e => hz (by rw [u8_zero e]; exact List.mem_cons_self)), wrap_up i (by omega)]
    have e : i + (c :: q).length = i + 1 + q.length := by rw [List.length_cons]; omega
    rw [e]
    exact textAt_hit s hs a q r k (i + 1) (by omega) h3 (fun h => hz (List.mem_cons_of_mem _ h)) (by rw [List.length_cons] at hk; omega)
theorem textAt_ref (k : Nat) (s : ByteArray) (a : Int) (hs : s.size ≤ 1000000) (hk : 1000002 < k) : postriderref07_textAt.f k s a = some (atT s a) := by
  obtain ⟨k, rfl⟩ : ∃ m, k = m + 1 := ⟨k - 1, by omega⟩
  unfold postriderref07_textAt.f atT
  by_cases h0 : a < 0
  · rw [if_pos h0, if_pos (.inl h0)]
    simp only [postriderref07_textAt.j0, if_true]
  · rw [if_neg h0]
    by_cases h1 : a > (s.size : Int)
    · rw [if_pos (.inr (.inl h1)), decide_eq_true h1]
      simp only [postriderref07_textAt.j0, if_true]
    · rw [decide_eq_false h1]
      simp only [postriderref07_textAt.j0, Bool.false_eq_true, if_false]
      obtain ⟨n, rfl⟩ : ∃ n : Nat, a = (n : Int) := ⟨a.toNat, by omega⟩
      rw [Int.toNat_natCast]
      have hl : s.data.toList.length = s.size := Array.length_toList ..
      by_cases hz : (0 : UInt8) ∈ s.data.toList.drop n
      · rw [if_neg (by simp only [not_or]; exact ⟨h0, h1, fun h => h hz⟩)]
        rcases cutp_split (s.data.toList.drop n) with ⟨p, q, e1, e2, e3⟩ | ⟨h, _⟩
        · have hlen := congrArg List.length e1
          rw [List.length_drop, List.length_append, List.length_cons] at hlen
          rw [textAt_hit s hs n p q k n (Nat.le_refl _) e1 e2 (by omega), e3, e1, show n + p.length - n = p.length by omega, List.take_left]
        · exact absurd hz h
      · rw [if_pos (.inr (.inr hz))]
        exact textAt_none s hs (n : Int) (s.size - n) k n rfl (by omega) (by omega) hz
theorem atT_flat {s : ByteArray} {L : List (List UInt8)} (h : s.data.toList = flatT L) (hz : ∀ x ∈ L, (0 : UInt8) ∉ x) {t : List UInt8} (ht : t ∈ L) : atT s ((placeL L t : Nat) : Int) = txt t := by
  obtain ⟨p, q, h1, h2, _⟩ := place_split L t ht
  have hl : s.data.toList.length = s.size := Array.length_toList ..
  have hd : s.data.toList.drop (placeL L t) = t ++ 0 :: q := by rw [h, h1, ← h2, List.drop_left]
  have hle := placeL_le ht
  rw [h] at hl
  unfold atT
  rw [Int.toNat_natCast, hd, if_neg, cutp_one _ (hz t ht)]
  simp only [not_or]
  exact ⟨by omega, by omega, fun h => h (by simp)⟩
theorem Texts_from (s : ByteArray) (hs : s.size ≤ 1000000) : ∀ (n k i : Nat) (out : List ByteArray), (s.data.toList.drop i).length < n → i ≤ s.size → (s.data.toList.drop i).length < k → out.length ≤ i →
    postriderref07_Texts.l0 k s out (i : Int) (i : Int) = some (if openT (s.data.toList.drop i) = true then ([], 70) else (out ++ (itemsF n i (s.data.toList.drop i)).map (·.2), 0)) := by
  have hl : s.data.toList.length = s.size := Array.length_toList ..
  have scan : ∀ (q r : List UInt8) (k i j : Nat) (out : List ByteArray), i ≤ j → s.data.toList.drop j = q ++ 0 :: r → (0 : UInt8) ∉ q → out.length ≤ 1000000 → ∀ (R : Option (List ByteArray × Int)) (K : Nat), K + q.length < k →
      (∀ k', K ≤ k' → postriderref07_Texts.l0 k' s (out ++ [txt ((s.data.toList.drop i).take (j + q.length - i))]) ((j + q.length + 1 : Nat) : Int) ((j + q.length + 1 : Nat) : Int) = R) →
      postriderref07_Texts.l0 k s out (i : Int) (j : Int) = R := by
    intro q
    induction q with
    | nil =>
      intro r k i j out hij hd _ ho R K hk hR
      obtain ⟨k, rfl⟩ : ∃ m, k = m + 1 := ⟨k - 1, by omega⟩
      obtain ⟨h1, h2, h3⟩ := bt_drop hd
      have := hR k (by simp at hk; omega)
      simp only [List.length_nil, Nat.add_zero] at this
      simp only [postriderref07_Texts.l0]
      rw [if_pos (by omega), if_pos (by omega), if_pos (by rw [h2]; rfl), if_pos (by omega), if_pos (by omega), if_pos (by omega), if_pos (by omega), Int.toNat_natCast, Int.toNat_natCast, ext_txt, wrap_up j (by omega)]
      exact this
    | cons c q ih =>
      intro r k i j out hij hd hz ho R K hk hR
      obtain ⟨k, rfl⟩ : ∃ m, k = m + 1 := ⟨k - 1, by omega⟩
      obtain ⟨h1, h2, h3⟩ := bt_drop hd
      simp only [postriderref07_Texts.l0]
      rw [if_pos (by omega), if_pos (by omega), if_neg (by rw [h2]; exact fun e => hz (by rw [u8_zero e]; exact List.mem_cons_self)), wrap_up j (by omega)]
      have e : j + (c :: q).length = j + 1 + q.length := by rw [List.length_cons]; omega
      rw [e] at hR
      exact ih r k i (j + 1) out (by omega) h3 (fun h => hz (List.mem_cons_of_mem _ h)) ho R K (by rw [List.length_cons] at hk; omega) hR
  have last : ∀ (d k i j : Nat) (out : List ByteArray), s.size - j = d → j ≤ s.size → i ≤ j → d < k → (0 : UInt8) ∉ s.data.toList.drop j → postriderref07_Texts.l0 k s out (i : Int) (j : Int) = some (if i = s.size then (out, 0) else ([], 70)) := by
    intro d
    induction d with
    | zero =>
      intro k i j out hd hj hij hk hz
      obtain ⟨k, rfl⟩ : ∃ m, k = m + 1 := ⟨k - 1, by omega⟩
      simp only [postriderref07_Texts.l0]
      rw [if_neg (by omega)]
      by_cases h : i = s.size
      · rw [if_pos (by omega), if_pos h]
      · rw [if_neg (by omega), if_neg h]
    | succ d ih =>
      intro k i j out hd hj hij hk hz
      obtain ⟨k, rfl⟩ : ∃ m, k = m + 1 := ⟨k - 1, by omega⟩
      have hlt : j < s.data.toList.length := by omega
      have hd' := List.drop_eq_getElem_cons hlt
      obtain ⟨h1, h2, h3⟩ := bt_drop hd'
      simp only [postriderref07_Texts.l0]
      rw [if_pos (by omega), if_pos (by omega), if_neg (by rw [h2]; exact fun e => hz (by rw [hd', u8_zero e]; exact List.mem_cons_self)), wrap_up j (by omega)]
      exact ih k i (j + 1) out (by omega) (by omega) (by omega) (by omega) (fun h => hz (by rw [hd']; exact List.mem_cons_of_mem _ h))
  intro n
  induction n with
  | zero => intro k i out h; omega
  | succ n ih =>
    intro k i out hn hi hk ho
    have hdl : (s.data.toList.drop i).length = s.size - i := by rw [List.length_drop, hl]
    by_cases hnil : s.data.toList.drop i = []
    · have h0 : s.size - i = 0 := by rw [← hdl, hnil]; rfl
      rw [last (s.size - i) k i i out rfl hi (Nat.le_refl _) (by omega) (by rw [hnil]; simp), hnil]
      rw [if_pos (by omega), if_neg (by simp [openT]), itemsF, if_pos rfl]
      simp
    · rcases cutp_split (s.data.toList.drop i) with ⟨p, q, e1, e2, e3⟩ | ⟨hz, _⟩
      · have hlen : p.length + (q.length + 1) = s.size - i := by rw [← hdl, e1]; simp
        have hq : s.data.toList.drop (i + p.length + 1) = q := by
          rw [show i + p.length + 1 = i + (p.length + 1) by omega, ← List.drop_drop, e1, List.drop_append]
          simp
        have ho1 : openT (s.data.toList.drop i) = openT q := by
          rw [e1]
          unfold openT
          rw [List.getLast?_append, List.getLast?_cons]
          by_cases hqn : q = []
          · rw [hqn]; simp
          · cases hg : q.getLast? with
            | none => exact absurd (List.getLast?_eq_none_iff.1 hg) hqn
            | some z =>
              have b1 : (p ++ 0 :: q != []) = true := by simp
              have b2 : (q != []) = true := by simpa using hqn
              rw [b1, b2]
              rfl
        refine scan p q k i i out (Nat.le_refl _) e1 e2 (by omega) _ (q.length + 1) (by omega) (fun k' hk' => ?_)
        have := ih k' (i + p.length + 1) (out ++ [txt p]) (by rw [hq]; omega) (by omega) (by rw [hq]; omega) (by simp; omega)
        rw [show i + p.length - i = p.length by omega, e1, List.take_left, ← e1, this, hq, ho1]
        rw [itemsF, if_neg hnil, e3, e1, show (p ++ 0 :: q).drop (p.length + 1) = q by rw [List.drop_append]; simp]
        simp
      · rw [last (s.size - i) k i i out rfl hi (Nat.le_refl _) (by omega) hz]
        have hsz : i ≠ s.size := by
          intro e
          apply hnil
          rw [List.drop_eq_nil_of_le (by omega)]
        rw [if_neg hsz, if_pos]
        unfold openT
        cases hg : (s.data.toList.drop i).getLast? with
        | none => exact absurd (List.getLast?_eq_none_iff.1 hg) hnil
        | some z =>
          have hz2 : z ≠ 0 := fun e => hz (e ▸ List.mem_of_getLast? hg)
          simp [hnil, hz2]
theorem Texts_ref (k : Nat) (s : ByteArray) (hs : s.size ≤ 1000000) (hk : 1000002 < k) : postriderref07_Texts.f k s = some (textsT s) := by
  have hl : s.data.toList.length = s.size := Array.length_toList ..
  unfold postriderref07_Texts.f textsT items
  have := Texts_from s hs (s.data.toList.length + 1) k 0 [] (by simp) (by omega) (by simp; omega) (by simp)
  rw [List.drop_zero, List.nil_append] at this
  exact this
end Go.Proofs.YtbjbicaffblchaaGreatDoor.Hand
end
section
namespace Go.Proofs.YtbjbicaffblchaaGreatDoor.Hand
open Go.RowKit Go.Proofs.YtbjbicaffblchaaGreatDoorW Go.Proofs.YtbjbicaffblchaaGreatDoorW.PrintWords Go.Proofs.YtbjbicaffblchaaGreatDoorW.PrintLast Go.Proofs.YtbjbicaffblchaaGreatDoorW.PrintMore Go.Proofs.YtbjbicaffblchaaGreatDoor.SK
attribute [local go_sem] max2_int min2_int max_two min_two max_three min_three max_four min_four
def few7V.f (l : List Int) : Option (List Int) := some (l.take 63)
theorem few7V.out {l r : List Int} (h : few7V.f l = some r) : r = l.take 63 := (Option.some.inj h).symm
theorem few7V.reads {w : World} {A : Option Addr} {l r : List Int} (hr : Kd.C (Kd.int .i64) w A l.length l) (h : few7V.f l = some r) : Kd.C (Kd.int .i64) w A r.length r := by
  obtain rfl := few7V.out h
  refine Kd.C_of_reads (d := (0 : Int)) (h1 := fun _ => rfl) ?_
  have := (Kd.reads_of_C (enc := Value.int .i64) (d := (0 : Int)) (h1 := fun _ => rfl) hr).take_ (min 63 l.length) (by omega)
  rw [List.length_take]
  rw [show l.take (min 63 l.length) = l.take 63 by rw [← List.take_take, List.take_length]] at this
  exact this
theorem few7V.room {l r : List Int} {c : Nat} (hc : l.length ≤ c) (h : few7V.f l = some r) : r.length ≤ c := by
  obtain rfl := few7V.out h
  rw [List.length_take]
  omega
set_option maxHeartbeats 8000000 in
set_option maxRecDepth 100000 in
theorem few7V.calls (A0 : Option Addr) (c0 : Nat) (l0 r : List Int) (w : World) (_ : Kd.C (Kd.int .i64) w A0 l0.length l0) (hc0 : l0.length ≤ c0) (h : few7V.f l0 = some r) :
    Calls Tryz.prog 11 #[.slice A0 l0.length c0] w fun e w' => e = .returned (.slice A0 r.length c0) ∧ Below w.heap.size w w' := by
  obtain ⟨j, hj⟩ : ∃ j : Int, (if 63 < (l0.length : Int) then 63 else (l0.length : Int)) = j := ⟨_, rfl⟩
  have hj0 : 0 ≤ j := by split at hj <;> omega
  have hj1 : j ≤ l0.length := by split at hj <;> omega
  have hj2 : j.toNat = min 63 l0.length := by split at hj <;> omega
  obtain ⟨i0, hi0, _, hsz, _⟩ := info_parts info3
  have hcut := (print_take_of (P := Tryz.prog) (Value.int .i64) 0 23 3 .i64 Tryz.underlying23 hi0 hsz A0 c0 l0 j hj0 hj1 hc0).1
  have hl : (l0.take j.toNat).length = r.length := by rw [few7V.out h, List.length_take, List.length_take]; omega
  rw [hl] at hcut
  clear hi0 hsz
  go_enter Tryz.func11, Tryz.ntmps11
  go_wp2
  go_ret
  exact ⟨rfl, Below.refl _ _⟩
end Go.Proofs.YtbjbicaffblchaaGreatDoor.Hand
end
section
namespace Go.Proofs.YtbjbicaffblchaaGreatDoor.SLDictBuilds
open Go.Proofs.YtbjbicaffblchaaGreatDoor.Hand
open Go.Proofs.YtbjbicaffblchaaGreatDoor.SA
open Go.Proofs.YtbjbicaffblchaaGreatDoor.SK
open Go.Proofs.YtbjbicaffblchaaGreatDoor.SS
open Go.Proofs.YtbjbicaffblchaaGreatDoor.SR
open Go.RowKit Go.Proofs.YtbjbicaffblchaaGreatDoorW.PrintWords Go.Proofs.YtbjbicaffblchaaGreatDoorW.PrintLast Go.Proofs.YtbjbicaffblchaaGreatDoorW.PrintMore
attribute [local go_sem] max2_int min2_int max_two min_two max_three min_three max_four min_four
set_option linter.unusedVariables false
set_option linter.unusedSimpArgs false
def errW : Option Int → Value
  | none => .nilIface
  | some c => .iface 0 (.int .i64 c)
theorem errW_none : errW none = .nilIface := rfl
theorem errW_some (c : Int) : errW (some c) = .iface 0 (.int .i64 c) := rfl
end Go.Proofs.YtbjbicaffblchaaGreatDoor.SLDictBuilds
end
section
namespace Go.Proofs.YtbjbicaffblchaaGreatDoor.SLDictBuilds
open Go.Proofs.YtbjbicaffblchaaGreatDoor.Hand
open Go.Proofs.YtbjbicaffblchaaGreatDoor.SA
open Go.Proofs.YtbjbicaffblchaaGreatDoor.SK
open Go.Proofs.YtbjbicaffblchaaGreatDoor.SS
open Go.Proofs.YtbjbicaffblchaaGreatDoor.SR
open Go.RowKit Go.Proofs.YtbjbicaffblchaaGreatDoorW.PrintWords Go.Proofs.YtbjbicaffblchaaGreatDoorW.PrintLast Go.Proofs.YtbjbicaffblchaaGreatDoorW.PrintMore
attribute [local go_sem] max2_int min2_int max_two min_two max_three min_three max_four min_four
set_option linter.unusedVariables false
set_option linter.unusedSimpArgs false
def postriderlaw07_DictBuilds.f (k : Nat) (l0 : List (S41)) (a1 : ByteArray) (l2 : List Int) : Option (Bool) := (postriderlaw07_shown.f k).bind fun t101 => ((postriderlaw07_Few.f k l0).bind fun t102 => ((postriderlaw07_cut.f a1).bind fun t105 => ((few7V.f l2).bind fun t106 => ((dict_Build.f t102).bind fun bt108 => ((postriderref07_Build.f k t102).bind fun bt113 => ((dict_Read.f t105 t106).bind fun bt118 => ((postriderref07_Read.f k t105 t106).bind fun bt122 => ((dict_Texts.f t105).bind fun bt126 => ((postriderref07_Texts.f k t105).bind fun bt130 => (if t101 = true then (if bt108.1.toList = bt113.1.toList then ((postriderref02_Ints.f k bt108.2.1 bt113.2.1).bind fun t134 => (if t134 = true then (if bt108.2.2 = bt113.2.2 then ((postriderref06_Same.f k bt118.1 bt122.1).bind fun t135 => (if t135 = true then (if bt118.2 = bt122.2 then ((postriderref07_SameTexts.f k bt126.1 bt130.1).bind fun t136 => (if t136 = true then (some (bt126.2 == bt130.2)) else (none))) else (none)) else (none))) else (none)) else (none))) else (none)) else (none)))))))))))
theorem postriderlaw07_DictBuilds.mono : ∀ a0 a1 a2 k, LeO (postriderlaw07_DictBuilds.f k a0 a1 a2) (postriderlaw07_DictBuilds.f (k + 1) a0 a1 a2) := by
  intro a0 a1 a2 k
  unfold postriderlaw07_DictBuilds.f
  repeat' first
      | (with_reducible exact postriderlaw07_Few.mono _ _)
      | (with_reducible exact postriderlaw07_shown.mono _)
      | (with_reducible exact postriderref02_Ints.mono _ _ _)
      | (with_reducible exact postriderref06_Same.mono _ _ _)
      | (with_reducible exact postriderref07_Build.mono _ _)
      | (with_reducible exact postriderref07_Read.mono _ _ _)
      | (with_reducible exact postriderref07_SameTexts.mono _ _ _)
      | (with_reducible exact postriderref07_Texts.mono _ _)
      | (with_reducible exact LeO.refl _)
      | (with_reducible exact LeO.none _)
      | (with_reducible refine LeO.ite ?_ ?_)
      | (with_reducible refine LeO.bind ?_ (fun _ => ?_))
      | exact postriderlaw07_Few.mono _ _
      | exact postriderlaw07_shown.mono _
      | exact postriderref02_Ints.mono _ _ _
      | exact postriderref06_Same.mono _ _ _
      | exact postriderref07_Build.mono _ _
      | exact postriderref07_Read.mono _ _ _
      | exact postriderref07_SameTexts.mono _ _ _
      | exact postriderref07_Texts.mono _ _
      | exact LeO.none _
      | refine LeO.ite ?_ ?_
      | refine LeO.bind ?_ (fun _ => ?_)
set_option maxHeartbeats 8000000 in
set_option maxRecDepth 100000 in
theorem postriderlaw07_DictBuilds.calls (k : Nat) (A0 : Option Addr) (c0 : Nat) (l0 : List (S41)) (a1 : ByteArray) (A2 : Option Addr) (c2 : Nat) (l2 : List Int) (r : Bool) (w : World) (hr0 : Kd.C k41 w A0 l0.length l0) (hc0 : l0.length ≤ c0) (hr2 : Kd.C (Kd.int .i64) w A2 l2.length l2) (hc2 : l2.length ≤ c2) (hLd : LaidD w) (h : postriderlaw07_DictBuilds.f k l0 a1 l2 = some r) :
    Calls Tryz.prog 3 #[.slice A0 l0.length c0, .string a1, .slice A2 l2.length c2] w fun e w' => e = .returned (.bool r) ∧ Below w.heap.size w w' := by
  have HLD := Aside0.mk hLd
  clear hLd
  have HR0 := Aside0.mk hr0
  have HC0 := Aside0.mk hc0
  clear hr0 hc0
  have HR2 := Aside0.mk hr2
  have HC2 := Aside0.mk hc2
  clear hr2 hc2
  have HB := Aside0.mk (Below.refl w.heap.size w)
  have H : ((postriderlaw07_shown.f k).bind fun t101 => ((postriderlaw07_Few.f k l0).bind fun t102 => ((postriderlaw07_cut.f a1).bind fun t105 => ((few7V.f l2).bind fun t106 => ((dict_Build.f t102).bind fun bt108 => ((postriderref07_Build.f k t102).bind fun bt113 => ((dict_Read.f t105 t106).bind fun bt118 => ((postriderref07_Read.f k t105 t106).bind fun bt122 => ((dict_Texts.f t105).bind fun bt126 => ((postriderref07_Texts.f k t105).bind fun bt130 => (if t101 = true then (if bt108.1.toList = bt113.1.toList then ((postriderref02_Ints.f k bt108.2.1 bt113.2.1).bind fun t134 => (if t134 = true then (if bt108.2.2 = bt113.2.2 then ((postriderref06_Same.f k bt118.1 bt122.1).bind fun t135 => (if t135 = true then (if bt118.2 = bt122.2 then ((postriderref07_SameTexts.f k bt126.1 bt130.1).bind fun t136 => (if t136 = true then (some (bt126.2 == bt130.2)) else (none))) else (none)) else (none))) else (none)) else (none))) else (none)) else (none)))))))))))) = some r := h
  clear h
  replace H := Option.bind_eq_some_iff.mp H
  obtain ⟨t101, A40, H⟩ := H
  replace H : ((postriderlaw07_Few.f k l0).bind fun t102 => ((postriderlaw07_cut.f a1).bind fun t105 => ((few7V.f l2).bind fun t106 => ((dict_Build.f t102).bind fun bt108 => ((postriderref07_Build.f k t102).bind fun bt113 => ((dict_Read.f t105 t106).bind fun bt118 => ((postriderref07_Read.f k t105 t106).bind fun bt122 => ((dict_Texts.f t105).bind fun bt126 => ((postriderref07_Texts.f k t105).bind fun bt130 => (if t101 = true then (if bt108.1.toList = bt113.1.toList then ((postriderref02_Ints.f k bt108.2.1 bt113.2.1).bind fun t134 => (if t134 = true then (if bt108.2.2 = bt113.2.2 then ((postriderref06_Same.f k bt118.1 bt122.1).bind fun t135 => (if t135 = true then (if bt118.2 = bt122.2 then ((postriderref07_SameTexts.f k bt126.1 bt130.1).bind fun t136 => (if t136 = true then (some (bt126.2 == bt130.2)) else (none))) else (none)) else (none))) else (none)) else (none))) else (none)) else (none))))))))))) = some r := H
  have A4 := Aside0.mk A40
  clear A40
  replace H := Option.bind_eq_some_iff.mp H
  obtain ⟨t102, A50, H⟩ := H
  replace H : ((postriderlaw07_cut.f a1).bind fun t105 => ((few7V.f l2).bind fun t106 => ((dict_Build.f t102).bind fun bt108 => ((postriderref07_Build.f k t102).bind fun bt113 => ((dict_Read.f t105 t106).bind fun bt118 => ((postriderref07_Read.f k t105 t106).bind fun bt122 => ((dict_Texts.f t105).bind fun bt126 => ((postriderref07_Texts.f k t105).bind fun bt130 => (if t101 = true then (if bt108.1.toList = bt113.1.toList then ((postriderref02_Ints.f k bt108.2.1 bt113.2.1).bind fun t134 => (if t134 = true then (if bt108.2.2 = bt113.2.2 then ((postriderref06_Same.f k bt118.1 bt122.1).bind fun t135 => (if t135 = true then (if bt118.2 = bt122.2 then ((postriderref07_SameTexts.f k bt126.1 bt130.1).bind fun t136 => (if t136 = true then (some (bt126.2 == bt130.2)) else (none))) else (none)) else (none))) else (none)) else (none))) else (none)) else (none)))))))))) = some r := H
  have A5 := Aside0.mk A50
  clear A50
  replace H := Option.bind_eq_some_iff.mp H
  obtain ⟨t105, A60, H⟩ := H
  replace H : ((few7V.f l2).bind fun t106 => ((dict_Build.f t102).bind fun bt108 => ((postriderref07_Build.f k t102).bind fun bt113 => ((dict_Read.f t105 t106).bind fun bt118 => ((postriderref07_Read.f k t105 t106).bind fun bt122 => ((dict_Texts.f t105).bind fun bt126 => ((postriderref07_Texts.f k t105).bind fun bt130 => (if t101 = true then (if bt108.1.toList = bt113.1.toList then ((postriderref02_Ints.f k bt108.2.1 bt113.2.1).bind fun t134 => (if t134 = true then (if bt108.2.2 = bt113.2.2 then ((postriderref06_Same.f k bt118.1 bt122.1).bind fun t135 => (if t135 = true then (if bt118.2 = bt122.2 then ((postriderref07_SameTexts.f k bt126.1 bt130.1).bind fun t136 => (if t136 = true then (some (bt126.2 == bt130.2)) else (none))) else (none)) else (none))) else (none)) else (none))) else (none)) else (none))))))))) = some r := H
  have A6 := Aside0.mk A60
  clear A60
  replace H := Option.bind_eq_some_iff.mp H
  obtain ⟨t106, A70, H⟩ := H
  replace H : ((dict_Build.f t102).bind fun bt108 => ((postriderref07_Build.f k t102).bind fun bt113 => ((dict_Read.f t105 t106).bind fun bt118 => ((postriderref07_Read.f k t105 t106).bind fun bt122 => ((dict_Texts.f t105).bind fun bt126 => ((postriderref07_Texts.f k t105).bind fun bt130 => (if t101 = true then (if bt108.1.toList = bt113.1.toList then ((postriderref02_Ints.f k bt108.2.1 bt113.2.1).bind fun t134 => (if t134 = true then (if bt108.2.2 = bt113.2.2 then ((postriderref06_Same.f k bt118.1 bt122.1).bind fun t135 => (if t135 = true then (if bt118.2 = bt122.2 then ((postriderref07_SameTexts.f k bt126.1 bt130.1).bind fun t136 => (if t136 = true then (some (bt126.2 == bt130.2)) else (none))) else (none)) else (none))) else (none)) else (none))) else (none)) else (none)))))))) = some r := H
  have A7 := Aside0.mk A70
  clear A70
  have HR107 := Aside0.mk (few7V.reads HR2.out A7.out)
  have HC107 := Aside0.mk (few7V.room HC2.out A7.out)
  replace H := Option.bind_eq_some_iff.mp H
  obtain ⟨⟨t108, t109, t110⟩, A80, H⟩ := H
  replace H : ((postriderref07_Build.f k t102).bind fun bt113 => ((dict_Read.f t105 t106).bind fun bt118 => ((postriderref07_Read.f k t105 t106).bind fun bt122 => ((dict_Texts.f t105).bind fun bt126 => ((postriderref07_Texts.f k t105).bind fun bt130 => (if t101 = true then (if t108.toList = bt113.1.toList then ((postriderref02_Ints.f k t109 bt113.2.1).bind fun t134 => (if t134 = true then (if t110 = bt113.2.2 then ((postriderref06_Same.f k bt118.1 bt122.1).bind fun t135 => (if t135 = true then (if bt118.2 = bt122.2 then ((postriderref07_SameTexts.f k bt126.1 bt130.1).bind fun t136 => (if t136 = true then (some (bt126.2 == bt130.2)) else (none))) else (none)) else (none))) else (none)) else (none))) else (none)) else (none))))))) = some r := H
  have A8 := Aside0.mk A80
  clear A80
  replace H := Option.bind_eq_some_iff.mp H
  obtain ⟨⟨t113, t114, t115⟩, A90, H⟩ := H
  replace H : ((dict_Read.f t105 t106).bind fun bt118 => ((postriderref07_Read.f k t105 t106).bind fun bt122 => ((dict_Texts.f t105).bind fun bt126 => ((postriderref07_Texts.f k t105).bind fun bt130 => (if t101 = true then (if t108.toList = t113.toList then ((postriderref02_Ints.f k t109 t114).bind fun t134 => (if t134 = true then (if t110 = t115 then ((postriderref06_Same.f k bt118.1 bt122.1).bind fun t135 => (if t135 = true then (if bt118.2 = bt122.2 then ((postriderref07_SameTexts.f k bt126.1 bt130.1).bind fun t136 => (if t136 = true then (some (bt126.2 == bt130.2)) else (none))) else (none)) else (none))) else (none)) else (none))) else (none)) else (none)))))) = some r := H
  have A9 := Aside0.mk A90
  clear A90
  replace H := Option.bind_eq_some_iff.mp H
  obtain ⟨⟨t118, t119⟩, A100, H⟩ := H
  replace H : ((postriderref07_Read.f k t105 t106).bind fun bt122 => ((dict_Texts.f t105).bind fun bt126 => ((postriderref07_Texts.f k t105).bind fun bt130 => (if t101 = true then (if t108.toList = t113.toList then ((postriderref02_Ints.f k t109 t114).bind fun t134 => (if t134 = true then (if t110 = t115 then ((postriderref06_Same.f k t118 bt122.1).bind fun t135 => (if t135 = true then (if t119 = bt122.2 then ((postriderref07_SameTexts.f k bt126.1 bt130.1).bind fun t136 => (if t136 = true then (some (bt126.2 == bt130.2)) else (none))) else (none)) else (none))) else (none)) else (none))) else (none)) else (none))))) = some r := H
  have A10 := Aside0.mk A100
  clear A100
  replace H := Option.bind_eq_some_iff.mp H
  obtain ⟨⟨t122, t123⟩, A110, H⟩ := H
  replace H : ((dict_Texts.f t105).bind fun bt126 => ((postriderref07_Texts.f k t105).bind fun bt130 => (if t101 = true then (if t108.toList = t113.toList then ((postriderref02_Ints.f k t109 t114).bind fun t134 => (if t134 = true then (if t110 = t115 then ((postriderref06_Same.f k t118 t122).bind fun t135 => (if t135 = true then (if t119 = t123 then ((postriderref07_SameTexts.f k bt126.1 bt130.1).bind fun t136 => (if t136 = true then (some (bt126.2 == bt130.2)) else (none))) else (none)) else (none))) else (none)) else (none))) else (none)) else (none)))) = some r := H
  have A11 := Aside0.mk A110
  clear A110
  replace H := Option.bind_eq_some_iff.mp H
  obtain ⟨⟨t126, t127⟩, A120, H⟩ := H
  replace H : ((postriderref07_Texts.f k t105).bind fun bt130 => (if t101 = true then (if t108.toList = t113.toList then ((postriderref02_Ints.f k t109 t114).bind fun t134 => (if t134 = true then (if t110 = t115 then ((postriderref06_Same.f k t118 t122).bind fun t135 => (if t135 = true then (if t119 = t123 then ((postriderref07_SameTexts.f k t126 bt130.1).bind fun t136 => (if t136 = true then (some (t127 == bt130.2)) else (none))) else (none)) else (none))) else (none)) else (none))) else (none)) else (none))) = some r := H
  have A12 := Aside0.mk A120
  clear A120
  replace H := Option.bind_eq_some_iff.mp H
  obtain ⟨⟨t130, t131⟩, A130, H⟩ := H
  replace H : (if t101 = true then (if t108.toList = t113.toList then ((postriderref02_Ints.f k t109 t114).bind fun t134 => (if t134 = true then (if t110 = t115 then ((postriderref06_Same.f k t118 t122).bind fun t135 => (if t135 = true then (if t119 = t123 then ((postriderref07_SameTexts.f k t126 t130).bind fun t136 => (if t136 = true then (some (t127 == t131)) else (none))) else (none)) else (none))) else (none)) else (none))) else (none)) else (none)) = some r := H
  have A13 := Aside0.mk A130
  clear A130
  by_cases c14 : t101 = true
  · subst c14
    have H1 : (if t108.toList = t113.toList then ((postriderref02_Ints.f k t109 t114).bind fun t134 => (if t134 = true then (if t110 = t115 then ((postriderref06_Same.f k t118 t122).bind fun t135 => (if t135 = true then (if t119 = t123 then ((postriderref07_SameTexts.f k t126 t130).bind fun t136 => (if t136 = true then (some (t127 == t131)) else (none))) else (none)) else (none))) else (none)) else (none))) else (none)) = some r := by rw [if_pos rfl] at H; exact H
    clear H
    have H := H1
    clear H1
    by_cases c15 : t108.toList = t113.toList
    · rw [if_pos c15] at H
      have c15b0 : (t108.toList == t113.toList) = true := beq_iff_eq.mpr c15
      have c15b1 : (t108.toList != t113.toList) = false := bne_eq_false_iff_eq.mpr c15
      clear c15
      replace H := Option.bind_eq_some_iff.mp H
      obtain ⟨t134, A160, H⟩ := H
      replace H : (if t134 = true then (if t110 = t115 then ((postriderref06_Same.f k t118 t122).bind fun t135 => (if t135 = true then (if t119 = t123 then ((postriderref07_SameTexts.f k t126 t130).bind fun t136 => (if t136 = true then (some (t127 == t131)) else (none))) else (none)) else (none))) else (none)) else (none)) = some r := H
      have A16 := Aside0.mk A160
      clear A160
      by_cases c17 : t134 = true
      · subst c17
        have H1 : (if t110 = t115 then ((postriderref06_Same.f k t118 t122).bind fun t135 => (if t135 = true then (if t119 = t123 then ((postriderref07_SameTexts.f k t126 t130).bind fun t136 => (if t136 = true then (some (t127 == t131)) else (none))) else (none)) else (none))) else (none)) = some r := by rw [if_pos rfl] at H; exact H
        clear H
        have H := H1
        clear H1
        by_cases c18 : t110 = t115
        · rw [if_pos c18] at H
          have c18b0 : (t110 == t115) = true := beq_iff_eq.mpr c18
          have c18b1 : (t110 != t115) = false := bne_eq_false_iff_eq.mpr c18
          clear c18
          replace H := Option.bind_eq_some_iff.mp H
          obtain ⟨t135, A190, H⟩ := H
          replace H : (if t135 = true then (if t119 = t123 then ((postriderref07_SameTexts.f k t126 t130).bind fun t136 => (if t136 = true then (some (t127 == t131)) else (none))) else (none)) else (none)) = some r := H
          have A19 := Aside0.mk A190
          clear A190
          by_cases c20 : t135 = true
          · subst c20
            have H1 : (if t119 = t123 then ((postriderref07_SameTexts.f k t126 t130).bind fun t136 => (if t136 = true then (some (t127 == t131)) else (none))) else (none)) = some r := by rw [if_pos rfl] at H; exact H
            clear H
            have H := H1
            clear H1
            by_cases c21 : t119 = t123
            · rw [if_pos c21] at H
              have c21b0 : (t119 == t123) = true := beq_iff_eq.mpr c21
              have c21b1 : (t119 != t123) = false := bne_eq_false_iff_eq.mpr c21
              clear c21
              replace H := Option.bind_eq_some_iff.mp H
              obtain ⟨t136, A220, H⟩ := H
              replace H : (if t136 = true then (some (t127 == t131)) else (none)) = some r := H
              have A22 := Aside0.mk A220
              clear A220
              by_cases c23 : t136 = true
              · subst c23
                have H1 : (some (t127 == t131)) = some r := by rw [if_pos rfl] at H; exact H
                clear H
                have H := H1
                clear H1
                obtain rfl := Option.some.inj H
                go_enter Tryz.func3, Tryz.ntmps3
                go_wp2_with (first | ((with_reducible refine gate_callee (f := 8) rfl ?_); refine goesL_ (some 22) rfl rfl Tryz.func8 (by kernel_rfl) rfl #[] rfl (by (try simp only [List.map_toArray, List.map_cons, List.map_nil]); first | done | rfl | (simp only [List.length_drop, List.length_take]; rfl)) ?_; (with_reducible refine (postriderlaw07_shown.calls k  true _ ?side1 A4.out).mono ?_); (case side1 => exact LaidD.below HLD.out (by repeat (first | (with_reducible first | exact HB.out | apply below_alloc | apply pw_below_drewN | apply below_drew1) | exact HB.out))); rintro e w24 ⟨rfl, hb⟩; refine ⟨_, rfl, ?_⟩; have n0_ := Aside0.mk (below_step (by repeat (first | (with_reducible first | exact HB.out | apply below_alloc | apply pw_below_drewN | apply below_drew1) | exact HB.out)) hb); clear HB; have HB := n0_; clear n0_; (try clear hb); (try clear hb2); (try clear hk); (try clear hi)) | ((with_reducible refine gate_callee (f := 9) rfl ?_); refine goesL_ (some 24) rfl rfl Tryz.func9 (by kernel_rfl) rfl #[.slice A0 l0.length c0] rfl (by (try simp only [List.map_toArray, List.map_cons, List.map_nil]); first | done | rfl | (simp only [List.length_drop, List.length_take]; rfl)) ?_; (with_reducible refine (postriderlaw07_Few.calls k _ _ l0 t102 _ ?side1 ?side2 A5.out).mono ?_); (case side1 => repeat (first | exact (Kd.C_below HR0.out HB.out) | (with_reducible refine Kd.C_alloc ?_ _) | (with_reducible refine Kd.C_drewN ?_ _) | (with_reducible refine Kd.C_drew ?_))); (case side2 => exact HC0.out); rintro e w25 ⟨v103, rfl, ho0, hb⟩; refine ⟨_, rfl, ?_⟩; have n0_ := Aside0.mk (Kd.R_lower ho0 (below_size (by repeat (first | (with_reducible first | exact HB.out | apply below_alloc | apply pw_below_drewN | apply below_drew1) | exact HB.out)))); have n1_ := Aside0.mk (below_step (by repeat (first | (with_reducible first | exact HB.out | apply below_alloc | apply pw_below_drewN | apply below_drew1) | exact HB.out)) hb); clear HB; have HO104 := n0_; have HB := n1_; clear n0_ n1_; (try clear hb); (try clear hb2); (try clear hk); (try clear hi); (try clear ho0)) | ((with_reducible refine gate_callee (f := 10) rfl ?_); refine goesL_ (some 26) rfl rfl Tryz.func10 (by kernel_rfl) rfl #[.string a1] rfl (by (try simp only [List.map_toArray, List.map_cons, List.map_nil]); first | done | rfl | (simp only [List.length_drop, List.length_take]; rfl)) ?_; (with_reducible refine (postriderlaw07_cut.calls a1 t105 _ A6.out).mono ?_); rintro e w26 ⟨rfl, hb⟩; refine ⟨_, rfl, ?_⟩; have n0_ := Aside0.mk (Kd.R_below (by (with_reducible repeat (first | apply Kd.R_alloc | apply Kd.R_drewN | apply Kd.R_drew)); exact HO104.out) hb); have n1_ := Aside0.mk (below_step (by repeat (first | (with_reducible first | exact HB.out | apply below_alloc | apply pw_below_drewN | apply below_drew1) | exact HB.out)) hb); clear HO104; clear HB; have HO104 := n0_; have HB := n1_; clear n0_ n1_; (try clear hb); (try clear hb2); (try clear hk); (try clear hi)) | ((with_reducible refine gate_callee (f := 11) rfl ?_); refine goesL_ (some 28) rfl rfl Tryz.func11 (by kernel_rfl) rfl #[.slice A2 l2.length c2] rfl (by (try simp only [List.map_toArray, List.map_cons, List.map_nil]); first | done | rfl | (simp only [List.length_drop, List.length_take]; rfl)) ?_; (with_reducible refine (few7V.calls _ _ l2 t106 _ ?side1 ?side2 A7.out).mono ?_); (case side1 => repeat (first | exact (Kd.C_below HR2.out HB.out) | (with_reducible refine Kd.C_alloc ?_ _) | (with_reducible refine Kd.C_drewN ?_ _) | (with_reducible refine Kd.C_drew ?_))); (case side2 => exact HC2.out); rintro e w27 ⟨rfl, hb⟩; refine ⟨_, rfl, ?_⟩; have n0_ := Aside0.mk (Kd.R_below (by (with_reducible repeat (first | apply Kd.R_alloc | apply Kd.R_drewN | apply Kd.R_drew)); exact HO104.out) hb); have n1_ := Aside0.mk (below_step (by repeat (first | (with_reducible first | exact HB.out | apply below_alloc | apply pw_below_drewN | apply below_drew1) | exact HB.out)) hb); clear HO104; clear HB; have HO104 := n0_; have HB := n1_; clear n0_ n1_; (try clear hb); (try clear hb2); (try clear hk); (try clear hi); obtain ⟨Ao28, co28, eo28⟩ := Kd.R_slice HO104.out; subst eo28) | ((with_reducible refine gate_callee (f := 12) rfl ?_); refine goesL_ (some 31) rfl rfl Tryz.func12 (by kernel_rfl) rfl #[.slice Ao28 t102.length co28] rfl (by (try simp only [List.map_toArray, List.map_cons, List.map_nil]); first | done | rfl | (simp only [List.length_drop, List.length_take]; rfl)) ?_; (with_reducible refine (dict_Build.calls _ _ t102 t108 t109 t110 _ ?side1 ?side2 ?side3 A8.out).mono ?_); (case side1 => repeat (first | exact (Kd.R_reads' HO104.out).2.2 | (with_reducible refine Kd.C_alloc ?_ _) | (with_reducible refine Kd.C_drewN ?_ _) | (with_reducible refine Kd.C_drew ?_))); (case side2 => exact (Kd.R_reads' HO104.out).2.1); (case side3 => exact LaidD.below HLD.out (by repeat (first | (with_reducible first | exact HB.out | apply below_alloc | apply pw_below_drewN | apply below_drew1) | exact HB.out))); rintro e w29 ⟨v111, rfl, ho0, hb⟩; refine ⟨_, rfl, ?_⟩; have n0_ := Aside0.mk (Kd.R_below (by (with_reducible repeat (first | apply Kd.R_alloc | apply Kd.R_drewN | apply Kd.R_drew)); exact HO104.out) hb); have n1_ := Aside0.mk (Kd.R_lower ho0 (below_size (by repeat (first | (with_reducible first | exact HB.out | apply below_alloc | apply pw_below_drewN | apply below_drew1) | exact HB.out)))); have n2_ := Aside0.mk (below_step (by repeat (first | (with_reducible first | exact HB.out | apply below_alloc | apply pw_below_drewN | apply below_drew1) | exact HB.out)) hb); clear HO104; clear HB; have HO104 := n0_; have HO112 := n1_; have HB := n2_; clear n0_ n1_ n2_; (try clear hb); (try clear hb2); (try clear hk); (try clear hi); (try clear ho0)) | ((with_reducible refine gate_callee (f := 13) rfl ?_); refine goesL_ (some 37) rfl rfl Tryz.func13 (by kernel_rfl) rfl #[.slice Ao28 t102.length co28] rfl (by (try simp only [List.map_toArray, List.map_cons, List.map_nil]); first | done | rfl | (simp only [List.length_drop, List.length_take]; rfl)) ?_; (with_reducible refine (postriderref07_Build.calls k _ _ t102 t113 t114 t115 _ ?side1 ?side2 A9.out).mono ?_); (case side1 => repeat (first | exact (Kd.R_reads' HO104.out).2.2 | (with_reducible refine Kd.C_alloc ?_ _) | (with_reducible refine Kd.C_drewN ?_ _) | (with_reducible refine Kd.C_drew ?_))); (case side2 => exact (Kd.R_reads' HO104.out).2.1); rintro e w30 ⟨v116, rfl, ho0, hb⟩; refine ⟨_, rfl, ?_⟩; have n0_ := Aside0.mk (Kd.R_below (by (with_reducible repeat (first | apply Kd.R_alloc | apply Kd.R_drewN | apply Kd.R_drew)); exact HO104.out) hb); have n1_ := Aside0.mk (Kd.R_elder' (by (with_reducible repeat (first | apply Kd.R_alloc | apply Kd.R_drewN | apply Kd.R_drew)); exact HO112.out) (Kd.R_base ho0) hb); have n2_ := Aside0.mk (Kd.R_lower (Kd.R_new' ho0 (Kd.R_lt (by (with_reducible repeat (first | apply Kd.R_alloc | apply Kd.R_drewN | apply Kd.R_drew)); exact HO112.out))) (below_size (by repeat (first | (with_reducible first | exact HB.out | apply below_alloc | apply pw_below_drewN | apply below_drew1) | exact HB.out)))); have n3_ := Aside0.mk (below_step (by repeat (first | (with_reducible first | exact HB.out | apply below_alloc | apply pw_below_drewN | apply below_drew1) | exact HB.out)) hb); clear HO104; clear HO112; clear HB; have HO104 := n0_; have HO112 := n1_; have HO117 := n2_; have HB := n3_; clear n0_ n1_ n2_ n3_; (try clear hb); (try clear hb2); (try clear hk); (try clear hi); (try clear ho0)) | ((with_reducible refine gate_callee (f := 14) rfl ?_); refine goesL_ (some 44) rfl rfl Tryz.func14 (by kernel_rfl) rfl #[.string t105, .slice A2 t106.length c2] rfl (by (try simp only [List.map_toArray, List.map_cons, List.map_nil]); first | done | rfl | (simp only [List.length_drop, List.length_take]; rfl)) ?_; (with_reducible refine (dict_Read.calls t105 _ _ t106 t118 t119 _ ?side1 ?side2 ?side3 A10.out).mono ?_); (case side1 => repeat (first | exact (Kd.C_below HR107.out HB.out) | (with_reducible refine Kd.C_alloc ?_ _) | (with_reducible refine Kd.C_drewN ?_ _) | (with_reducible refine Kd.C_drew ?_))); (case side2 => exact HC107.out); (case side3 => exact LaidD.below HLD.out (by repeat (first | (with_reducible first | exact HB.out | apply below_alloc | apply pw_below_drewN | apply below_drew1) | exact HB.out))); rintro e w31 ⟨v120, rfl, ho0, hb⟩; refine ⟨_, rfl, ?_⟩; have n0_ := Aside0.mk (Kd.R_elder' (by (with_reducible repeat (first | apply Kd.R_alloc | apply Kd.R_drewN | apply Kd.R_drew)); exact HO104.out) (Kd.R_base ho0) hb); have n1_ := Aside0.mk (Kd.R_below (by (with_reducible repeat (first | apply Kd.R_alloc | apply Kd.R_drewN | apply Kd.R_drew)); exact HO112.out) hb); have n2_ := Aside0.mk (Kd.R_below (by (with_reducible repeat (first | apply Kd.R_alloc | apply Kd.R_drewN | apply Kd.R_drew)); exact HO117.out) hb); have n3_ := Aside0.mk (Kd.R_lower (Kd.R_new' ho0 (Kd.R_lt (by (with_reducible repeat (first | apply Kd.R_alloc | apply Kd.R_drewN | apply Kd.R_drew)); exact HO104.out))) (below_size (by repeat (first | (with_reducible first | exact HB.out | apply below_alloc | apply pw_below_drewN | apply below_drew1) | exact HB.out)))); have n4_ := Aside0.mk (below_step (by repeat (first | (with_reducible first | exact HB.out | apply below_alloc | apply pw_below_drewN | apply below_drew1) | exact HB.out)) hb); clear HO104; clear HO112; clear HO117; clear HB; have HO104 := n0_; have HO112 := n1_; have HO117 := n2_; have HO121 := n3_; have HB := n4_; clear n0_ n1_ n2_ n3_ n4_; (try clear hb); (try clear hb2); (try clear hk); (try clear hi); (try clear ho0)) | ((with_reducible refine gate_callee (f := 15) rfl ?_); refine goesL_ (some 50) rfl rfl Tryz.func15 (by kernel_rfl) rfl #[.string t105, .slice A2 t106.length c2] rfl (by (try simp only [List.map_toArray, List.map_cons, List.map_nil]); first | done | rfl | (simp only [List.length_drop, List.length_take]; rfl)) ?_; (with_reducible refine (postriderref07_Read.calls k t105 _ _ t106 t122 t123 _ ?side1 ?side2 A11.out).mono ?_); (case side1 => repeat (first | exact (Kd.C_below HR107.out HB.out) | (with_reducible refine Kd.C_alloc ?_ _) | (with_reducible refine Kd.C_drewN ?_ _) | (with_reducible refine Kd.C_drew ?_))); (case side2 => exact HC107.out); rintro e w32 ⟨v124, rfl, ho0, hb⟩; refine ⟨_, rfl, ?_⟩; have n0_ := Aside0.mk (Kd.R_elder' (by (with_reducible repeat (first | apply Kd.R_alloc | apply Kd.R_drewN | apply Kd.R_drew)); exact HO104.out) (Kd.R_base ho0) hb); have n1_ := Aside0.mk (Kd.R_below (by (with_reducible repeat (first | apply Kd.R_alloc | apply Kd.R_drewN | apply Kd.R_drew)); exact HO112.out) hb); have n2_ := Aside0.mk (Kd.R_below (by (with_reducible repeat (first | apply Kd.R_alloc | apply Kd.R_drewN | apply Kd.R_drew)); exact HO117.out) hb); have n3_ := Aside0.mk (Kd.R_elder' (by (with_reducible repeat (first | apply Kd.R_alloc | apply Kd.R_drewN | apply Kd.R_drew)); exact HO121.out) (Kd.R_base ho0) hb); have n4_ := Aside0.mk (Kd.R_lower (Kd.R_new' (Kd.R_new' ho0 (Kd.R_lt (by (with_reducible repeat (first | apply Kd.R_alloc | apply Kd.R_drewN | apply Kd.R_drew)); exact HO104.out))) (Kd.R_lt (by (with_reducible repeat (first | apply Kd.R_alloc | apply Kd.R_drewN | apply Kd.R_drew)); exact HO121.out))) (below_size (by repeat (first | (with_reducible first | exact HB.out | apply below_alloc | apply pw_below_drewN | apply below_drew1) | exact HB.out)))); have n5_ := Aside0.mk (below_step (by repeat (first | (with_reducible first | exact HB.out | apply below_alloc | apply pw_below_drewN | apply below_drew1) | exact HB.out)) hb); clear HO104; clear HO112; clear HO117; clear HO121; clear HB; have HO104 := n0_; have HO112 := n1_; have HO117 := n2_; have HO121 := n3_; have HO125 := n4_; have HB := n5_; clear n0_ n1_ n2_ n3_ n4_ n5_; (try clear hb); (try clear hb2); (try clear hk); (try clear hi); (try clear ho0)) | ((with_reducible refine gate_callee (f := 16) rfl ?_); refine goesL_ (some 55) rfl rfl Tryz.func16 (by kernel_rfl) rfl #[.string t105] rfl (by (try simp only [List.map_toArray, List.map_cons, List.map_nil]); first | done | rfl | (simp only [List.length_drop, List.length_take]; rfl)) ?_; (with_reducible refine (dict_Texts.calls t105 t126 t127 _ ?side1 A12.out).mono ?_); (case side1 => exact LaidD.below HLD.out (by repeat (first | (with_reducible first | exact HB.out | apply below_alloc | apply pw_below_drewN | apply below_drew1) | exact HB.out))); rintro e w33 ⟨v128, rfl, ho0, hb⟩; refine ⟨_, rfl, ?_⟩; have n0_ := Aside0.mk (Kd.R_below (by (with_reducible repeat (first | apply Kd.R_alloc | apply Kd.R_drewN | apply Kd.R_drew)); exact HO104.out) hb); have n1_ := Aside0.mk (Kd.R_below (by (with_reducible repeat (first | apply Kd.R_alloc | apply Kd.R_drewN | apply Kd.R_drew)); exact HO112.out) hb); have n2_ := Aside0.mk (Kd.R_below (by (with_reducible repeat (first | apply Kd.R_alloc | apply Kd.R_drewN | apply Kd.R_drew)); exact HO117.out) hb); have n3_ := Aside0.mk (Kd.R_below (by (with_reducible repeat (first | apply Kd.R_alloc | apply Kd.R_drewN | apply Kd.R_drew)); exact HO121.out) hb); have n4_ := Aside0.mk (Kd.R_below (by (with_reducible repeat (first | apply Kd.R_alloc | apply Kd.R_drewN | apply Kd.R_drew)); exact HO125.out) hb); have n5_ := Aside0.mk (Kd.R_lower ho0 (below_size (by repeat (first | (with_reducible first | exact HB.out | apply below_alloc | apply pw_below_drewN | apply below_drew1) | exact HB.out)))); have n6_ := Aside0.mk (below_step (by repeat (first | (with_reducible first | exact HB.out | apply below_alloc | apply pw_below_drewN | apply below_drew1) | exact HB.out)) hb); clear HO104; clear HO112; clear HO117; clear HO121; clear HO125; clear HB; have HO104 := n0_; have HO112 := n1_; have HO117 := n2_; have HO121 := n3_; have HO125 := n4_; have HO129 := n5_; have HB := n6_; clear n0_ n1_ n2_ n3_ n4_ n5_ n6_; (try clear hb); (try clear hb2); (try clear hk); (try clear hi); (try clear ho0)) | ((with_reducible refine gate_callee (f := 17) rfl ?_); refine goesL_ (some 60) rfl rfl Tryz.func17 (by kernel_rfl) rfl #[.string t105] rfl (by (try simp only [List.map_toArray, List.map_cons, List.map_nil]); first | done | rfl | (simp only [List.length_drop, List.length_take]; rfl)) ?_; (with_reducible refine (postriderref07_Texts.calls k t105 t130 t131 _ A13.out).mono ?_); rintro e w34 ⟨v132, rfl, ho0, hb⟩; refine ⟨_, rfl, ?_⟩; have n0_ := Aside0.mk (Kd.R_below (by (with_reducible repeat (first | apply Kd.R_alloc | apply Kd.R_drewN | apply Kd.R_drew)); exact HO104.out) hb); have n1_ := Aside0.mk (Kd.R_below (by (with_reducible repeat (first | apply Kd.R_alloc | apply Kd.R_drewN | apply Kd.R_drew)); exact HO112.out) hb); have n2_ := Aside0.mk (Kd.R_below (by (with_reducible repeat (first | apply Kd.R_alloc | apply Kd.R_drewN | apply Kd.R_drew)); exact HO117.out) hb); have n3_ := Aside0.mk (Kd.R_below (by (with_reducible repeat (first | apply Kd.R_alloc | apply Kd.R_drewN | apply Kd.R_drew)); exact HO121.out) hb); have n4_ := Aside0.mk (Kd.R_below (by (with_reducible repeat (first | apply Kd.R_alloc | apply Kd.R_drewN | apply Kd.R_drew)); exact HO125.out) hb); have n5_ := Aside0.mk (Kd.R_elder' (by (with_reducible repeat (first | apply Kd.R_alloc | apply Kd.R_drewN | apply Kd.R_drew)); exact HO129.out) (Kd.R_base ho0) hb); have n6_ := Aside0.mk (Kd.R_lower (Kd.R_new' ho0 (Kd.R_lt (by (with_reducible repeat (first | apply Kd.R_alloc | apply Kd.R_drewN | apply Kd.R_drew)); exact HO129.out))) (below_size (by repeat (first | (with_reducible first | exact HB.out | apply below_alloc | apply pw_below_drewN | apply below_drew1) | exact HB.out)))); have n7_ := Aside0.mk (below_step (by repeat (first | (with_reducible first | exact HB.out | apply below_alloc | apply pw_below_drewN | apply below_drew1) | exact HB.out)) hb); clear HO104; clear HO112; clear HO117; clear HO121; clear HO125; clear HO129; clear HB; have HO104 := n0_; have HO112 := n1_; have HO117 := n2_; have HO121 := n3_; have HO125 := n4_; have HO129 := n5_; have HO133 := n6_; have HB := n7_; clear n0_ n1_ n2_ n3_ n4_ n5_ n6_ n7_; (try clear hb); (try clear hb2); (try clear hk); (try clear hi); (try clear ho0); obtain ⟨Ao35, co35, eo35⟩ := Kd.R_slice HO112.out; subst eo35; obtain ⟨Ao36, co36, eo36⟩ := Kd.R_slice HO117.out; subst eo36) | (go_at_call 18; (with_reducible refine (postriderref02_Ints.calls k _ _ t109 _ _ t114 true _ ?side1 ?side2 ?side3 ?side4 A16.out).mono ?_); (case side1 => repeat (first | exact (Kd.R_reads' HO112.out).2.2 | (with_reducible refine Kd.C_alloc ?_ _) | (with_reducible refine Kd.C_drewN ?_ _) | (with_reducible refine Kd.C_drew ?_))); (case side2 => exact (Kd.R_reads' HO112.out).2.1); (case side3 => repeat (first | exact (Kd.R_reads' HO117.out).2.2 | (with_reducible refine Kd.C_alloc ?_ _) | (with_reducible refine Kd.C_drewN ?_ _) | (with_reducible refine Kd.C_drew ?_))); (case side4 => exact (Kd.R_reads' HO117.out).2.1); rintro e w' ⟨rfl, ⟨nd, rfl⟩⟩; obtain ⟨Ao37, co37, eo37⟩ := Kd.R_slice HO121.out; subst eo37; obtain ⟨Ao38, co38, eo38⟩ := Kd.R_slice HO125.out; subst eo38) | (go_at_call 19; (with_reducible refine (postriderref06_Same.calls k _ _ t118 _ _ t122 true _ ?side1 ?side2 ?side3 ?side4 A19.out).mono ?_); (case side1 => repeat (first | exact (Kd.R_reads' HO121.out).2.2 | (with_reducible refine Kd.C_alloc ?_ _) | (with_reducible refine Kd.C_drewN ?_ _) | (with_reducible refine Kd.C_drew ?_))); (case side2 => exact (Kd.R_reads' HO121.out).2.1); (case side3 => repeat (first | exact (Kd.R_reads' HO125.out).2.2 | (with_reducible refine Kd.C_alloc ?_ _) | (with_reducible refine Kd.C_drewN ?_ _) | (with_reducible refine Kd.C_drew ?_))); (case side4 => exact (Kd.R_reads' HO125.out).2.1); rintro e w' ⟨rfl, ⟨nd, rfl⟩⟩; obtain ⟨Ao39, co39, eo39⟩ := Kd.R_slice HO129.out; subst eo39; obtain ⟨Ao40, co40, eo40⟩ := Kd.R_slice HO133.out; subst eo40) | (go_at_call 20; (with_reducible refine (postriderref07_SameTexts.calls k _ _ t126 _ _ t130 true _ ?side1 ?side2 ?side3 ?side4 A22.out).mono ?_); (case side1 => repeat (first | exact (Kd.R_reads' HO129.out).2.2 | (with_reducible refine Kd.C_alloc ?_ _) | (with_reducible refine Kd.C_drewN ?_ _) | (with_reducible refine Kd.C_drew ?_))); (case side2 => exact (Kd.R_reads' HO129.out).2.1); (case side3 => repeat (first | exact (Kd.R_reads' HO133.out).2.2 | (with_reducible refine Kd.C_alloc ?_ _) | (with_reducible refine Kd.C_drewN ?_ _) | (with_reducible refine Kd.C_drew ?_))); (case side4 => exact (Kd.R_reads' HO133.out).2.1); rintro e w' ⟨rfl, ⟨nd, rfl⟩⟩))
                all_goals (first | (go_ret; exact ⟨by first | rfl | (simp [errW_none, errW_some] <;> rfl) | (simp [*, errW_none, errW_some] <;> rfl) | (simp_all; done) | fail, by repeat (first | (with_reducible first | exact HB.out | apply below_alloc | apply pw_below_drewN | apply below_drew1) | exact HB.out)⟩) | (exfalso; simp_all; done) | (exfalso; simp only [isEmpty_eq, isEmpty_ne] at *; simp_all; done) | (exfalso; exact isEmpty_clash (by assumption) (by assumption)) | (exfalso; exact isEmpty_clash' (by assumption) (by assumption)) | (exfalso; exact isEmpty_clash2 (by assumption) (by assumption)))
              · replace c23 := Bool.eq_false_iff.mpr c23
                subst c23
                have H1 : (none) = some r := by rw [if_neg (show ¬ (false = true) by decide)] at H; exact H
                clear H
                have H := H1
                clear H1
                exact absurd H (by simp)
            · rw [if_neg c21] at H
              exact absurd H (by simp)
          · replace c20 := Bool.eq_false_iff.mpr c20
            subst c20
            have H1 : (none) = some r := by rw [if_neg (show ¬ (false = true) by decide)] at H; exact H
            clear H
            have H := H1
            clear H1
            exact absurd H (by simp)
        · rw [if_neg c18] at H
          exact absurd H (by simp)
      · replace c17 := Bool.eq_false_iff.mpr c17
        subst c17
        have H1 : (none) = some r := by rw [if_neg (show ¬ (false = true) by decide)] at H; exact H
        clear H
        have H := H1
        clear H1
        exact absurd H (by simp)
    · rw [if_neg c15] at H
      exact absurd H (by simp)
  · replace c14 := Bool.eq_false_iff.mpr c14
    subst c14
    have H1 : (none) = some r := by rw [if_neg (show ¬ (false = true) by decide)] at H; exact H
    clear H
    have H := H1
    clear H1
    exact absurd H (by simp)
end Go.Proofs.YtbjbicaffblchaaGreatDoor.SLDictBuilds
end
section
namespace Go.Proofs.YtbjbicaffblchaaGreatDoor.Hand
open Go.RowKit Go.Proofs.YtbjbicaffblchaaGreatDoorW Go.Proofs.YtbjbicaffblchaaGreatDoorW.PrintWords Go.Proofs.YtbjbicaffblchaaGreatDoor.SA Go.Proofs.YtbjbicaffblchaaGreatDoor.SK Go.Proofs.YtbjbicaffblchaaGreatDoor.SS Go.Proofs.YtbjbicaffblchaaGreatDoor.SR Go.Proofs.YtbjbicaffblchaaGreatDoor.SLDictBuilds
def nameR (s : ByteArray) (a b : Int) : Nm := if s.toList = [] then (if a = 0 then zeroNm else ⟨2, ⟨#[]⟩, ⟨#[]⟩, a, b⟩) else eidNm (joinT (atT s a) (atT s b))
def namesR (s : ByteArray) : Nat → List Int → List Nm
  | n + 1, a :: b :: r => nameR s a b :: namesR s n r
  | _, _ => []
def endR (s : ByteArray) (p : List Int) (l : List Nm) : List Nm × Int := if buildT l = (s, p, 0) then (l, 0) else ([], 70)
theorem right_small {n : Int} {a1 a2 : ByteArray} {a3 a4 : Int} (h : rightS n a1 a2 a3 a4 = true) : a1.size ≤ 1000 ∧ a2.size ≤ 1000 := by
  rcases right_num h with rfl | rfl | rfl
  · obtain ⟨rfl, rfl, _⟩ := right_none2 h
    exact ⟨Nat.zero_le _, Nat.zero_le _⟩
  · obtain ⟨_, h1, h2, _⟩ := right_dtn h
    have := partS_size h1
    have := partS_size h2
    omega
  · obtain ⟨h1, h2, _⟩ := right_ipn h
    obtain rfl := nil_of_toList h1
    obtain rfl := nil_of_toList h2
    exact ⟨Nat.zero_le _, Nat.zero_le _⟩
theorem nameR_small (s : ByteArray) (a b : Int) : (nameR s a b).f1.size ≤ 1000 ∧ (nameR s a b).f2.size ≤ 1000 := by
  unfold nameR
  split
  · split <;> exact ⟨Nat.zero_le _, Nat.zero_le _⟩
  · unfold joinT
    cases hj : joinS (atT s a) (atT s b) with
    | none => exact ⟨Nat.zero_le _, Nat.zero_le _⟩
    | some x => exact right_small (join_right hj).1
theorem read_end (k : Nat) (s : ByteArray) (p : List Int) (l : List Nm) (i : Int) (_ : p.length ≤ 63) (hl : ∀ x ∈ l, x.f1.size ≤ 1000 ∧ x.f2.size ≤ 1000) (hll : l.length ≤ 30) (hk : 1002000 < k) :
    postriderref07_Read.j1 (k + 1) s p l i false = some (endR s p l) := by
  simp only [postriderref07_Read.j1]
  rw [if_neg (by simp), Build_ref l k hl (by omega)]
  simp only [Option.bind_some]
  unfold endR
  obtain ⟨d, q, e, hb⟩ : ∃ d q e, buildT l = (d, q, e) := ⟨_, _, _, rfl⟩
  rw [hb]
  dsimp only
  by_cases he : e = 0
  · rw [if_pos he]
    by_cases hd : d.toList = s.toList
    · rw [if_pos hd]
      have hq : q.length ≤ 100 := by
        rcases built_of hb with ⟨_, hB⟩ | ⟨_, _, rfl⟩
        · have := hB.small.2; omega
        · simp
      rw [ints_is q p k (by omega) (by omega)]
      simp only [Option.bind_some]
      by_cases h : q = p
      · rw [decide_eq_true h, if_pos rfl, if_pos]
        rw [ba_ext hd, h, he]
      · rw [decide_eq_false h, if_neg (by simp), if_neg]
        intro h2
        simp only [Prod.mk.injEq] at h2
        exact h h2.2.1
    · rw [if_neg hd, if_neg]
      intro h2
      simp only [Prod.mk.injEq] at h2
      exact hd (by rw [h2.1])
  · rw [if_neg he, if_neg]
    intro h2
    simp only [Prod.mk.injEq] at h2
    exact he h2.2.2
theorem rd_drop (p : List Int) (i : Nat) (a : Int) (r : List Int) (h : p.drop i = a :: r) : rd p (i : Int) = a ∧ i < p.length := by
  have hi : i < p.length := by
    rcases Nat.lt_or_ge i p.length with h1 | h1
    · exact h1
    · rw [List.drop_eq_nil_of_le h1] at h; cases h
  have := (List.drop_eq_getElem_cons hi).symm.trans h
  have h2 := (List.cons.inj this).1
  unfold rd
  rw [Int.toNat_natCast, List.getD_eq_getElem?_getD, List.getElem?_eq_getElem hi, h2]
  exact ⟨rfl, hi⟩
theorem Read_from (s : ByteArray) (p : List Int) (hs : s.size ≤ 900) (hp : p.length ≤ 63) : ∀ (n k i : Nat) (acc : List Nm), i + n = 30 → acc.length = i → (∀ x ∈ acc, x.f1.size ≤ 1000 ∧ x.f2.size ≤ 1000) → 1003000 + 2 * n < k →
    postriderref07_Read.l0 k s p acc ((2 * i : Nat) : Int) = some (endR s p (acc ++ namesR s n (p.drop (2 * i)))) := by
  have stop : ∀ (k i : Nat) (acc : List Nm), acc.length = i → i ≤ 30 → (∀ x ∈ acc, x.f1.size ≤ 1000 ∧ x.f2.size ≤ 1000) → 1003000 < k → (p.length ≤ 2 * i + 1 ∨ i = 30) → postriderref07_Read.l0 k s p acc ((2 * i : Nat) : Int) = some (endR s p acc) := by
    intro k i acc hi hi2 ha hk h
    obtain ⟨k, rfl⟩ : ∃ m, k = m + 1 + 1 := ⟨k - 2, by omega⟩
    have e := read_end k s p acc ((2 * i : Nat) : Int) hp ha (by omega) (by omega)
    rw [postriderref07_Read.l0, wrap_up (2 * i) (by omega)]
    by_cases h1 : ((2 * i + 1 : Nat) : Int) < (p.length : Int)
    · rw [if_pos h1, decide_eq_false (by omega)]
      exact e
    · rw [if_neg h1]
      exact e
  intro n
  induction n with
  | zero =>
    intro k i acc hn hi ha hk
    rw [stop k i acc hi (by omega) ha (by omega) (.inr (by omega))]
    rw [show namesR s 0 (p.drop (2 * i)) = [] from by cases p.drop (2 * i) <;> rfl, List.append_nil]
  | succ n ih =>
    intro k i acc hn hi ha hk
    match hd : p.drop (2 * i) with
    | [] =>
      have := congrArg List.length hd
      rw [List.length_drop, List.length_nil] at this
      rw [stop k i acc hi (by omega) ha (by omega) (.inl (by omega)), show namesR s (n + 1) [] = [] from rfl, List.append_nil]
    | [a] =>
      have := congrArg List.length hd
      rw [List.length_drop, List.length_cons, List.length_nil] at this
      rw [stop k i acc hi (by omega) ha (by omega) (.inl (by omega)), show namesR s (n + 1) [a] = [] from rfl, List.append_nil]
    | a :: b :: r =>
      obtain ⟨k, rfl⟩ : ∃ m, k = m + 1 + 1 := ⟨k - 2, by omega⟩
      have hd1 : p.drop (2 * i + 1) = b :: r := by rw [← List.drop_drop, hd]; rfl
      have hd2 : p.drop (2 * (i + 1)) = r := by rw [show 2 * (i + 1) = 2 * i + 2 by omega, ← List.drop_drop, hd]; rfl
      obtain ⟨ra, la⟩ := rd_drop p (2 * i) a _ hd
      obtain ⟨rb, lb⟩ := rd_drop p (2 * i + 1) b _ hd1
      have hw2 : wrap64 (((2 * i : Nat) : Int) + 2) = ((2 * (i + 1) : Nat) : Int) := by unfold wrap64; omega
      have fin := ih k (i + 1) (acc ++ [nameR s a b]) (by omega) (by simp [hi]) (fun x hx => by
        rcases List.mem_append.1 hx with hx | hx
        · exact ha x hx
        · rw [List.mem_singleton.1 hx]; exact nameR_small s a b) (by omega)
      rw [hd2, List.append_assoc, List.singleton_append] at fin
      rw [postriderref07_Read.l0, wrap_up (2 * i) (by omega), if_pos (by omega), decide_eq_true (by omega)]
      show postriderref07_Read.j1 (k + 1) s p acc _ true = some (endR s p (acc ++ (nameR s a b :: namesR s n r)))
      rw [postriderref07_Read.j1, if_pos rfl, ra, wrap_up (2 * i) (by omega), rb, hw2]
      by_cases hs0 : s.toList = []
      · have en : nameR s a b = if a = 0 then zeroNm else ⟨2, ⟨#[]⟩, ⟨#[]⟩, a, b⟩ := by unfold nameR; rw [if_pos hs0]
        rw [if_pos hs0, if_pos (by omega), if_pos (by omega)]
        by_cases ha0 : a = 0
        · rw [if_pos ha0, if_pos (by omega)]
          rw [if_pos ha0] at en
          rw [en] at fin ⊢
          exact fin
        · rw [if_neg ha0, if_pos (by omega), if_pos (by omega), if_pos (by omega)]
          rw [if_neg ha0] at en
          rw [en] at fin ⊢
          exact fin
      · have en : nameR s a b = eidNm (joinT (atT s a) (atT s b)) := by unfold nameR; rw [if_neg hs0]
        have hat := atT_size s b
        rw [if_neg hs0, if_pos (by omega), if_pos (by omega), textAt_ref k s a (by omega) (by omega)]
        simp only [Option.bind_some]
        rw [if_pos (by omega), if_pos (by omega), textAt_ref k s b (by omega) (by omega)]
        simp only [Option.bind_some]
        rw [Join_ref k _ _ (by omega) (by omega)]
        simp only [Option.bind_some]
        rw [if_pos (by omega)]
        rw [en] at fin ⊢
        exact fin
theorem namesR_map (s : ByteArray) (f g : Nm → Int) : ∀ (n : Nat) (l : List Nm), l.length ≤ n → (∀ x ∈ l, nameR s (f x) (g x) = x) → namesR s n (l.flatMap fun x => [f x, g x]) = l
  | n, [], _, _ => by cases n <;> rfl
  | 0, x :: l, h, _ => by simp at h
  | n + 1, x :: l, h, hx => by
    rw [List.flatMap_cons]
    show nameR s (f x) (g x) :: namesR s n (l.flatMap fun x => [f x, g x]) = x :: l
    rw [hx x List.mem_cons_self, namesR_map s f g n l (by simp at h; omega) (fun y hy => hx y (List.mem_cons_of_mem _ hy))]
theorem Built.namesR {l : List Nm} {s : ByteArray} {p : List Int} (h : Built l s p) : namesR s 30 p = l := by
  cases hd : l.any Nm.dtn with
  | false =>
    obtain ⟨rfl, rfl⟩ := h.plain hd
    refine namesR_map _ (fun x => x.f3) (fun x => x.f4) 30 l h.many fun x hx => ?_
    have hr : rightS x.f0 x.f1 x.f2 x.f3 x.f4 = true := h.right x hx
    have hn : ¬ x.f0 = 1 := by
      have := (List.any_eq_false.1 hd) x hx
      simpa [Nm.dtn] using this
    obtain ⟨n, a1, a2, a3, a4⟩ := x
    dsimp only at hr hn ⊢
    unfold nameR
    rw [if_pos (by rw [ByteArray.toList_eq])]
    rcases right_num hr with rfl | rfl | rfl
    · obtain ⟨rfl, rfl, rfl, rfl⟩ := right_none2 hr
      rw [if_pos rfl]
      rfl
    · exact absurd rfl hn
    · obtain ⟨h1, h2, h3, _⟩ := right_ipn hr
      obtain rfl := nil_of_toList h1
      obtain rfl := nil_of_toList h2
      rw [if_neg (by omega)]
  | true =>
    obtain ⟨q1, q2, q3⟩ := h.full hd
    rw [q1]
    refine namesR_map _ (fun x => ((placeL (builtS l).1 x.w : Nat) : Int)) (fun x => ((placeL (builtS l).1 x.r : Nat) : Int)) 30 l h.many fun x hx => ?_
    have hr := h.right x hx
    have hr' : rightS x.f0 x.f1 x.f2 x.f3 x.f4 = true := hr
    unfold nameR
    rw [if_neg q3, atT_flat h.bytes h.zero (q2 x hx).1, atT_flat h.bytes h.zero (q2 x hx).2, txt_data, txt_data, Nm.word_is hr, Nm.rest_is hr, joinT_of hr']
    rfl
theorem Read_ref (k : Nat) (s : ByteArray) (p : List Int) (hs : s.size ≤ 900) (hp : p.length ≤ 63) (hk : 1004000 < k) : postriderref07_Read.f k s p = some (readT s p) := by
  unfold postriderref07_Read.f
  have := Read_from s p hs hp 30 k 0 [] (by omega) rfl (fun x hx => by cases hx) (by omega)
  rw [List.nil_append] at this
  refine this.trans ?_
  congr 1
  rw [Nat.mul_zero, List.drop_zero]
  unfold endR
  rcases read_cases s p with ⟨l, h1, _, h3⟩ | h1
  · rcases built_of h3 with ⟨_, hB⟩ | ⟨h, _⟩
    · rw [hB.namesR, if_pos h3, h1]
    · exact absurd rfl h
  · rw [h1]
    by_cases h : buildT (namesR s 30 p) = (s, p, 0)
    · rcases built_of h with ⟨_, hB⟩ | ⟨h, _⟩
      · have := hB.read.symm.trans h1
        simp at this
      · exact absurd rfl h
    · rw [if_neg h]
theorem dictBuilds_any (k : Nat) (hk : 2000000 ≤ k) (l0 : List Nm) (a1 : ByteArray) (l2 : List Int) : postriderlaw07_DictBuilds.f k l0 a1 l2 = some true := by
  obtain ⟨l, hl, hl1, hl2⟩ := few_is l0 k (by omega)
  obtain ⟨c, hc, hc1⟩ := cut7_is a1
  have hf : few7V.f l2 = some (l2.take 63) := rfl
  have hf1 : (l2.take 63).length ≤ 63 := by rw [List.length_take]; omega
  unfold postriderlaw07_DictBuilds.f
  rw [shown_true k (by omega), hl, hc, hf]
  simp only [Option.bind_some]
  rw [Build_is hl2, Build_ref l k (fun x hx => ⟨Nat.le_trans (hl2 x hx).1 (by decide), Nat.le_trans (hl2 x hx).2 (by decide)⟩) (by omega), Read_is c _ (by omega), Read_ref k c _ hc1 hf1 (by omega), Texts_is c (by omega), Texts_ref k c (by omega) (by omega)]
  simp only [Option.bind_some, if_true]
  have n1 : (buildT l).2.1.length ≤ 100 := by
    obtain ⟨d, q, e, hb⟩ : ∃ d q e, buildT l = (d, q, e) := ⟨_, _, _, rfl⟩
    rw [hb]
    rcases built_of hb with ⟨_, hB⟩ | ⟨_, _, rfl⟩
    · have := hB.small.2
      have := hB.many
      show q.length ≤ 100
      omega
    · simp
  have n2 : (readT c (l2.take 63)).1.length ≤ 100 := by
    rcases read_cases c (l2.take 63) with ⟨d, h1, _, h3⟩ | h1
    · rw [h1]
      rcases built_of h3 with ⟨_, hB⟩ | ⟨h, _⟩
      · have := hB.many
        show d.length ≤ 100
        omega
      · exact absurd rfl h
    · rw [h1]
      simp
  have n3 : (textsT c).1.length ≤ 1000 := by
    unfold textsT
    split
    · simp
    · have : ∀ (n a : Nat) (r : List UInt8), (itemsF n a r).length ≤ n := by
        intro n
        induction n with
        | zero => intro a r; simp [itemsF]
        | succ n ih => intro a r; rw [itemsF]; split <;> simp [ih]
      have h2 : c.data.toList.length = c.size := Array.length_toList ..
      have := this (c.data.toList.length + 1) 0 c.data.toList
      show ((items c.data.toList).map (·.2)).length ≤ 1000
      rw [List.length_map]
      unfold items
      omega
  rw [ints_is _ _ k (by omega) (by omega)]
  simp only [Option.bind_some, decide_true, if_true]
  rw [same_is _ _ k (by omega) (by omega)]
  simp only [Option.bind_some, decide_true, if_true]
  rw [sameTexts_is _ _ k (by omega) (by omega)]
  simp
theorem dictBuilds_true (l0 : List Nm) (a1 : ByteArray) (l2 : List Int) : postriderlaw07_DictBuilds.f 2000000 l0 a1 l2 = some true := dictBuilds_any 2000000 (Nat.le_refl _) l0 a1 l2
end Go.Proofs.YtbjbicaffblchaaGreatDoor.Hand
end

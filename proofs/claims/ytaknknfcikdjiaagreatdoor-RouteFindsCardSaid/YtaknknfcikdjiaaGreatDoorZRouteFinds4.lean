import Derived.Test.YtaknknfcikdjiaaGreatDoorZRouteFinds3
import Derived.ArgAppend
import Derived.Below
import Derived.BigQuiet
import Derived.Deep.AppendLies
import Derived.Deep.CutBlock
import Derived.Deep.DeepCutAuto
import Derived.Deep.Draws
import Derived.Deep.LoopGhost
import Derived.Deep.OwnRows
import Derived.Deep.QuietTactic
import Derived.Deep.RegionHeld3
import Derived.KernelRfl
import Derived.Laws.BitsLemmas
import Derived.Laws.BytesArg
import Derived.Laws.IdiomCopy
import Derived.Laws.MakeOwn
import Derived.Laws.OwnMore
import Derived.Laws.Rows
import Derived.Laws.Slices
import Derived.Lib.AppendStr
import Derived.Lib.ConvBytes
import Derived.Maps.AppendAt
import Derived.OrdersHeld
import Derived.OwnWalk
import Derived.RowKit
import Derived.RowKit3
import Derived.Tactics
import Derived.Test.YtaknknfcikdjiaaGreatDoorProg
import Derived.WalkKit
import Derived.WideLaws
section
namespace Go.Proofs.YtaknknfcikdjiaaGreatDoor.RR
open Go.Proofs.YtaknknfcikdjiaaGreatDoor.Hand
open Go.Proofs.YtaknknfcikdjiaaGreatDoor.SA
open Go.Proofs.YtaknknfcikdjiaaGreatDoor.RK
open Go.RowKit Go.Proofs.YtaknknfcikdjiaaGreatDoorW.PrintWords Go.Proofs.YtaknknfcikdjiaaGreatDoorW.PrintLast Go.Proofs.YtaknknfcikdjiaaGreatDoorW.PrintMore
attribute [local go_sem] max2_int min2_int max_two min_two max_three min_three max_four min_four
set_option linter.unusedVariables false
set_option linter.unusedSimpArgs false
mutual
def postriderref16_Pass.l0 : Nat → Int → Int → Bool → List (S37) → Bool → Int → Int → Int → List ByteArray → Bool → Option (Int)
  | 0, _, _, _, _, _, _, _, _, _, _ => none
  | k + 1, x1, x2, x3, x4, x11, x12, x136000, x136001, x136002, x136003 => if x12 < (x4.length : Int) then (if 0 ≤ x12 then ((postriderref06_Print.f k ((rd_T37 x4 x12).f0) ((rd_T37 x4 x12).f1) ((rd_T37 x4 x12).f2) ((rd_T37 x4 x12).f3) ((rd_T37 x4 x12).f4)).bind fun bt138 => (if bt138.2 = 0 then (postriderref16_Pass.l1 k x1 x2 x3 x4 x11 x12 bt138.1 0 x136000 x136001 x136002 x136003) else (some bt138.2))) else (none)) else (if x11 = true then (some 161) else (if x1 > x136000 then (some 162) else (if x2 > x136001 then (some 163) else (if x3 = true then (if x136003 = true then (some 0) else (some 164)) else (some 0)))))
def postriderref16_Pass.l1 : Nat → Int → Int → Bool → List (S37) → Bool → Int → ByteArray → Int → Int → Int → List ByteArray → Bool → Option (Int)
  | 0, _, _, _, _, _, _, _, _, _, _, _, _ => none
  | k + 1, x1, x2, x3, x4, x11, x12, x13, x15, x136000, x136001, x136002, x136003 => if x15 < (x136002.length : Int) then (if x11 = true then (postriderref16_Pass.l1 k x1 x2 x3 x4 true x12 x13 (wrap64 (x15 + 1)) x136000 x136001 x136002 x136003) else (if 0 ≤ x15 then ((postriderref16_begins.f (rdOf ByteArray.empty x136002 x15) x13).bind fun t141 => (postriderref16_Pass.l1 k x1 x2 x3 x4 t141 x12 x13 (wrap64 (x15 + 1)) x136000 x136001 x136002 x136003)) else (none))) else (postriderref16_Pass.l0 k x1 x2 x3 x4 x11 (wrap64 (x12 + 1)) x136000 x136001 x136002 x136003)
end
def postriderref16_Pass.f (k : Nat) (a0_0 : Int) (a0_1 : Int) (l0_2 : List ByteArray) (a0_3 : Bool) (a1 : Int) (a2 : Int) (a3 : Bool) (l4 : List (S37)) : Option (Int) := (postriderref16_RightPolicy.f k a0_0 a0_1 l0_2 a0_3).bind fun t136 => (if t136 = true then (postriderref16_Pass.l0 k a1 a2 a3 l4 false 0 a0_0 a0_1 l0_2 a0_3) else (some 160))
theorem postriderref16_Pass.mono_l : ∀ k, (∀ y0 y1 y2 y3 y4 y5 y6 y7 y8 y9, LeO (postriderref16_Pass.l0 k y0 y1 y2 y3 y4 y5 y6 y7 y8 y9) (postriderref16_Pass.l0 (k + 1) y0 y1 y2 y3 y4 y5 y6 y7 y8 y9)) ∧ (∀ y0 y1 y2 y3 y4 y5 y6 y7 y8 y9 y10 y11, LeO (postriderref16_Pass.l1 k y0 y1 y2 y3 y4 y5 y6 y7 y8 y9 y10 y11) (postriderref16_Pass.l1 (k + 1) y0 y1 y2 y3 y4 y5 y6 y7 y8 y9 y10 y11))
  | 0 => ⟨fun _ _ _ _ _ _ _ _ _ _ r h => by simp [postriderref16_Pass.l0] at h, fun _ _ _ _ _ _ _ _ _ _ _ _ r h => by simp [postriderref16_Pass.l1] at h⟩
  | k + 1 => by
    obtain ⟨ih0, ih1⟩ := postriderref16_Pass.mono_l k
    refine ⟨?_, ?_⟩
    · intro y0 y1 y2 y3 y4 y5 y6 y7 y8 y9
      unfold postriderref16_Pass.l0
      repeat' first
      | (with_reducible exact ih0 _ _ _ _ _ _ _ _ _ _)
      | (with_reducible exact ih1 _ _ _ _ _ _ _ _ _ _ _ _)
      | (with_reducible exact postriderref06_Print.mono _ _ _ _ _ _)
      | (with_reducible exact postriderref16_RightPolicy.mono _ _ _ _ _)
      | (with_reducible exact LeO.refl _)
      | (with_reducible exact LeO.none _)
      | (with_reducible refine LeO.ite ?_ ?_)
      | (with_reducible refine LeO.bind ?_ (fun _ => ?_))
      | exact ih0 _ _ _ _ _ _ _ _ _ _
      | exact ih1 _ _ _ _ _ _ _ _ _ _ _ _
      | exact postriderref06_Print.mono _ _ _ _ _ _
      | exact postriderref16_RightPolicy.mono _ _ _ _ _
      | exact LeO.none _
      | refine LeO.ite ?_ ?_
      | refine LeO.bind ?_ (fun _ => ?_)
    · intro y0 y1 y2 y3 y4 y5 y6 y7 y8 y9 y10 y11
      unfold postriderref16_Pass.l1
      repeat' first
      | (with_reducible exact ih0 _ _ _ _ _ _ _ _ _ _)
      | (with_reducible exact ih1 _ _ _ _ _ _ _ _ _ _ _ _)
      | (with_reducible exact postriderref06_Print.mono _ _ _ _ _ _)
      | (with_reducible exact postriderref16_RightPolicy.mono _ _ _ _ _)
      | (with_reducible exact LeO.refl _)
      | (with_reducible exact LeO.none _)
      | (with_reducible refine LeO.ite ?_ ?_)
      | (with_reducible refine LeO.bind ?_ (fun _ => ?_))
      | exact ih0 _ _ _ _ _ _ _ _ _ _
      | exact ih1 _ _ _ _ _ _ _ _ _ _ _ _
      | exact postriderref06_Print.mono _ _ _ _ _ _
      | exact postriderref16_RightPolicy.mono _ _ _ _ _
      | exact LeO.none _
      | refine LeO.ite ?_ ?_
      | refine LeO.bind ?_ (fun _ => ?_)
theorem postriderref16_Pass.mono : ∀ a0 a1 a2 a3 a4 a5 a6 a7 k, LeO (postriderref16_Pass.f k a0 a1 a2 a3 a4 a5 a6 a7) (postriderref16_Pass.f (k + 1) a0 a1 a2 a3 a4 a5 a6 a7) := by
  intro a0 a1 a2 a3 a4 a5 a6 a7 k
  obtain ⟨ih0, ih1⟩ := postriderref16_Pass.mono_l k
  unfold postriderref16_Pass.f
  repeat' first
      | (with_reducible exact ih0 _ _ _ _ _ _ _ _ _ _)
      | (with_reducible exact ih1 _ _ _ _ _ _ _ _ _ _ _ _)
      | (with_reducible exact postriderref06_Print.mono _ _ _ _ _ _)
      | (with_reducible exact postriderref16_RightPolicy.mono _ _ _ _ _)
      | (with_reducible exact LeO.refl _)
      | (with_reducible exact LeO.none _)
      | (with_reducible refine LeO.ite ?_ ?_)
      | (with_reducible refine LeO.bind ?_ (fun _ => ?_))
      | exact ih0 _ _ _ _ _ _ _ _ _ _
      | exact ih1 _ _ _ _ _ _ _ _ _ _ _ _
      | exact postriderref06_Print.mono _ _ _ _ _ _
      | exact postriderref16_RightPolicy.mono _ _ _ _ _
      | exact LeO.none _
      | refine LeO.ite ?_ ?_
      | refine LeO.bind ?_ (fun _ => ?_)
set_option maxHeartbeats 8000000 in
set_option maxRecDepth 100000 in
theorem postriderref16_Pass.calls (k : Nat) (a0_0 : Int) (a0_1 : Int) (A0_2 : Option Addr) (c0_2 : Nat) (l0_2 : List ByteArray) (a0_3 : Bool) (a1 : Int) (a2 : Int) (a3 : Bool) (A4 : Option Addr) (c4 : Nat) (l4 : List (S37)) (r : Int) (w : World) (hr0_2 : Kd.C Kd.string w A0_2 l0_2.length l0_2) (hc0_2 : l0_2.length ≤ c0_2) (hr4 : Kd.C k37 w A4 l4.length l4) (hc4 : l4.length ≤ c4) (h : postriderref16_Pass.f k a0_0 a0_1 l0_2 a0_3 a1 a2 a3 l4 = some r) :
    Calls Tryz.prog 16 #[.agg #[.int .i64 a0_0, .int .i64 a0_1, .slice A0_2 l0_2.length c0_2, .bool a0_3], .int .i64 a1, .int .i64 a2, .bool a3, .slice A4 l4.length c4] w fun e w' => e = .returned (.int .i64 r) ∧ Below w.heap.size w w' := by
  have hu24 := Tryz.underlying24
  have hu37 := Tryz.underlying37
  have HR0_2 := Aside0.mk hr0_2
  have HC0_2 := Aside0.mk hc0_2
  clear hr0_2 hc0_2
  have HR4 := Aside0.mk hr4
  have HC4 := Aside0.mk hc4
  clear hr4 hc4
  have HB := Aside0.mk (Below.refl w.heap.size w)
  have H : ((postriderref16_RightPolicy.f k a0_0 a0_1 l0_2 a0_3).bind fun t136 => (if t136 = true then (postriderref16_Pass.l0 k a1 a2 a3 l4 false 0 a0_0 a0_1 l0_2 a0_3) else (some 160))) = some r := h
  clear h
  replace H := Option.bind_eq_some_iff.mp H
  obtain ⟨t136, A60, H⟩ := H
  replace H : (if t136 = true then (postriderref16_Pass.l0 k a1 a2 a3 l4 false 0 a0_0 a0_1 l0_2 a0_3) else (some 160)) = some r := H
  have A6 := Aside0.mk A60
  clear A60
  by_cases c7 : t136 = true
  · subst c7
    have H1 : (postriderref16_Pass.l0 k a1 a2 a3 l4 false 0 a0_0 a0_1 l0_2 a0_3) = some r := by rw [if_pos rfl] at H; exact H
    clear H
    have H := H1
    clear H1
    have H' := Aside0.mk H
    clear H
    go_enter Tryz.func16, Tryz.ntmps16
    go_wp2_with (first | ((with_reducible refine gate_dst (N := 5) rfl ?_); refine box_event ?hg (N := 5) ?hd (cs := #[.int .i64 a0_0, .int .i64 a0_1, .slice A0_2 l0_2.length c0_2, .bool a0_3]) (t := 24) ?hr ?_; (case hd => rfl); (case hg => rfl); (case hr => first | (go_simp; done) | (go_simp; rfl) | (go_simp; simp only [isEmpty_ne, isEmpty_eq]; done) | (go_simp; simp only [isEmpty_ne, isEmpty_eq]; rfl)); intro gb135 hg w8 hbox hb; have n0_ := Aside0.mk (below_step (by repeat (first | (with_reducible first | exact HB.out | apply below_alloc | apply pw_below_drewN | apply below_drew1) | exact HB.out)) hb); have n1_ := Aside0.mk (hbox); have n2_ := Aside0.mk ((by rw [hg]; exact (below_size (by repeat (first | (with_reducible first | exact HB.out | apply below_alloc | apply pw_below_drewN | apply below_drew1) | exact HB.out))) : w.heap.size ≤ gb135)); have n3_ := Aside0.mk ((by rw [hg]; exact (below_size (by repeat (first | (with_reducible first | exact HB.out | apply below_alloc | apply pw_below_drewN | apply below_drew1) | exact HB.out))) : w.heap.size ≤ gb135)); clear HB; have HB := n0_; have BK135 := n1_; have GW135 := n2_; have GE135 := n3_; clear n0_ n1_ n2_ n3_; clear hb hbox hg; have hcz9_0 : w8.cell? ⟨gb135, 0, none⟩ = some (.int .i64 a0_0) := (blk_cell BK135.out 0).trans rfl; have hcz9_1 : w8.cell? ⟨gb135, 1, none⟩ = some (.int .i64 a0_1) := (blk_cell BK135.out 1).trans rfl; have hcz9_2 : w8.cell? ⟨gb135, 2, none⟩ = some (.slice A0_2 l0_2.length c0_2) := (blk_cell BK135.out 2).trans rfl; have hcz9_3 : w8.cell? ⟨gb135, 3, none⟩ = some (.bool a0_3) := (blk_cell BK135.out 3).trans rfl; have hfz9_0 := blk_frozen BK135.out 0; have hfz9_1 := blk_frozen BK135.out 1; have hfz9_2 := blk_frozen BK135.out 2; have hfz9_3 := blk_frozen BK135.out 3) | ((with_reducible refine gate_callee (f := 14) rfl ?_); refine goesL_ (some 17) rfl rfl Tryz.func14 (by kernel_rfl) rfl #[.agg #[.int .i64 a0_0, .int .i64 a0_1, .slice A0_2 l0_2.length c0_2, .bool a0_3]] rfl (by (try simp only [List.map_toArray, List.map_cons, List.map_nil]); first | done | rfl | (simp only [List.length_drop, List.length_take]; rfl)) ?_; (with_reducible refine (postriderref16_RightPolicy.calls k a0_0 a0_1 _ _ l0_2 a0_3 true _ ?side1 ?side2 A6.out).mono ?_); (case side1 => repeat (first | exact (Kd.C_below HR0_2.out HB.out) | (with_reducible refine Kd.C_alloc ?_ _) | (with_reducible refine Kd.C_drewN ?_ _) | (with_reducible refine Kd.C_drew ?_))); (case side2 => exact HC0_2.out); rintro e w10 ⟨rfl, hb⟩; refine ⟨_, rfl, ?_⟩; have n0_ := Aside0.mk (blk_below (g := gb135) (o := .cells #[.int .i64 a0_0, .int .i64 a0_1, .slice A0_2 l0_2.length c0_2, .bool a0_3] 24 (0, 0)) (by (with_reducible repeat (first | refine blk_drewN ?_ _ | refine blk_drew ?_ | refine blk_alloc ?_ _)); exact BK135.out) hb); have n1_ := Aside0.mk (below_step (by repeat (first | (with_reducible first | exact HB.out | apply below_alloc | apply pw_below_drewN | apply below_drew1 | refine below_set ?_ GE135.out) | exact HB.out)) hb); clear BK135; clear HB; have BK135 := n0_; have HB := n1_; clear n0_ n1_; (try clear hb); (try clear hb2); (try clear hk); (try clear hi)))
    go_loopg [11, 12] k (fun kq v11 v12 w' => ∃ (x11_1 : Bool) (x12_1 : Int), v11 = .bool x11_1 ∧ v12 = .int .i64 x12_1 ∧ Aside0 (postriderref16_Pass.l0 kq a1 a2 a3 l4 x11_1 x12_1 a0_0 a0_1 l0_2 a0_3 = some r) ∧ Aside0 (kq ≤ k) ∧ Aside0 (w'.heap[gb135]? = some (.cells #[.int .i64 a0_0, .int .i64 a0_1, (.slice A0_2 l0_2.length c0_2), .bool a0_3] 24 (0, 0))) ∧ Aside0 (Below w.heap.size w w'))
    case atStart => exact ⟨(false), (0), (by first | rfl | (simp; done) | (simp [*]; done)), (by first | rfl | (simp; done) | (simp [*]; done)), H', ⟨Nat.le_refl _⟩, ⟨by (with_reducible repeat (first | refine blk_drewN ?_ _ | refine blk_drew ?_ | refine blk_alloc ?_ _)); exact BK135.out⟩, ⟨by repeat (first | (with_reducible first | exact HB.out | apply below_alloc | apply pw_below_drewN | apply below_drew1 | refine below_set ?_ GE135.out) | exact HB.out)⟩⟩
    case round =>
      clear H'
      try clear c1
      try clear p2
      try clear c4
      try clear c7
      try clear hcz9_0
      try clear hcz9_1
      try clear hcz9_2
      try clear hcz9_3
      try clear hfz9_0
      try clear hfz9_1
      try clear hfz9_2
      try clear hfz9_3
      obtain ⟨x11_1, x12_1, rfl, rfl, HA, HK1, BK135, HB⟩ := hrel
      cases gk with
      | zero => exact absurd HA.out (by simp [postriderref16_Pass.l0])
      | succ k1 =>
        have H := HA.out
        clear HA
        simp only [postriderref16_Pass.l0] at H
        by_cases c11 : x12_1 < (l4.length : Int)
        · rw [if_pos c11] at H
          have c11b0 : decide (x12_1 < (l4.length : Int)) = true := decide_eq_true c11
          clear c11
          by_cases c12 : 0 ≤ x12_1
          · rw [if_pos c12] at H
            have c12b0 : decide (0 ≤ x12_1) = true := decide_eq_true c12
            clear c12
            replace H := Option.bind_eq_some_iff.mp H
            obtain ⟨⟨t138, t139⟩, A130, H⟩ := H
            replace H : (if t139 = 0 then (postriderref16_Pass.l1 k1 a1 a2 a3 l4 x11_1 x12_1 t138 0 a0_0 a0_1 l0_2 a0_3) else (some t139)) = some r := H
            have A13 := Aside0.mk A130
            clear A130
            by_cases c14 : t139 = 0
            · rw [if_pos c14] at H
              have c14b0 : (t139 == 0) = true := beq_iff_eq.mpr c14
              have c14b1 : (t139 != 0) = false := bne_eq_false_iff_eq.mpr c14
              clear c14
              have H' := Aside0.mk H
              clear H
              have p137 : 0 ≤ (x12_1 : Int) := of_decide_eq_true (by first | (with_reducible assumption) | assumption)
              have q137 : x12_1 < (l4.length : Int) := of_decide_eq_true (by first | (with_reducible assumption) | assumption)
              obtain ⟨ad137, e137, hx137_0, hx137_1, hx137_2, hx137_3, hx137_4⟩ := at_T37 HR4.out x12_1 p137 q137
              cases e137
              replace hx137_0 := (HB.out.cell (World.block_lt_of_cell? w _ hx137_0)).trans hx137_0
              replace hx137_1 := (HB.out.cell (World.block_lt_of_cell? w _ hx137_1)).trans hx137_1
              replace hx137_2 := (HB.out.cell (World.block_lt_of_cell? w _ hx137_2)).trans hx137_2
              replace hx137_3 := (HB.out.cell (World.block_lt_of_cell? w _ hx137_3)).trans hx137_3
              replace hx137_4 := (HB.out.cell (World.block_lt_of_cell? w _ hx137_4)).trans hx137_4
              replace p137 := eq_true p137
              replace q137 := eq_true q137
              go_wp2_with (first | ((with_reducible refine gate_callee (f := 34) rfl ?_); refine goesL_ (some 30) rfl rfl Tryz.func34 (by kernel_rfl) rfl #[.agg #[.int .i64 ((rd_T37 l4 x12_1).f0), .string ((rd_T37 l4 x12_1).f1), .string ((rd_T37 l4 x12_1).f2), .int .i64 ((rd_T37 l4 x12_1).f3), .int .i64 ((rd_T37 l4 x12_1).f4)]] rfl (by (try simp only [List.map_toArray, List.map_cons, List.map_nil]); first | done | rfl | (simp only [List.length_drop, List.length_take]; rfl)) ?_; (with_reducible refine (postriderref06_Print.calls k1 ((rd_T37 l4 x12_1).f0) ((rd_T37 l4 x12_1).f1) ((rd_T37 l4 x12_1).f2) ((rd_T37 l4 x12_1).f3) ((rd_T37 l4 x12_1).f4) t138 t139 _ A13.out).mono ?_); rintro e w15 ⟨rfl, hb⟩; refine ⟨_, rfl, ?_⟩; have n0_ := Aside0.mk (blk_below (g := gb135) (o := .cells #[.int .i64 a0_0, .int .i64 a0_1, .slice A0_2 l0_2.length c0_2, .bool a0_3] 24 (0, 0)) (by (with_reducible repeat (first | refine blk_drewN ?_ _ | refine blk_drew ?_ | refine blk_alloc ?_ _)); exact BK135.out) hb); have n1_ := Aside0.mk (below_step (by repeat (first | (with_reducible first | exact HB.out | apply below_alloc | apply pw_below_drewN | apply below_drew1 | refine below_set ?_ GE135.out) | exact HB.out)) hb); clear BK135; clear HB; have BK135 := n0_; have HB := n1_; clear n0_ n1_; (try clear hb); (try clear hb2); (try clear hk); (try clear hi)))
              go_loopg [11, 15] k1 (fun kq v11 v15 w' => ∃ (x11_2 : Bool) (x15_2 : Int), v11 = .bool x11_2 ∧ v15 = .int .i64 x15_2 ∧ Aside0 (postriderref16_Pass.l1 kq a1 a2 a3 l4 x11_2 x12_1 t138 x15_2 a0_0 a0_1 l0_2 a0_3 = some r) ∧ Aside0 (kq ≤ k1) ∧ Aside0 (w'.heap[gb135]? = some (.cells #[.int .i64 a0_0, .int .i64 a0_1, (.slice A0_2 l0_2.length c0_2), .bool a0_3] 24 (0, 0))) ∧ Aside0 (Below w.heap.size w w'))
              case atStart => exact ⟨(x11_1), (0), (by first | rfl | (simp; done) | (simp [*]; done)), (by first | rfl | (simp; done) | (simp [*]; done)), H', ⟨Nat.le_refl _⟩, ⟨by (with_reducible repeat (first | refine blk_drewN ?_ _ | refine blk_drew ?_ | refine blk_alloc ?_ _)); exact BK135.out⟩, ⟨by repeat (first | (with_reducible first | exact HB.out | apply below_alloc | apply pw_below_drewN | apply below_drew1 | refine below_set ?_ GE135.out) | exact HB.out)⟩⟩
              case round =>
                clear H'
                try clear c1
                try clear p1
                try clear q1
                try clear hx1
                try clear p2
                try clear c3
                try clear c4
                try clear c7
                try clear c11
                try clear c11b0
                try clear c12
                try clear c12b0
                try clear p13
                try clear q13
                try clear hx13
                try clear c14
                try clear c14b0
                try clear c14b1
                try clear hcz9_0
                try clear hcz9_1
                try clear hcz9_2
                try clear hcz9_3
                try clear hfz9_0
                try clear hfz9_1
                try clear hfz9_2
                try clear hfz9_3
                try clear hx137_0
                try clear hx137_1
                try clear hx137_2
                try clear hx137_3
                try clear hx137_4
                try clear p137
                try clear p2
                try clear q137
                obtain ⟨x11_2, x15_2, rfl, rfl, HA, HK2, BK135, HB⟩ := hrel
                cases gk with
                | zero => exact absurd HA.out (by simp [postriderref16_Pass.l1])
                | succ k2 =>
                  have H := HA.out
                  clear HA
                  simp only [postriderref16_Pass.l1] at H
                  by_cases c16 : x15_2 < (l0_2.length : Int)
                  · rw [if_pos c16] at H
                    have c16b0 : decide (x15_2 < (l0_2.length : Int)) = true := decide_eq_true c16
                    clear c16
                    by_cases c17 : x11_2 = true
                    · subst c17
                      have H1 : (postriderref16_Pass.l1 k2 a1 a2 a3 l4 true x12_1 t138 (wrap64 (x15_2 + 1)) a0_0 a0_1 l0_2 a0_3) = some r := by rw [if_pos rfl] at H; exact H
                      clear H
                      have H := H1
                      clear H1
                      have H' := Aside0.mk H
                      clear H
                      have hcz18_0 : wr.cell? ⟨gb135, 0, none⟩ = some (.int .i64 a0_0) := (blk_cell BK135.out 0).trans rfl
                      have hcz18_1 : wr.cell? ⟨gb135, 1, none⟩ = some (.int .i64 a0_1) := (blk_cell BK135.out 1).trans rfl
                      have hcz18_2 : wr.cell? ⟨gb135, 2, none⟩ = some (.slice A0_2 l0_2.length c0_2) := (blk_cell BK135.out 2).trans rfl
                      have hcz18_3 : wr.cell? ⟨gb135, 3, none⟩ = some (.bool a0_3) := (blk_cell BK135.out 3).trans rfl
                      have hfz18_0 := blk_frozen BK135.out 0
                      have hfz18_1 := blk_frozen BK135.out 1
                      have hfz18_2 := blk_frozen BK135.out 2
                      have hfz18_3 := blk_frozen BK135.out 3
                      go_wp2
                      go_roundg k2
                      case measure => have := HK1.out; have := HK2.out; omega
                      case rel => exact ⟨(true), (wrap64 (x15_2 + 1)), (by first | rfl | (simp; done) | (simp [*]; done)), (by first | rfl | (simp; done) | (simp [*]; done)), H', ⟨by have := HK1.out; have := HK2.out; omega⟩, ⟨by (with_reducible repeat (first | refine blk_drewN ?_ _ | refine blk_drew ?_ | refine blk_alloc ?_ _)); exact BK135.out⟩, ⟨by repeat (first | (with_reducible first | exact HB.out | apply below_alloc | apply pw_below_drewN | apply below_drew1 | refine below_set ?_ GE135.out) | exact HB.out)⟩⟩
                    · replace c17 := Bool.eq_false_iff.mpr c17
                      subst c17
                      have H1 : (if 0 ≤ x15_2 then ((postriderref16_begins.f (rdOf ByteArray.empty l0_2 x15_2) t138).bind fun t141 => (postriderref16_Pass.l1 k2 a1 a2 a3 l4 t141 x12_1 t138 (wrap64 (x15_2 + 1)) a0_0 a0_1 l0_2 a0_3)) else (none)) = some r := by rw [if_neg (show ¬ (false = true) by decide)] at H; exact H
                      clear H
                      have H := H1
                      clear H1
                      by_cases c19 : 0 ≤ x15_2
                      · rw [if_pos c19] at H
                        have c19b0 : decide (0 ≤ x15_2) = true := decide_eq_true c19
                        clear c19
                        replace H := Option.bind_eq_some_iff.mp H
                        obtain ⟨t141, A200, H⟩ := H
                        replace H : (postriderref16_Pass.l1 k2 a1 a2 a3 l4 t141 x12_1 t138 (wrap64 (x15_2 + 1)) a0_0 a0_1 l0_2 a0_3) = some r := H
                        have A20 := Aside0.mk A200
                        clear A200
                        have H' := Aside0.mk H
                        clear H
                        have hcz21_0 : wr.cell? ⟨gb135, 0, none⟩ = some (.int .i64 a0_0) := (blk_cell BK135.out 0).trans rfl
                        have hcz21_1 : wr.cell? ⟨gb135, 1, none⟩ = some (.int .i64 a0_1) := (blk_cell BK135.out 1).trans rfl
                        have hcz21_2 : wr.cell? ⟨gb135, 2, none⟩ = some (.slice A0_2 l0_2.length c0_2) := (blk_cell BK135.out 2).trans rfl
                        have hcz21_3 : wr.cell? ⟨gb135, 3, none⟩ = some (.bool a0_3) := (blk_cell BK135.out 3).trans rfl
                        have hfz21_0 := blk_frozen BK135.out 0
                        have hfz21_1 := blk_frozen BK135.out 1
                        have hfz21_2 := blk_frozen BK135.out 2
                        have hfz21_3 := blk_frozen BK135.out 3
                        have p140 : 0 ≤ (x15_2 : Int) := of_decide_eq_true (by first | (with_reducible assumption) | assumption)
                        have q140 : x15_2 < (l0_2.length : Int) := of_decide_eq_true (by first | (with_reducible assumption) | assumption)
                        obtain ⟨ad140, e140, hx140_0⟩ := Kd.at_string HR0_2.out x15_2 p140 q140
                        cases e140
                        replace hx140_0 := (HB.out.cell (World.block_lt_of_cell? w _ hx140_0)).trans hx140_0
                        replace p140 := eq_true p140
                        replace q140 := eq_true q140
                        go_wp2_with (first | (go_at_call 35; (with_reducible refine (postriderref16_begins.calls (rdOf ByteArray.empty l0_2 x15_2) t138 t141 _ A20.out).mono ?_); rintro e w' ⟨rfl, ⟨nd, rfl⟩⟩))
                        go_roundg k2
                        case measure => have := HK1.out; have := HK2.out; omega
                        case rel => exact ⟨(t141), (wrap64 (x15_2 + 1)), (by first | rfl | (simp; done) | (simp [*]; done)), (by first | rfl | (simp; done) | (simp [*]; done)), H', ⟨by have := HK1.out; have := HK2.out; omega⟩, ⟨by (with_reducible repeat (first | refine blk_drewN ?_ _ | refine blk_drew ?_ | refine blk_alloc ?_ _)); exact BK135.out⟩, ⟨by repeat (first | (with_reducible first | exact HB.out | apply below_alloc | apply pw_below_drewN | apply below_drew1 | refine below_set ?_ GE135.out) | exact HB.out)⟩⟩
                      · rw [if_neg c19] at H
                        exact absurd H (by simp)
                  · rw [if_neg c16] at H
                    have c16b0 : decide (x15_2 < (l0_2.length : Int)) = false := decide_eq_false c16
                    clear c16
                    have H' := Aside0.mk H
                    clear H
                    have hcz22_0 : wr.cell? ⟨gb135, 0, none⟩ = some (.int .i64 a0_0) := (blk_cell BK135.out 0).trans rfl
                    have hcz22_1 : wr.cell? ⟨gb135, 1, none⟩ = some (.int .i64 a0_1) := (blk_cell BK135.out 1).trans rfl
                    have hcz22_2 : wr.cell? ⟨gb135, 2, none⟩ = some (.slice A0_2 l0_2.length c0_2) := (blk_cell BK135.out 2).trans rfl
                    have hcz22_3 : wr.cell? ⟨gb135, 3, none⟩ = some (.bool a0_3) := (blk_cell BK135.out 3).trans rfl
                    have hfz22_0 := blk_frozen BK135.out 0
                    have hfz22_1 := blk_frozen BK135.out 1
                    have hfz22_2 := blk_frozen BK135.out 2
                    have hfz22_3 := blk_frozen BK135.out 3
                    go_wp2
                    go_roundg k2
                    case measure => have := HK1.out; have := HK2.out; omega
                    case rel => exact ⟨(x11_2), (wrap64 (x12_1 + 1)), (by first | rfl | (simp; done) | (simp [*]; done)), (by first | rfl | (simp; done) | (simp [*]; done)), H', ⟨by have := HK1.out; have := HK2.out; omega⟩, ⟨by (with_reducible repeat (first | refine blk_drewN ?_ _ | refine blk_drew ?_ | refine blk_alloc ?_ _)); exact BK135.out⟩, ⟨by repeat (first | (with_reducible first | exact HB.out | apply below_alloc | apply pw_below_drewN | apply below_drew1 | refine below_set ?_ GE135.out) | exact HB.out)⟩⟩
            · rw [if_neg c14] at H
              have c14b0 : (t139 == 0) = false := beq_eq_false_iff_ne.mpr c14
              have c14b1 : (t139 != 0) = true := bne_iff_ne.mpr c14
              obtain rfl := Option.some.inj H
              have p137 : 0 ≤ (x12_1 : Int) := of_decide_eq_true (by first | (with_reducible assumption) | assumption)
              have q137 : x12_1 < (l4.length : Int) := of_decide_eq_true (by first | (with_reducible assumption) | assumption)
              obtain ⟨ad137, e137, hx137_0, hx137_1, hx137_2, hx137_3, hx137_4⟩ := at_T37 HR4.out x12_1 p137 q137
              cases e137
              replace hx137_0 := (HB.out.cell (World.block_lt_of_cell? w _ hx137_0)).trans hx137_0
              replace hx137_1 := (HB.out.cell (World.block_lt_of_cell? w _ hx137_1)).trans hx137_1
              replace hx137_2 := (HB.out.cell (World.block_lt_of_cell? w _ hx137_2)).trans hx137_2
              replace hx137_3 := (HB.out.cell (World.block_lt_of_cell? w _ hx137_3)).trans hx137_3
              replace hx137_4 := (HB.out.cell (World.block_lt_of_cell? w _ hx137_4)).trans hx137_4
              replace p137 := eq_true p137
              replace q137 := eq_true q137
              go_wp2_with (first | ((with_reducible refine gate_callee (f := 34) rfl ?_); refine goesL_ (some 30) rfl rfl Tryz.func34 (by kernel_rfl) rfl #[.agg #[.int .i64 ((rd_T37 l4 x12_1).f0), .string ((rd_T37 l4 x12_1).f1), .string ((rd_T37 l4 x12_1).f2), .int .i64 ((rd_T37 l4 x12_1).f3), .int .i64 ((rd_T37 l4 x12_1).f4)]] rfl (by (try simp only [List.map_toArray, List.map_cons, List.map_nil]); first | done | rfl | (simp only [List.length_drop, List.length_take]; rfl)) ?_; (with_reducible refine (postriderref06_Print.calls k1 ((rd_T37 l4 x12_1).f0) ((rd_T37 l4 x12_1).f1) ((rd_T37 l4 x12_1).f2) ((rd_T37 l4 x12_1).f3) ((rd_T37 l4 x12_1).f4) t138 t139 _ A13.out).mono ?_); rintro e w23 ⟨rfl, hb⟩; refine ⟨_, rfl, ?_⟩; have n0_ := Aside0.mk (blk_below (g := gb135) (o := .cells #[.int .i64 a0_0, .int .i64 a0_1, .slice A0_2 l0_2.length c0_2, .bool a0_3] 24 (0, 0)) (by (with_reducible repeat (first | refine blk_drewN ?_ _ | refine blk_drew ?_ | refine blk_alloc ?_ _)); exact BK135.out) hb); have n1_ := Aside0.mk (below_step (by repeat (first | (with_reducible first | exact HB.out | apply below_alloc | apply pw_below_drewN | apply below_drew1 | refine below_set ?_ GE135.out) | exact HB.out)) hb); clear BK135; clear HB; have BK135 := n0_; have HB := n1_; clear n0_ n1_; (try clear hb); (try clear hb2); (try clear hk); (try clear hi)))
              all_goals (first | (go_ret; exact ⟨by first | rfl | (simp [errW_none, errW_some] <;> rfl) | (simp [*, errW_none, errW_some] <;> rfl) | (simp_all; done) | fail, by repeat (first | (with_reducible first | exact HB.out | apply below_alloc | apply pw_below_drewN | apply below_drew1 | refine below_set ?_ GE135.out) | exact HB.out)⟩) | (exfalso; simp_all; done) | (exfalso; simp only [isEmpty_eq, isEmpty_ne] at *; simp_all; done) | (exfalso; exact isEmpty_clash (by assumption) (by assumption)) | (exfalso; exact isEmpty_clash' (by assumption) (by assumption)) | (exfalso; exact isEmpty_clash2 (by assumption) (by assumption)) | (exfalso; simp only [decide_eq_true_eq, decide_eq_false_iff_not] at *; omega))
          · rw [if_neg c12] at H
            exact absurd H (by simp)
        · rw [if_neg c11] at H
          have c11b0 : decide (x12_1 < (l4.length : Int)) = false := decide_eq_false c11
          clear c11
          by_cases c24 : x11_1 = true
          · subst c24
            have H1 : (some 161) = some r := by rw [if_pos rfl] at H; exact H
            clear H
            have H := H1
            clear H1
            obtain rfl := Option.some.inj H
            go_wp2
            all_goals (first | (go_ret; exact ⟨by first | rfl | (simp [errW_none, errW_some] <;> rfl) | (simp [*, errW_none, errW_some] <;> rfl) | (simp_all; done) | fail, by repeat (first | (with_reducible first | exact HB.out | apply below_alloc | apply pw_below_drewN | apply below_drew1 | refine below_set ?_ GE135.out) | exact HB.out)⟩) | (exfalso; simp_all; done) | (exfalso; simp only [isEmpty_eq, isEmpty_ne] at *; simp_all; done) | (exfalso; exact isEmpty_clash (by assumption) (by assumption)) | (exfalso; exact isEmpty_clash' (by assumption) (by assumption)) | (exfalso; exact isEmpty_clash2 (by assumption) (by assumption)) | (exfalso; simp only [decide_eq_true_eq, decide_eq_false_iff_not] at *; omega))
          · replace c24 := Bool.eq_false_iff.mpr c24
            subst c24
            have H1 : (if a1 > a0_0 then (some 162) else (if a2 > a0_1 then (some 163) else (if a3 = true then (if a0_3 = true then (some 0) else (some 164)) else (some 0)))) = some r := by rw [if_neg (show ¬ (false = true) by decide)] at H; exact H
            clear H
            have H := H1
            clear H1
            by_cases c25 : a1 > a0_0
            · rw [if_pos c25] at H
              have c25b0 : decide (a0_0 < a1) = true := decide_eq_true c25
              clear c25
              obtain rfl := Option.some.inj H
              have hcz26_0 : wr.cell? ⟨gb135, 0, none⟩ = some (.int .i64 a0_0) := (blk_cell BK135.out 0).trans rfl
              have hcz26_1 : wr.cell? ⟨gb135, 1, none⟩ = some (.int .i64 a0_1) := (blk_cell BK135.out 1).trans rfl
              have hcz26_2 : wr.cell? ⟨gb135, 2, none⟩ = some (.slice A0_2 l0_2.length c0_2) := (blk_cell BK135.out 2).trans rfl
              have hcz26_3 : wr.cell? ⟨gb135, 3, none⟩ = some (.bool a0_3) := (blk_cell BK135.out 3).trans rfl
              have hfz26_0 := blk_frozen BK135.out 0
              have hfz26_1 := blk_frozen BK135.out 1
              have hfz26_2 := blk_frozen BK135.out 2
              have hfz26_3 := blk_frozen BK135.out 3
              go_wp2
              all_goals (first | (go_ret; exact ⟨by first | rfl | (simp [errW_none, errW_some] <;> rfl) | (simp [*, errW_none, errW_some] <;> rfl) | (simp_all; done) | fail, by repeat (first | (with_reducible first | exact HB.out | apply below_alloc | apply pw_below_drewN | apply below_drew1 | refine below_set ?_ GE135.out) | exact HB.out)⟩) | (exfalso; simp_all; done) | (exfalso; simp only [isEmpty_eq, isEmpty_ne] at *; simp_all; done) | (exfalso; exact isEmpty_clash (by assumption) (by assumption)) | (exfalso; exact isEmpty_clash' (by assumption) (by assumption)) | (exfalso; exact isEmpty_clash2 (by assumption) (by assumption)) | (exfalso; simp only [decide_eq_true_eq, decide_eq_false_iff_not] at *; omega))
            · rw [if_neg c25] at H
              have c25b0 : decide (a0_0 < a1) = false := decide_eq_false c25
              clear c25
              by_cases c27 : a2 > a0_1
              · rw [if_pos c27] at H
                have c27b0 : decide (a0_1 < a2) = true := decide_eq_true c27
                clear c27
                obtain rfl := Option.some.inj H
                have hcz28_0 : wr.cell? ⟨gb135, 0, none⟩ = some (.int .i64 a0_0) := (blk_cell BK135.out 0).trans rfl
                have hcz28_1 : wr.cell? ⟨gb135, 1, none⟩ = some (.int .i64 a0_1) := (blk_cell BK135.out 1).trans rfl
                have hcz28_2 : wr.cell? ⟨gb135, 2, none⟩ = some (.slice A0_2 l0_2.length c0_2) := (blk_cell BK135.out 2).trans rfl
                have hcz28_3 : wr.cell? ⟨gb135, 3, none⟩ = some (.bool a0_3) := (blk_cell BK135.out 3).trans rfl
                have hfz28_0 := blk_frozen BK135.out 0
                have hfz28_1 := blk_frozen BK135.out 1
                have hfz28_2 := blk_frozen BK135.out 2
                have hfz28_3 := blk_frozen BK135.out 3
                go_wp2
                all_goals (first | (go_ret; exact ⟨by first | rfl | (simp [errW_none, errW_some] <;> rfl) | (simp [*, errW_none, errW_some] <;> rfl) | (simp_all; done) | fail, by repeat (first | (with_reducible first | exact HB.out | apply below_alloc | apply pw_below_drewN | apply below_drew1 | refine below_set ?_ GE135.out) | exact HB.out)⟩) | (exfalso; simp_all; done) | (exfalso; simp only [isEmpty_eq, isEmpty_ne] at *; simp_all; done) | (exfalso; exact isEmpty_clash (by assumption) (by assumption)) | (exfalso; exact isEmpty_clash' (by assumption) (by assumption)) | (exfalso; exact isEmpty_clash2 (by assumption) (by assumption)) | (exfalso; simp only [decide_eq_true_eq, decide_eq_false_iff_not] at *; omega))
              · rw [if_neg c27] at H
                have c27b0 : decide (a0_1 < a2) = false := decide_eq_false c27
                clear c27
                by_cases c29 : a3 = true
                · subst c29
                  have H1 : (if a0_3 = true then (some 0) else (some 164)) = some r := by rw [if_pos rfl] at H; exact H
                  clear H
                  have H := H1
                  clear H1
                  by_cases c30 : a0_3 = true
                  · subst c30
                    have H1 : (some 0) = some r := by rw [if_pos rfl] at H; exact H
                    clear H
                    have H := H1
                    clear H1
                    obtain rfl := Option.some.inj H
                    have hcz31_0 : wr.cell? ⟨gb135, 0, none⟩ = some (.int .i64 a0_0) := (blk_cell BK135.out 0).trans rfl
                    have hcz31_1 : wr.cell? ⟨gb135, 1, none⟩ = some (.int .i64 a0_1) := (blk_cell BK135.out 1).trans rfl
                    have hcz31_2 : wr.cell? ⟨gb135, 2, none⟩ = some (.slice A0_2 l0_2.length c0_2) := (blk_cell BK135.out 2).trans rfl
                    have hcz31_3 : wr.cell? ⟨gb135, 3, none⟩ = some (.bool true) := (blk_cell BK135.out 3).trans rfl
                    have hfz31_0 := blk_frozen BK135.out 0
                    have hfz31_1 := blk_frozen BK135.out 1
                    have hfz31_2 := blk_frozen BK135.out 2
                    have hfz31_3 := blk_frozen BK135.out 3
                    go_wp2
                    all_goals (first | (go_ret; exact ⟨by first | rfl | (simp [errW_none, errW_some] <;> rfl) | (simp [*, errW_none, errW_some] <;> rfl) | (simp_all; done) | fail, by repeat (first | (with_reducible first | exact HB.out | apply below_alloc | apply pw_below_drewN | apply below_drew1 | refine below_set ?_ GE135.out) | exact HB.out)⟩) | (exfalso; simp_all; done) | (exfalso; simp only [isEmpty_eq, isEmpty_ne] at *; simp_all; done) | (exfalso; exact isEmpty_clash (by assumption) (by assumption)) | (exfalso; exact isEmpty_clash' (by assumption) (by assumption)) | (exfalso; exact isEmpty_clash2 (by assumption) (by assumption)) | (exfalso; simp only [decide_eq_true_eq, decide_eq_false_iff_not] at *; omega))
                  · replace c30 := Bool.eq_false_iff.mpr c30
                    subst c30
                    have H1 : (some 164) = some r := by rw [if_neg (show ¬ (false = true) by decide)] at H; exact H
                    clear H
                    have H := H1
                    clear H1
                    obtain rfl := Option.some.inj H
                    have hcz32_0 : wr.cell? ⟨gb135, 0, none⟩ = some (.int .i64 a0_0) := (blk_cell BK135.out 0).trans rfl
                    have hcz32_1 : wr.cell? ⟨gb135, 1, none⟩ = some (.int .i64 a0_1) := (blk_cell BK135.out 1).trans rfl
                    have hcz32_2 : wr.cell? ⟨gb135, 2, none⟩ = some (.slice A0_2 l0_2.length c0_2) := (blk_cell BK135.out 2).trans rfl
                    have hcz32_3 : wr.cell? ⟨gb135, 3, none⟩ = some (.bool false) := (blk_cell BK135.out 3).trans rfl
                    have hfz32_0 := blk_frozen BK135.out 0
                    have hfz32_1 := blk_frozen BK135.out 1
                    have hfz32_2 := blk_frozen BK135.out 2
                    have hfz32_3 := blk_frozen BK135.out 3
                    go_wp2
                    all_goals (first | (go_ret; exact ⟨by first | rfl | (simp [errW_none, errW_some] <;> rfl) | (simp [*, errW_none, errW_some] <;> rfl) | (simp_all; done) | fail, by repeat (first | (with_reducible first | exact HB.out | apply below_alloc | apply pw_below_drewN | apply below_drew1 | refine below_set ?_ GE135.out) | exact HB.out)⟩) | (exfalso; simp_all; done) | (exfalso; simp only [isEmpty_eq, isEmpty_ne] at *; simp_all; done) | (exfalso; exact isEmpty_clash (by assumption) (by assumption)) | (exfalso; exact isEmpty_clash' (by assumption) (by assumption)) | (exfalso; exact isEmpty_clash2 (by assumption) (by assumption)) | (exfalso; simp only [decide_eq_true_eq, decide_eq_false_iff_not] at *; omega))
                · replace c29 := Bool.eq_false_iff.mpr c29
                  subst c29
                  have H1 : (some 0) = some r := by rw [if_neg (show ¬ (false = true) by decide)] at H; exact H
                  clear H
                  have H := H1
                  clear H1
                  obtain rfl := Option.some.inj H
                  have hcz33_0 : wr.cell? ⟨gb135, 0, none⟩ = some (.int .i64 a0_0) := (blk_cell BK135.out 0).trans rfl
                  have hcz33_1 : wr.cell? ⟨gb135, 1, none⟩ = some (.int .i64 a0_1) := (blk_cell BK135.out 1).trans rfl
                  have hcz33_2 : wr.cell? ⟨gb135, 2, none⟩ = some (.slice A0_2 l0_2.length c0_2) := (blk_cell BK135.out 2).trans rfl
                  have hcz33_3 : wr.cell? ⟨gb135, 3, none⟩ = some (.bool a0_3) := (blk_cell BK135.out 3).trans rfl
                  have hfz33_0 := blk_frozen BK135.out 0
                  have hfz33_1 := blk_frozen BK135.out 1
                  have hfz33_2 := blk_frozen BK135.out 2
                  have hfz33_3 := blk_frozen BK135.out 3
                  go_wp2
                  all_goals (first | (go_ret; exact ⟨by first | rfl | (simp [errW_none, errW_some] <;> rfl) | (simp [*, errW_none, errW_some] <;> rfl) | (simp_all; done) | fail, by repeat (first | (with_reducible first | exact HB.out | apply below_alloc | apply pw_below_drewN | apply below_drew1 | refine below_set ?_ GE135.out) | exact HB.out)⟩) | (exfalso; simp_all; done) | (exfalso; simp only [isEmpty_eq, isEmpty_ne] at *; simp_all; done) | (exfalso; exact isEmpty_clash (by assumption) (by assumption)) | (exfalso; exact isEmpty_clash' (by assumption) (by assumption)) | (exfalso; exact isEmpty_clash2 (by assumption) (by assumption)) | (exfalso; simp only [decide_eq_true_eq, decide_eq_false_iff_not] at *; omega))
  · replace c7 := Bool.eq_false_iff.mpr c7
    subst c7
    have H1 : (some 160) = some r := by rw [if_neg (show ¬ (false = true) by decide)] at H; exact H
    clear H
    have H := H1
    clear H1
    obtain rfl := Option.some.inj H
    go_enter Tryz.func16, Tryz.ntmps16
    go_wp2_with (first | ((with_reducible refine gate_dst (N := 5) rfl ?_); refine box_event ?hg (N := 5) ?hd (cs := #[.int .i64 a0_0, .int .i64 a0_1, .slice A0_2 l0_2.length c0_2, .bool a0_3]) (t := 24) ?hr ?_; (case hd => rfl); (case hg => rfl); (case hr => first | (go_simp; done) | (go_simp; rfl) | (go_simp; simp only [isEmpty_ne, isEmpty_eq]; done) | (go_simp; simp only [isEmpty_ne, isEmpty_eq]; rfl)); intro gb135 hg w34 hbox hb; have n0_ := Aside0.mk (below_step (by repeat (first | (with_reducible first | exact HB.out | apply below_alloc | apply pw_below_drewN | apply below_drew1) | exact HB.out)) hb); have n1_ := Aside0.mk (hbox); have n2_ := Aside0.mk ((by rw [hg]; exact (below_size (by repeat (first | (with_reducible first | exact HB.out | apply below_alloc | apply pw_below_drewN | apply below_drew1) | exact HB.out))) : w.heap.size ≤ gb135)); have n3_ := Aside0.mk ((by rw [hg]; exact (below_size (by repeat (first | (with_reducible first | exact HB.out | apply below_alloc | apply pw_below_drewN | apply below_drew1) | exact HB.out))) : w.heap.size ≤ gb135)); clear HB; have HB := n0_; have BK135 := n1_; have GW135 := n2_; have GE135 := n3_; clear n0_ n1_ n2_ n3_; clear hb hbox hg; have hcz35_0 : w34.cell? ⟨gb135, 0, none⟩ = some (.int .i64 a0_0) := (blk_cell BK135.out 0).trans rfl; have hcz35_1 : w34.cell? ⟨gb135, 1, none⟩ = some (.int .i64 a0_1) := (blk_cell BK135.out 1).trans rfl; have hcz35_2 : w34.cell? ⟨gb135, 2, none⟩ = some (.slice A0_2 l0_2.length c0_2) := (blk_cell BK135.out 2).trans rfl; have hcz35_3 : w34.cell? ⟨gb135, 3, none⟩ = some (.bool a0_3) := (blk_cell BK135.out 3).trans rfl; have hfz35_0 := blk_frozen BK135.out 0; have hfz35_1 := blk_frozen BK135.out 1; have hfz35_2 := blk_frozen BK135.out 2; have hfz35_3 := blk_frozen BK135.out 3) | ((with_reducible refine gate_callee (f := 14) rfl ?_); refine goesL_ (some 17) rfl rfl Tryz.func14 (by kernel_rfl) rfl #[.agg #[.int .i64 a0_0, .int .i64 a0_1, .slice A0_2 l0_2.length c0_2, .bool a0_3]] rfl (by (try simp only [List.map_toArray, List.map_cons, List.map_nil]); first | done | rfl | (simp only [List.length_drop, List.length_take]; rfl)) ?_; (with_reducible refine (postriderref16_RightPolicy.calls k a0_0 a0_1 _ _ l0_2 a0_3 false _ ?side1 ?side2 A6.out).mono ?_); (case side1 => repeat (first | exact (Kd.C_below HR0_2.out HB.out) | (with_reducible refine Kd.C_alloc ?_ _) | (with_reducible refine Kd.C_drewN ?_ _) | (with_reducible refine Kd.C_drew ?_))); (case side2 => exact HC0_2.out); rintro e w36 ⟨rfl, hb⟩; refine ⟨_, rfl, ?_⟩; have n0_ := Aside0.mk (blk_below (g := gb135) (o := .cells #[.int .i64 a0_0, .int .i64 a0_1, .slice A0_2 l0_2.length c0_2, .bool a0_3] 24 (0, 0)) (by (with_reducible repeat (first | refine blk_drewN ?_ _ | refine blk_drew ?_ | refine blk_alloc ?_ _)); exact BK135.out) hb); have n1_ := Aside0.mk (below_step (by repeat (first | (with_reducible first | exact HB.out | apply below_alloc | apply pw_below_drewN | apply below_drew1 | refine below_set ?_ GE135.out) | exact HB.out)) hb); clear BK135; clear HB; have BK135 := n0_; have HB := n1_; clear n0_ n1_; (try clear hb); (try clear hb2); (try clear hk); (try clear hi)))
    all_goals (first | (go_ret; exact ⟨by first | rfl | (simp [errW_none, errW_some] <;> rfl) | (simp [*, errW_none, errW_some] <;> rfl) | (simp_all; done) | fail, by repeat (first | (with_reducible first | exact HB.out | apply below_alloc | apply pw_below_drewN | apply below_drew1 | refine below_set ?_ GE135.out) | exact HB.out)⟩) | (exfalso; simp_all; done) | (exfalso; simp only [isEmpty_eq, isEmpty_ne] at *; simp_all; done) | (exfalso; exact isEmpty_clash (by assumption) (by assumption)) | (exfalso; exact isEmpty_clash' (by assumption) (by assumption)) | (exfalso; exact isEmpty_clash2 (by assumption) (by assumption)) | (exfalso; simp only [decide_eq_true_eq, decide_eq_false_iff_not] at *; omega))
end Go.Proofs.YtaknknfcikdjiaaGreatDoor.RR
end
section
namespace Go.Proofs.YtaknknfcikdjiaaGreatDoor.Hand
open Go.RowKit Go.Proofs.YtaknknfcikdjiaaGreatDoor.SA Go.Proofs.YtaknknfcikdjiaaGreatDoor.RC Go.Proofs.YtaknknfcikdjiaaGreatDoor.RR Go.Proofs.YtaknknfcikdjiaaGreatDoorW.PrintWords
theorem w64 {x : Int} (h0 : -9223372036854775808 ≤ x) (h1 : x ≤ 9223372036854775807) : wrap64 x = x := by unfold wrap64; omega
theorem bt_is (a : ByteArray) (i : Int) (h0 : 0 ≤ i) (h1 : i < a.size) : ∃ (c : UInt8) (r : List UInt8), a.data.toList.drop i.toNat = c :: r ∧ bt a i = (c.toNat : Int) ∧ a.data.toList.drop (i + 1).toNat = r := by
  have hi : i.toNat < a.size := by omega
  have hl : i.toNat < a.data.toList.length := by rw [Array.length_toList]; exact hi
  refine ⟨a.data.toList[i.toNat], a.data.toList.drop (i.toNat + 1), List.drop_eq_getElem_cons hl, ?_, by rw [show (i + 1).toNat = i.toNat + 1 by omega]⟩
  unfold bt
  rw [dif_pos hi]
  rfl
theorem signs2 : ∀ n : Nat, n < 256 → okByte ⟨#[45, 46]⟩ (UInt8.ofNat n) = decide (97 ≤ n ∧ n ≤ 122 ∨ 48 ≤ n ∧ n ≤ 57 ∨ n = 45 ∨ n = 46) := by decide +kernel
theorem signs3 : ∀ n : Nat, n < 256 → okByte ⟨#[45, 46, 47]⟩ (UInt8.ofNat n) = decide (97 ≤ n ∧ n ≤ 122 ∨ 48 ≤ n ∧ n ≤ 57 ∨ n = 45 ∨ n = 46 ∨ n = 47) := by decide +kernel
def signsOf (slash : Bool) : ByteArray := if slash then ⟨#[45, 46, 47]⟩ else ⟨#[45, 46]⟩
theorem ok_byte (slash : Bool) (c : UInt8) : okByte (signsOf slash) c = true ↔ (97 ≤ c.toNat ∧ c.toNat ≤ 122 ∨ 48 ≤ c.toNat ∧ c.toNat ≤ 57 ∨ c.toNat = 45 ∨ c.toNat = 46 ∨ slash = true ∧ c.toNat = 47) := by
  have hc := UInt8.toNat_lt c
  have e : UInt8.ofNat c.toNat = c := UInt8.ofNat_toNat
  cases slash
  · have := signs2 c.toNat (by simpa using hc)
    rw [e] at this
    rw [show signsOf false = ⟨#[45, 46]⟩ from rfl, this, decide_eq_true_iff]
    simp
  · have := signs3 c.toNat (by simpa using hc)
    rw [e] at this
    rw [show signsOf true = ⟨#[45, 46, 47]⟩ from rfl, this, decide_eq_true_iff]
    simp
theorem part_from (a : ByteArray) (slash : Bool) (ha : a.size ≤ 1000) : ∀ (d k : Nat) (i : Int), 0 ≤ i → i ≤ a.size → (a.size : Int) - i = d → d < k →
    postriderref06_part.l0 k a slash i = some ((a.data.toList.drop i.toNat).all (okByte (signsOf slash)) && decide (a.size ≤ 20)) := by
  intro d
  induction d with
  | zero =>
    intro k i h0 h1 hd hk
    obtain ⟨k, rfl⟩ : ∃ m, k = m + 1 := ⟨k - 1, by omega⟩
    simp only [postriderref06_part.l0]
    rw [if_neg (by omega), List.drop_eq_nil_of_le (by rw [Array.length_toList]; show a.size ≤ _; omega)]
    simp
    omega
  | succ d ih =>
    intro k i h0 h1 hd hk
    obtain ⟨k, rfl⟩ : ∃ m, k = m + 1 := ⟨k - 1, by omega⟩
    obtain ⟨c, r, hdr, hb, hr⟩ := bt_is a i h0 (by omega)
    have hi := ih k (i + 1) (by omega) (by omega) (by omega) (by omega)
    rw [hr] at hi
    simp only [postriderref06_part.l0]
    rw [if_pos (by omega), if_pos h0, w64 (by omega) (by omega), hb, hdr, List.all_cons, hi]
    have hok := ok_byte slash c
    by_cases h : okByte (signsOf slash) c = true
    · have h' := hok.1 h
      rw [h, Bool.true_and]
      repeat' split
      all_goals first | rfl | (exfalso; omega) | (exfalso; simp_all; omega)
    · have h' := fun z => h (hok.2 z)
      rw [Bool.eq_false_iff.2 h, Bool.false_and]
      repeat' split
      all_goals first | rfl | (exfalso; apply h'; omega) | (exfalso; apply h'; simp_all; omega)
theorem part_ref (k : Nat) (a : ByteArray) (slash : Bool) (ha : a.size ≤ 1000) (hk : 1000 < k) : postriderref06_part.f k a slash = some (partS a (signsOf slash)) := by
  unfold postriderref06_part.f partS
  have := part_from a slash ha a.size k 0 (by omega) (by omega) (by omega) (by omega)
  simpa using this
theorem Right_ref (k : Nat) (n : Int) (a1 a2 : ByteArray) (a3 a4 : Int) (h1 : a1.size ≤ 80) (h2 : a2.size ≤ 80) (hk : 1000 < k) : postriderref06_Right.f k n a1 a2 a3 a4 = some (rightS n a1 a2 a3 a4) := by
  unfold postriderref06_Right.f rightS
  by_cases e0 : n = 0
  · rw [if_pos e0, if_pos e0, e0]
    simp
  · rw [if_neg e0, if_neg e0]
    by_cases e1 : n = 1
    · rw [if_pos e1, if_pos e1, part_ref k a1 false (by omega) hk, part_ref k a2 true (by omega) hk]
      simp only [Option.bind_some, show signsOf false = ⟨#[45, 46]⟩ from rfl, show signsOf true = ⟨#[45, 46, 47]⟩ from rfl]
      by_cases hz : a1.toList = []
      · rw [if_pos hz]; simp [hz]
      · rw [if_neg hz]
        have : (a1.toList != []) = true := by simpa using hz
        rw [this, Bool.true_and]
        cases partS a1 ⟨#[45, 46]⟩ <;> cases partS a2 ⟨#[45, 46, 47]⟩ <;> by_cases h3 : a3 = 0 <;> simp [h3]
    · rw [if_neg e1, if_neg e1]
      by_cases e2 : n = 2
      · rw [if_pos e2, if_pos e2]
        by_cases q1 : a1.toList = [] <;> by_cases q2 : a2.toList = [] <;> by_cases q3 : a3 ≥ 1 <;> by_cases q4 : a3 ≤ 999999999 <;> by_cases q5 : a4 ≥ 0 <;> simp [q1, q2, q3, q4, q5]
      · rw [if_neg e2, if_neg e2]
theorem dig10 (d : Int) (h0 : 0 ≤ d) (h1 : d < 10) : (⟨#[48, 49, 50, 51, 52, 53, 54, 55, 56, 57]⟩ : ByteArray).extract d.toNat (d + 1).toNat = txt [UInt8.ofNat (48 + d.toNat)] := by
  rcases (show d = 0 ∨ d = 1 ∨ d = 2 ∨ d = 3 ∨ d = 4 ∨ d = 5 ∨ d = 6 ∨ d = 7 ∨ d = 8 ∨ d = 9 by omega) with rfl | rfl | rfl | rfl | rfl | rfl | rfl | rfl | rfl | rfl <;> decide +kernel
theorem txt_app (l r : List UInt8) : txt l ++ txt r = txt (l ++ r) := by
  apply ByteArray.ext
  simp [txt, ByteArray.data_append]
theorem Num_from : ∀ (k : Nat) (a : Int), 0 ≤ a → a ≤ 999999999 → a < 10 ^ k → postriderref06_Num.f (k + 1) a = some (txt (Lib.decDigits a.toNat)) := by
  intro k
  induction k with
  | zero =>
    intro a h0 h1 h2
    have : a = 0 := by omega
    subst this
    simp only [postriderref06_Num.f]
    rw [w64 (by decide) (by decide), if_pos (by decide), if_pos (by decide), if_pos (by decide), if_pos (by decide), dig10 0 (by decide) (by decide), Lib.decDigits]
    rfl
  | succ k ih =>
    intro a h0 h1 h2
    rw [postriderref06_Num.f, Lib.decDigits]
    by_cases h : a < 10
    · rw [if_pos h, if_pos h0, w64 (by omega) (by omega), if_pos (by omega), if_pos (by omega), dig10 a h0 h, dif_pos (by omega)]
    · have hd : Int.tdiv a 10 = a / 10 := Int.tdiv_eq_ediv_of_nonneg h0
      have hm : Int.tmod a 10 = a % 10 := Int.tmod_eq_emod_of_nonneg h0
      have hp : (10 : Int) ^ (k + 1) = 10 ^ k * 10 := Int.pow_succ ..
      rw [if_neg h, hd, hm, w64 (x := a / 10) (by omega) (by omega), ih (a / 10) (by omega) (by omega) (by rw [hp] at h2; omega), dif_neg (by omega)]
      simp only [Option.bind_some]
      rw [w64 (x := a % 10 + 1) (by omega) (by omega), if_pos (by omega), if_pos (by omega), if_pos (by omega), dig10 (a % 10) (by omega) (by omega), txt_app]
      have hl := dig_len 8 (a / 10).toNat (by omega)
      rw [if_pos (by rw [txt_size, txt_size]; simp; omega)]
      rw [show (a / 10).toNat = a.toNat / 10 by omega, show (a % 10).toNat = a.toNat % 10 by omega]
theorem Num_ref (k : Nat) (a : Int) (h0 : 0 ≤ a) (h1 : a ≤ 999999999) (hk : 1000 < k) : postriderref06_Num.f k a = some (txt (Lib.itoa a)) := by
  obtain ⟨k, rfl⟩ : ∃ m, k = (m + 9) + 1 := ⟨k - 10, by omega⟩
  rw [itoa_dig a h0]
  refine Num_from (k + 9) a h0 h1 ?_
  have : (10 : Int) ^ 9 ≤ 10 ^ (k + 9) := by
    rw [Int.pow_add]
    have : (0 : Int) < 10 ^ k := Int.pow_pos (by decide)
    omega
  omega
theorem Halves_ref (k : Nat) (n : Int) (a1 a2 : ByteArray) (a3 a4 : Int) (h1 : a1.size ≤ 80) (h2 : a2.size ≤ 80) (hk : 1000 < k) : postriderref06_Halves.f k n a1 a2 a3 a4 = some (halvesS n a1 a2 a3 a4) := by
  unfold postriderref06_Halves.f halvesS
  rw [Right_ref k n a1 a2 a3 a4 h1 h2 hk]
  simp only [Option.bind_some]
  by_cases hr : rightS n a1 a2 a3 a4 = true
  · rw [if_pos hr, if_pos hr]
    rcases right_num hr with rfl | rfl | rfl
    · rfl
    · rw [if_pos rfl, if_pos (by omega), if_pos (by omega), if_pos (by omega)]
      rfl
    · obtain ⟨_, _, h3, h3', h4, h4'⟩ := right_ipn hr
      rw [if_neg (by decide), if_pos rfl, Num_ref k a3 (by omega) h3' hk, Num_ref k a4 h4 h4' hk]
      simp only [Option.bind_some]
      have q3 := itoa_short a3 (by omega) (by omega)
      have q4 := itoa_short a4 (by omega) (by omega)
      rw [if_pos (by omega), if_pos (by omega)]
      rfl
  · rw [if_neg hr, if_neg hr]
theorem Print_ref (k : Nat) (n : Int) (a1 a2 : ByteArray) (a3 a4 : Int) (h1 : a1.size ≤ 80) (h2 : a2.size ≤ 80) (hk : 1000 < k) :
    postriderref06_Print.f k n a1 a2 a3 a4 = some (if rightS n a1 a2 a3 a4 = true then (textS n a1 a2 a3 a4, 0) else (⟨#[]⟩, 60)) := by
  unfold postriderref06_Print.f
  rw [Halves_ref k n a1 a2 a3 a4 h1 h2 hk]
  unfold halvesS
  by_cases hr : rightS n a1 a2 a3 a4 = true
  · rw [if_pos hr, if_pos hr]
    have := rest_size hr
    have := word_size n
    simp only [Option.bind_some]
    rw [if_pos trivial, if_pos (by omega), if_pos (by omega)]
    rfl
  · rw [if_neg hr, if_neg hr]
    rfl
end Go.Proofs.YtaknknfcikdjiaaGreatDoor.Hand
end
section
namespace Go.Proofs.YtaknknfcikdjiaaGreatDoor.RF
open Go.Proofs.YtaknknfcikdjiaaGreatDoor.Hand
open Go.Proofs.YtaknknfcikdjiaaGreatDoor.SA
open Go.Proofs.YtaknknfcikdjiaaGreatDoor.RK
open Go.RowKit Go.Proofs.YtaknknfcikdjiaaGreatDoorW.PrintWords Go.Proofs.YtaknknfcikdjiaaGreatDoorW.PrintLast Go.Proofs.YtaknknfcikdjiaaGreatDoorW.PrintMore
attribute [local go_sem] max2_int min2_int max_two min_two max_three min_three max_four min_four
set_option linter.unusedVariables false
set_option linter.unusedSimpArgs false
def errW : Option Int → Value
  | none => .nilIface
  | some c => .iface 0 (.int .i64 c)
theorem errW_none : errW none = .nilIface := rfl
theorem errW_some (c : Int) : errW (some c) = .iface 0 (.int .i64 c) := rfl
theorem info9 : (Tryz.prog.info? 9).map (fun i => (i.zero, i.size, i.bytes)) = some (some (.string ⟨#[]⟩), 1, 16) := by kernel_rfl
theorem info35 : (Tryz.prog.info? 35).map (fun i => (i.zero, i.size, i.bytes)) = some (some (.agg #[(.string ⟨#[]⟩), (.int .i64 0)]), 2, 24) := by kernel_rfl
theorem info37 : (Tryz.prog.info? 37).map (fun i => (i.zero, i.size, i.bytes)) = some (some (.agg #[(.int .i64 0), (.string ⟨#[]⟩), (.string ⟨#[]⟩), (.int .i64 0), (.int .i64 0)]), 5, 56) := by kernel_rfl
end Go.Proofs.YtaknknfcikdjiaaGreatDoor.RF
end
section
namespace Go.Proofs.YtaknknfcikdjiaaGreatDoor.RF
open Go.Proofs.YtaknknfcikdjiaaGreatDoor.Hand
open Go.Proofs.YtaknknfcikdjiaaGreatDoor.SA
open Go.Proofs.YtaknknfcikdjiaaGreatDoor.RK
open Go.RowKit Go.Proofs.YtaknknfcikdjiaaGreatDoorW.PrintWords Go.Proofs.YtaknknfcikdjiaaGreatDoorW.PrintLast Go.Proofs.YtaknknfcikdjiaaGreatDoorW.PrintMore
attribute [local go_sem] max2_int min2_int max_two min_two max_three min_three max_four min_four
set_option linter.unusedVariables false
set_option linter.unusedSimpArgs false
def route_Find.f (l0 : List (S35)) (a1_0 : Int) (a1_1 : ByteArray) (a1_2 : ByteArray) (a1_3 : Int) (a1_4 : Int) : Option (Int × Bool × Int) := (route_All.f l0 a1_0 a1_1 a1_2 a1_3 a1_4).bind fun bt102 => (if (bt102.1.length : Int) = 0 then (some (0, false, bt102.2)) else (if 0 < (bt102.1.length : Int) then (some (rd bt102.1 0, true, 0)) else (none)))
set_option maxHeartbeats 8000000 in
set_option maxRecDepth 100000 in
theorem route_Find.calls (A0 : Option Addr) (c0 : Nat) (l0 : List (S35)) (a1_0 : Int) (a1_1 : ByteArray) (a1_2 : ByteArray) (a1_3 : Int) (a1_4 : Int) (r1 : Int) (r2 : Bool) (r3 : Int) (w : World) (hr0 : Kd.C k35 w A0 l0.length l0) (hc0 : l0.length ≤ c0) (hLd : LaidR w) (h : route_Find.f l0 a1_0 a1_1 a1_2 a1_3 a1_4 = some (r1, r2, r3)) :
    Calls Tryz.prog 19 #[.slice A0 l0.length c0, .agg #[.int .i64 a1_0, .string a1_1, .string a1_2, .int .i64 a1_3, .int .i64 a1_4]] w fun e w' => e = .returned (.tuple #[.int .i64 r1, .bool r2, .int .i64 r3]) ∧ Below w.heap.size w w' := by
  have hu37 := Tryz.underlying37
  have HLD := Aside0.mk hLd
  clear hLd
  have HR0 := Aside0.mk hr0
  have HC0 := Aside0.mk hc0
  clear hr0 hc0
  have HB := Aside0.mk (Below.refl w.heap.size w)
  have H : ((route_All.f l0 a1_0 a1_1 a1_2 a1_3 a1_4).bind fun bt102 => (if (bt102.1.length : Int) = 0 then (some (0, false, bt102.2)) else (if 0 < (bt102.1.length : Int) then (some (rd bt102.1 0, true, 0)) else (none)))) = some (r1, r2, r3) := h
  clear h
  replace H := Option.bind_eq_some_iff.mp H
  obtain ⟨⟨t102, t105⟩, A30, H⟩ := H
  replace H : (if (t102.length : Int) = 0 then (some (0, false, t105)) else (if 0 < (t102.length : Int) then (some (rd t102 0, true, 0)) else (none))) = some (r1, r2, r3) := H
  have A3 := Aside0.mk A30
  clear A30
  by_cases c4 : (t102.length : Int) = 0
  · rw [if_pos c4] at H
    have c4b0 : ((t102.length : Int) == 0) = true := beq_iff_eq.mpr c4
    have c4b1 : ((t102.length : Int) != 0) = false := bne_eq_false_iff_eq.mpr c4
    clear c4
    simp only [Option.some.injEq, Prod.mk.injEq] at H
    obtain ⟨rfl, rfl, rfl⟩ := H
    go_enter Tryz.func19, Tryz.ntmps19
    go_wp2_with (first | ((with_reducible refine gate_dst (N := 3) rfl ?_); refine box_event ?hg (N := 3) ?hd (cs := #[.int .i64 a1_0, .string a1_1, .string a1_2, .int .i64 a1_3, .int .i64 a1_4]) (t := 37) ?hr ?_; (case hd => rfl); (case hg => rfl); (case hr => first | (go_simp; done) | (go_simp; rfl) | (go_simp; simp only [isEmpty_ne, isEmpty_eq]; done) | (go_simp; simp only [isEmpty_ne, isEmpty_eq]; rfl)); intro gb101 hg w5 hbox hb; have n0_ := Aside0.mk (below_step (by repeat (first | (with_reducible first | exact HB.out | apply below_alloc | apply pw_below_drewN | apply below_drew1) | exact HB.out)) hb); have n1_ := Aside0.mk (hbox); have n2_ := Aside0.mk ((by rw [hg]; exact (below_size (by repeat (first | (with_reducible first | exact HB.out | apply below_alloc | apply pw_below_drewN | apply below_drew1) | exact HB.out))) : w.heap.size ≤ gb101)); have n3_ := Aside0.mk ((by rw [hg]; exact (below_size (by repeat (first | (with_reducible first | exact HB.out | apply below_alloc | apply pw_below_drewN | apply below_drew1) | exact HB.out))) : w.heap.size ≤ gb101)); clear HB; have HB := n0_; have BK101 := n1_; have GW101 := n2_; have GE101 := n3_; clear n0_ n1_ n2_ n3_; clear hb hbox hg; have hcz6_0 : w5.cell? ⟨gb101, 0, none⟩ = some (.int .i64 a1_0) := (blk_cell BK101.out 0).trans rfl; have hcz6_1 : w5.cell? ⟨gb101, 1, none⟩ = some (.string a1_1) := (blk_cell BK101.out 1).trans rfl; have hcz6_2 : w5.cell? ⟨gb101, 2, none⟩ = some (.string a1_2) := (blk_cell BK101.out 2).trans rfl; have hcz6_3 : w5.cell? ⟨gb101, 3, none⟩ = some (.int .i64 a1_3) := (blk_cell BK101.out 3).trans rfl; have hcz6_4 : w5.cell? ⟨gb101, 4, none⟩ = some (.int .i64 a1_4) := (blk_cell BK101.out 4).trans rfl; have hfz6_0 := blk_frozen BK101.out 0; have hfz6_1 := blk_frozen BK101.out 1; have hfz6_2 := blk_frozen BK101.out 2; have hfz6_3 := blk_frozen BK101.out 3; have hfz6_4 := blk_frozen BK101.out 4) | ((with_reducible refine gate_callee (f := 20) rfl ?_); refine goesL_ (some 12) rfl rfl Tryz.func20 (by kernel_rfl) rfl #[.slice A0 l0.length c0, .agg #[.int .i64 a1_0, .string a1_1, .string a1_2, .int .i64 a1_3, .int .i64 a1_4]] rfl (by (try simp only [List.map_toArray, List.map_cons, List.map_nil]); first | done | rfl | (simp only [List.length_drop, List.length_take]; rfl)) ?_; (with_reducible refine (route_All.calls _ _ l0 a1_0 a1_1 a1_2 a1_3 a1_4 t102 t105 _ ?side1 ?side2 ?side3 A3.out).mono ?_); (case side1 => repeat (first | exact (Kd.C_below HR0.out HB.out) | (with_reducible refine Kd.C_alloc ?_ _) | (with_reducible refine Kd.C_drewN ?_ _) | (with_reducible refine Kd.C_drew ?_))); (case side2 => exact HC0.out); (case side3 => exact LaidR.below HLD.out (by repeat (first | (with_reducible first | exact HB.out | apply below_alloc | apply pw_below_drewN | apply below_drew1 | refine below_set ?_ GE101.out) | exact HB.out))); rintro e w7 ⟨v103, rfl, ho0, hb⟩; refine ⟨_, rfl, ?_⟩; have n0_ := Aside0.mk (Kd.R_lower ho0 (below_size (by repeat (first | (with_reducible first | exact HB.out | apply below_alloc | apply pw_below_drewN | apply below_drew1 | refine below_set ?_ GE101.out) | exact HB.out)))); have n1_ := Aside0.mk (blk_below (g := gb101) (o := .cells #[.int .i64 a1_0, .string a1_1, .string a1_2, .int .i64 a1_3, .int .i64 a1_4] 37 (0, 0)) (by (with_reducible repeat (first | refine blk_drewN ?_ _ | refine blk_drew ?_ | refine blk_alloc ?_ _)); exact BK101.out) hb); have n2_ := Aside0.mk (below_step (by repeat (first | (with_reducible first | exact HB.out | apply below_alloc | apply pw_below_drewN | apply below_drew1 | refine below_set ?_ GE101.out) | exact HB.out)) hb); clear BK101; clear HB; have HO104 := n0_; have BK101 := n1_; have HB := n2_; clear n0_ n1_ n2_; (try clear hb); (try clear hb2); (try clear hk); (try clear hi); (try clear ho0); obtain ⟨Ao8, co8, eo8⟩ := Kd.R_slice HO104.out; subst eo8))
    all_goals (first | (go_ret3; exact ⟨by first | rfl | (simp [errW_none, errW_some] <;> rfl) | (simp [*, errW_none, errW_some] <;> rfl) | (simp_all; done) | fail, by repeat (first | (with_reducible first | exact HB.out | apply below_alloc | apply pw_below_drewN | apply below_drew1 | refine below_set ?_ GE101.out) | exact HB.out)⟩) | (exfalso; simp_all; done) | (exfalso; simp only [isEmpty_eq, isEmpty_ne] at *; simp_all; done) | (exfalso; exact isEmpty_clash (by assumption) (by assumption)) | (exfalso; exact isEmpty_clash' (by assumption) (by assumption)) | (exfalso; exact isEmpty_clash2 (by assumption) (by assumption)))
  · rw [if_neg c4] at H
    have c4b0 : ((t102.length : Int) == 0) = false := beq_eq_false_iff_ne.mpr c4
    have c4b1 : ((t102.length : Int) != 0) = true := bne_iff_ne.mpr c4
    have c4b2 : ¬ (t102 = []) := fun h_ => c4 (by rw [h_]; rfl)
    by_cases c9 : 0 < (t102.length : Int)
    · rw [if_pos c9] at H
      have c9b0 : decide (0 < (t102.length : Int)) = true := decide_eq_true c9
      have c9b1 : decide (0 < t102.length) = true := decide_eq_true (by omega)
      clear c9
      simp only [Option.some.injEq, Prod.mk.injEq] at H
      obtain ⟨rfl, rfl, rfl⟩ := H
      go_enter Tryz.func19, Tryz.ntmps19
      go_wp2_with (first | ((with_reducible refine gate_dst (N := 3) rfl ?_); refine box_event ?hg (N := 3) ?hd (cs := #[.int .i64 a1_0, .string a1_1, .string a1_2, .int .i64 a1_3, .int .i64 a1_4]) (t := 37) ?hr ?_; (case hd => rfl); (case hg => rfl); (case hr => first | (go_simp; done) | (go_simp; rfl) | (go_simp; simp only [isEmpty_ne, isEmpty_eq]; done) | (go_simp; simp only [isEmpty_ne, isEmpty_eq]; rfl)); intro gb101 hg w10 hbox hb; have n0_ := Aside0.mk (below_step (by repeat (first | (with_reducible first | exact HB.out | apply below_alloc | apply pw_below_drewN | apply below_drew1) | exact HB.out)) hb); have n1_ := Aside0.mk (hbox); have n2_ := Aside0.mk ((by rw [hg]; exact (below_size (by repeat (first | (with_reducible first | exact HB.out | apply below_alloc | apply pw_below_drewN | apply below_drew1) | exact HB.out))) : w.heap.size ≤ gb101)); have n3_ := Aside0.mk ((by rw [hg]; exact (below_size (by repeat (first | (with_reducible first | exact HB.out | apply below_alloc | apply pw_below_drewN | apply below_drew1) | exact HB.out))) : w.heap.size ≤ gb101)); clear HB; have HB := n0_; have BK101 := n1_; have GW101 := n2_; have GE101 := n3_; clear n0_ n1_ n2_ n3_; clear hb hbox hg; have hcz11_0 : w10.cell? ⟨gb101, 0, none⟩ = some (.int .i64 a1_0) := (blk_cell BK101.out 0).trans rfl; have hcz11_1 : w10.cell? ⟨gb101, 1, none⟩ = some (.string a1_1) := (blk_cell BK101.out 1).trans rfl; have hcz11_2 : w10.cell? ⟨gb101, 2, none⟩ = some (.string a1_2) := (blk_cell BK101.out 2).trans rfl; have hcz11_3 : w10.cell? ⟨gb101, 3, none⟩ = some (.int .i64 a1_3) := (blk_cell BK101.out 3).trans rfl; have hcz11_4 : w10.cell? ⟨gb101, 4, none⟩ = some (.int .i64 a1_4) := (blk_cell BK101.out 4).trans rfl; have hfz11_0 := blk_frozen BK101.out 0; have hfz11_1 := blk_frozen BK101.out 1; have hfz11_2 := blk_frozen BK101.out 2; have hfz11_3 := blk_frozen BK101.out 3; have hfz11_4 := blk_frozen BK101.out 4) | ((with_reducible refine gate_callee (f := 20) rfl ?_); refine goesL_ (some 12) rfl rfl Tryz.func20 (by kernel_rfl) rfl #[.slice A0 l0.length c0, .agg #[.int .i64 a1_0, .string a1_1, .string a1_2, .int .i64 a1_3, .int .i64 a1_4]] rfl (by (try simp only [List.map_toArray, List.map_cons, List.map_nil]); first | done | rfl | (simp only [List.length_drop, List.length_take]; rfl)) ?_; (with_reducible refine (route_All.calls _ _ l0 a1_0 a1_1 a1_2 a1_3 a1_4 t102 t105 _ ?side1 ?side2 ?side3 A3.out).mono ?_); (case side1 => repeat (first | exact (Kd.C_below HR0.out HB.out) | (with_reducible refine Kd.C_alloc ?_ _) | (with_reducible refine Kd.C_drewN ?_ _) | (with_reducible refine Kd.C_drew ?_))); (case side2 => exact HC0.out); (case side3 => exact LaidR.below HLD.out (by repeat (first | (with_reducible first | exact HB.out | apply below_alloc | apply pw_below_drewN | apply below_drew1 | refine below_set ?_ GE101.out) | exact HB.out))); rintro e w12 ⟨v103, rfl, ho0, hb⟩; refine ⟨_, rfl, ?_⟩; have n0_ := Aside0.mk (Kd.R_lower ho0 (below_size (by repeat (first | (with_reducible first | exact HB.out | apply below_alloc | apply pw_below_drewN | apply below_drew1 | refine below_set ?_ GE101.out) | exact HB.out)))); have n1_ := Aside0.mk (blk_below (g := gb101) (o := .cells #[.int .i64 a1_0, .string a1_1, .string a1_2, .int .i64 a1_3, .int .i64 a1_4] 37 (0, 0)) (by (with_reducible repeat (first | refine blk_drewN ?_ _ | refine blk_drew ?_ | refine blk_alloc ?_ _)); exact BK101.out) hb); have n2_ := Aside0.mk (below_step (by repeat (first | (with_reducible first | exact HB.out | apply below_alloc | apply pw_below_drewN | apply below_drew1 | refine below_set ?_ GE101.out) | exact HB.out)) hb); clear BK101; clear HB; have HO104 := n0_; have BK101 := n1_; have HB := n2_; clear n0_ n1_ n2_; (try clear hb); (try clear hb2); (try clear hk); (try clear hi); (try clear ho0); obtain ⟨Ao13, co13, eo13⟩ := Kd.R_slice HO104.out; subst eo13; have p106 : 0 ≤ (0 : Int) := (by omega); have q106 : 0 < (t102.length : Int) := of_decide_eq_true (by first | (with_reducible assumption) | assumption); obtain ⟨ad106, e106, hx106_0⟩ := Kd.at_int (Kd.R_reads' HO104.out).2.2 0 p106 q106; cases e106; have qi106 : (0 < t102.length) = True := eq_true (by omega); (try rw [show ((0 : Int)).toNat = 0 from rfl] at hx106_0); (try rw [Addr.add_zero'] at hx106_0); replace p106 := eq_true p106; replace q106 := eq_true q106))
      all_goals (first | (go_ret3; exact ⟨by first | rfl | (simp [errW_none, errW_some] <;> rfl) | (simp [*, errW_none, errW_some] <;> rfl) | (simp_all; done) | fail, by repeat (first | (with_reducible first | exact HB.out | apply below_alloc | apply pw_below_drewN | apply below_drew1 | refine below_set ?_ GE101.out) | exact HB.out)⟩) | (exfalso; simp_all; done) | (exfalso; simp only [isEmpty_eq, isEmpty_ne] at *; simp_all; done) | (exfalso; exact isEmpty_clash (by assumption) (by assumption)) | (exfalso; exact isEmpty_clash' (by assumption) (by assumption)) | (exfalso; exact isEmpty_clash2 (by assumption) (by assumption)))
    · rw [if_neg c9] at H
      exact absurd H (by simp)
def postriderlaw16_shown.f  : Option (Bool) := (some (([(⟨(⟨#[105, 112, 110, 58, 52]⟩ : ByteArray), 6⟩ : S35), (⟨(⟨#[105, 112, 110, 58, 52, 46]⟩ : ByteArray), 7⟩ : S35), (⟨(⟨#[]⟩ : ByteArray), 6⟩ : S35)] : List (S35)) : List (S35))).bind fun y107 => ((route_Find.f y107 2 (⟨#[]⟩ : ByteArray) (⟨#[]⟩ : ByteArray) 4 7).bind fun bt110 => ((route_Find.f y107 2 (⟨#[]⟩ : ByteArray) (⟨#[]⟩ : ByteArray) 42 0).bind fun bt113 => ((route_Find.f y107 0 (⟨#[]⟩ : ByteArray) (⟨#[]⟩ : ByteArray) 0 0).bind fun bt116 => ((route_Pass.f 5 9 (([(⟨#[100, 116, 110, 58]⟩ : ByteArray)] : List ByteArray)) false 6 0 false (([(⟨0, (⟨#[]⟩ : ByteArray), (⟨#[]⟩ : ByteArray), 0, 0⟩ : S37)] : List (S37)))).bind fun t125 => ((route_Pass.f 5 9 ([] : List ByteArray) false 6 0 false (([(⟨0, (⟨#[]⟩ : ByteArray), (⟨#[]⟩ : ByteArray), 0, 0⟩ : S37)] : List (S37)))).bind fun t129 => (if bt110.1 = 1 then (if bt110.2.1 = true then (if bt110.2.2 = 0 then (if bt113.1 = 0 then (if bt113.2.1 = true then (if bt113.2.2 = 0 then (if bt116.1 = 2 then (if bt116.2.1 = true then (if bt116.2.2 = 0 then (if t125 = 161 then (some (t129 == 162)) else (none)) else (none)) else (none)) else (none)) else (none)) else (none)) else (none)) else (none)) else (none)) else (none)))))))
set_option maxHeartbeats 8000000 in
set_option maxRecDepth 100000 in
theorem postriderlaw16_shown.calls  (r : Bool) (w : World) (hLd : LaidR w) (h : postriderlaw16_shown.f  = some r) :
    Calls Tryz.prog 10 #[] w fun e w' => e = .returned (.bool r) ∧ Below w.heap.size w w' := by
  have hu35 := Tryz.underlying35
  have hu37 := Tryz.underlying37
  have hu24 := Tryz.underlying24
  have HLD := Aside0.mk hLd
  clear hLd
  have HB := Aside0.mk (Below.refl w.heap.size w)
  have H : ((some (([(⟨(⟨#[105, 112, 110, 58, 52]⟩ : ByteArray), 6⟩ : S35), (⟨(⟨#[105, 112, 110, 58, 52, 46]⟩ : ByteArray), 7⟩ : S35), (⟨(⟨#[]⟩ : ByteArray), 6⟩ : S35)] : List (S35)) : List (S35))).bind fun y107 => ((route_Find.f y107 2 (⟨#[]⟩ : ByteArray) (⟨#[]⟩ : ByteArray) 4 7).bind fun bt110 => ((route_Find.f y107 2 (⟨#[]⟩ : ByteArray) (⟨#[]⟩ : ByteArray) 42 0).bind fun bt113 => ((route_Find.f y107 0 (⟨#[]⟩ : ByteArray) (⟨#[]⟩ : ByteArray) 0 0).bind fun bt116 => ((route_Pass.f 5 9 (([(⟨#[100, 116, 110, 58]⟩ : ByteArray)] : List ByteArray)) false 6 0 false (([(⟨0, (⟨#[]⟩ : ByteArray), (⟨#[]⟩ : ByteArray), 0, 0⟩ : S37)] : List (S37)))).bind fun t125 => ((route_Pass.f 5 9 ([] : List ByteArray) false 6 0 false (([(⟨0, (⟨#[]⟩ : ByteArray), (⟨#[]⟩ : ByteArray), 0, 0⟩ : S37)] : List (S37)))).bind fun t129 => (if bt110.1 = 1 then (if bt110.2.1 = true then (if bt110.2.2 = 0 then (if bt113.1 = 0 then (if bt113.2.1 = true then (if bt113.2.2 = 0 then (if bt116.1 = 2 then (if bt116.2.1 = true then (if bt116.2.2 = 0 then (if t125 = 161 then (some (t129 == 162)) else (none)) else (none)) else (none)) else (none)) else (none)) else (none)) else (none)) else (none)) else (none)) else (none)))))))) = some r := h
  clear h
  obtain ⟨y107, hy107⟩ : ∃ y_ : List (S35), y_ = (([(⟨(⟨#[105, 112, 110, 58, 52]⟩ : ByteArray), 6⟩ : S35), (⟨(⟨#[105, 112, 110, 58, 52, 46]⟩ : ByteArray), 7⟩ : S35), (⟨(⟨#[]⟩ : ByteArray), 6⟩ : S35)] : List (S35))) := ⟨_, rfl⟩
  replace H : ((route_Find.f y107 2 (⟨#[]⟩ : ByteArray) (⟨#[]⟩ : ByteArray) 4 7).bind fun bt110 => ((route_Find.f y107 2 (⟨#[]⟩ : ByteArray) (⟨#[]⟩ : ByteArray) 42 0).bind fun bt113 => ((route_Find.f y107 0 (⟨#[]⟩ : ByteArray) (⟨#[]⟩ : ByteArray) 0 0).bind fun bt116 => ((route_Pass.f 5 9 (([(⟨#[100, 116, 110, 58]⟩ : ByteArray)] : List ByteArray)) false 6 0 false (([(⟨0, (⟨#[]⟩ : ByteArray), (⟨#[]⟩ : ByteArray), 0, 0⟩ : S37)] : List (S37)))).bind fun t125 => ((route_Pass.f 5 9 ([] : List ByteArray) false 6 0 false (([(⟨0, (⟨#[]⟩ : ByteArray), (⟨#[]⟩ : ByteArray), 0, 0⟩ : S37)] : List (S37)))).bind fun t129 => (if bt110.1 = 1 then (if bt110.2.1 = true then (if bt110.2.2 = 0 then (if bt113.1 = 0 then (if bt113.2.1 = true then (if bt113.2.2 = 0 then (if bt116.1 = 2 then (if bt116.2.1 = true then (if bt116.2.2 = 0 then (if t125 = 161 then (some (t129 == 162)) else (none)) else (none)) else (none)) else (none)) else (none)) else (none)) else (none)) else (none)) else (none)) else (none))))))) = some r := by first | (rw [hy107]; with_reducible exact H) | (have H2_ := (Option.bind_some _ _).symm.trans H; rw [hy107]; with_reducible exact H2_) | (have H2_ := (Option.bind_some _ _).symm.trans H; with_reducible exact H2_) | with_reducible exact H | (rw [hy107]; exact H) | exact H
  have Ny107 := Aside0.mk hy107
  clear hy107
  replace H := Option.bind_eq_some_iff.mp H
  obtain ⟨⟨t110, t111, t112⟩, A10, H⟩ := H
  replace H : ((route_Find.f y107 2 (⟨#[]⟩ : ByteArray) (⟨#[]⟩ : ByteArray) 42 0).bind fun bt113 => ((route_Find.f y107 0 (⟨#[]⟩ : ByteArray) (⟨#[]⟩ : ByteArray) 0 0).bind fun bt116 => ((route_Pass.f 5 9 (([(⟨#[100, 116, 110, 58]⟩ : ByteArray)] : List ByteArray)) false 6 0 false (([(⟨0, (⟨#[]⟩ : ByteArray), (⟨#[]⟩ : ByteArray), 0, 0⟩ : S37)] : List (S37)))).bind fun t125 => ((route_Pass.f 5 9 ([] : List ByteArray) false 6 0 false (([(⟨0, (⟨#[]⟩ : ByteArray), (⟨#[]⟩ : ByteArray), 0, 0⟩ : S37)] : List (S37)))).bind fun t129 => (if t110 = 1 then (if t111 = true then (if t112 = 0 then (if bt113.1 = 0 then (if bt113.2.1 = true then (if bt113.2.2 = 0 then (if bt116.1 = 2 then (if bt116.2.1 = true then (if bt116.2.2 = 0 then (if t125 = 161 then (some (t129 == 162)) else (none)) else (none)) else (none)) else (none)) else (none)) else (none)) else (none)) else (none)) else (none)) else (none)))))) = some r := H
  have A1 := Aside0.mk A10
  clear A10
  replace H := Option.bind_eq_some_iff.mp H
  obtain ⟨⟨t113, t114, t115⟩, A20, H⟩ := H
  replace H : ((route_Find.f y107 0 (⟨#[]⟩ : ByteArray) (⟨#[]⟩ : ByteArray) 0 0).bind fun bt116 => ((route_Pass.f 5 9 (([(⟨#[100, 116, 110, 58]⟩ : ByteArray)] : List ByteArray)) false 6 0 false (([(⟨0, (⟨#[]⟩ : ByteArray), (⟨#[]⟩ : ByteArray), 0, 0⟩ : S37)] : List (S37)))).bind fun t125 => ((route_Pass.f 5 9 ([] : List ByteArray) false 6 0 false (([(⟨0, (⟨#[]⟩ : ByteArray), (⟨#[]⟩ : ByteArray), 0, 0⟩ : S37)] : List (S37)))).bind fun t129 => (if t110 = 1 then (if t111 = true then (if t112 = 0 then (if t113 = 0 then (if t114 = true then (if t115 = 0 then (if bt116.1 = 2 then (if bt116.2.1 = true then (if bt116.2.2 = 0 then (if t125 = 161 then (some (t129 == 162)) else (none)) else (none)) else (none)) else (none)) else (none)) else (none)) else (none)) else (none)) else (none)) else (none))))) = some r := H
  have A2 := Aside0.mk A20
  clear A20
  replace H := Option.bind_eq_some_iff.mp H
  obtain ⟨⟨t116, t117, t118⟩, A30, H⟩ := H
  replace H : ((route_Pass.f 5 9 (([(⟨#[100, 116, 110, 58]⟩ : ByteArray)] : List ByteArray)) false 6 0 false (([(⟨0, (⟨#[]⟩ : ByteArray), (⟨#[]⟩ : ByteArray), 0, 0⟩ : S37)] : List (S37)))).bind fun t125 => ((route_Pass.f 5 9 ([] : List ByteArray) false 6 0 false (([(⟨0, (⟨#[]⟩ : ByteArray), (⟨#[]⟩ : ByteArray), 0, 0⟩ : S37)] : List (S37)))).bind fun t129 => (if t110 = 1 then (if t111 = true then (if t112 = 0 then (if t113 = 0 then (if t114 = true then (if t115 = 0 then (if t116 = 2 then (if t117 = true then (if t118 = 0 then (if t125 = 161 then (some (t129 == 162)) else (none)) else (none)) else (none)) else (none)) else (none)) else (none)) else (none)) else (none)) else (none)) else (none)))) = some r := H
  have A3 := Aside0.mk A30
  clear A30
  obtain ⟨y119, hy119⟩ : ∃ y_ : List ByteArray, y_ = (([(⟨#[100, 116, 110, 58]⟩ : ByteArray)] : List ByteArray)) := ⟨_, rfl⟩
  replace H : ((route_Pass.f 5 9 y119 false 6 0 false (([(⟨0, (⟨#[]⟩ : ByteArray), (⟨#[]⟩ : ByteArray), 0, 0⟩ : S37)] : List (S37)))).bind fun t125 => ((route_Pass.f 5 9 ([] : List ByteArray) false 6 0 false (([(⟨0, (⟨#[]⟩ : ByteArray), (⟨#[]⟩ : ByteArray), 0, 0⟩ : S37)] : List (S37)))).bind fun t129 => (if t110 = 1 then (if t111 = true then (if t112 = 0 then (if t113 = 0 then (if t114 = true then (if t115 = 0 then (if t116 = 2 then (if t117 = true then (if t118 = 0 then (if t125 = 161 then (some (t129 == 162)) else (none)) else (none)) else (none)) else (none)) else (none)) else (none)) else (none)) else (none)) else (none)) else (none)))) = some r := by first | (rw [hy119]; with_reducible exact H) | (have H2_ := (Option.bind_some _ _).symm.trans H; rw [hy119]; with_reducible exact H2_) | (have H2_ := (Option.bind_some _ _).symm.trans H; with_reducible exact H2_) | with_reducible exact H | (rw [hy119]; exact H) | exact H
  have Ny119 := Aside0.mk hy119
  clear hy119
  obtain ⟨y122, hy122⟩ : ∃ y_ : List (S37), y_ = (([(⟨0, (⟨#[]⟩ : ByteArray), (⟨#[]⟩ : ByteArray), 0, 0⟩ : S37)] : List (S37))) := ⟨_, rfl⟩
  replace H : ((route_Pass.f 5 9 y119 false 6 0 false y122).bind fun t125 => ((route_Pass.f 5 9 ([] : List ByteArray) false 6 0 false (([(⟨0, (⟨#[]⟩ : ByteArray), (⟨#[]⟩ : ByteArray), 0, 0⟩ : S37)] : List (S37)))).bind fun t129 => (if t110 = 1 then (if t111 = true then (if t112 = 0 then (if t113 = 0 then (if t114 = true then (if t115 = 0 then (if t116 = 2 then (if t117 = true then (if t118 = 0 then (if t125 = 161 then (some (t129 == 162)) else (none)) else (none)) else (none)) else (none)) else (none)) else (none)) else (none)) else (none)) else (none)) else (none)))) = some r := by first | (rw [hy122]; with_reducible exact H) | (have H2_ := (Option.bind_some _ _).symm.trans H; rw [hy122]; with_reducible exact H2_) | (have H2_ := (Option.bind_some _ _).symm.trans H; with_reducible exact H2_) | with_reducible exact H | (rw [hy122]; exact H) | exact H
  have Ny122 := Aside0.mk hy122
  clear hy122
  replace H := Option.bind_eq_some_iff.mp H
  obtain ⟨t125, A40, H⟩ := H
  replace H : ((route_Pass.f 5 9 ([] : List ByteArray) false 6 0 false (([(⟨0, (⟨#[]⟩ : ByteArray), (⟨#[]⟩ : ByteArray), 0, 0⟩ : S37)] : List (S37)))).bind fun t129 => (if t110 = 1 then (if t111 = true then (if t112 = 0 then (if t113 = 0 then (if t114 = true then (if t115 = 0 then (if t116 = 2 then (if t117 = true then (if t118 = 0 then (if t125 = 161 then (some (t129 == 162)) else (none)) else (none)) else (none)) else (none)) else (none)) else (none)) else (none)) else (none)) else (none)) else (none))) = some r := H
  have A4 := Aside0.mk A40
  clear A40
  obtain ⟨y126, hy126⟩ : ∃ y_ : List (S37), y_ = (([(⟨0, (⟨#[]⟩ : ByteArray), (⟨#[]⟩ : ByteArray), 0, 0⟩ : S37)] : List (S37))) := ⟨_, rfl⟩
  replace H : ((route_Pass.f 5 9 ([] : List ByteArray) false 6 0 false y126).bind fun t129 => (if t110 = 1 then (if t111 = true then (if t112 = 0 then (if t113 = 0 then (if t114 = true then (if t115 = 0 then (if t116 = 2 then (if t117 = true then (if t118 = 0 then (if t125 = 161 then (some (t129 == 162)) else (none)) else (none)) else (none)) else (none)) else (none)) else (none)) else (none)) else (none)) else (none)) else (none))) = some r := by first | (rw [hy126]; with_reducible exact H) | (have H2_ := (Option.bind_some _ _).symm.trans H; rw [hy126]; with_reducible exact H2_) | (have H2_ := (Option.bind_some _ _).symm.trans H; with_reducible exact H2_) | with_reducible exact H | (rw [hy126]; exact H) | exact H
  have Ny126 := Aside0.mk hy126
  clear hy126
  replace H := Option.bind_eq_some_iff.mp H
  obtain ⟨t129, A50, H⟩ := H
  replace H : (if t110 = 1 then (if t111 = true then (if t112 = 0 then (if t113 = 0 then (if t114 = true then (if t115 = 0 then (if t116 = 2 then (if t117 = true then (if t118 = 0 then (if t125 = 161 then (some (t129 == 162)) else (none)) else (none)) else (none)) else (none)) else (none)) else (none)) else (none)) else (none)) else (none)) else (none)) = some r := H
  have A5 := Aside0.mk A50
  clear A50
  by_cases c6 : t110 = 1
  · rw [if_pos c6] at H
    have c6b0 : (t110 == 1) = true := beq_iff_eq.mpr c6
    have c6b1 : (t110 != 1) = false := bne_eq_false_iff_eq.mpr c6
    clear c6
    by_cases c7 : t111 = true
    · subst c7
      have H1 : (if t112 = 0 then (if t113 = 0 then (if t114 = true then (if t115 = 0 then (if t116 = 2 then (if t117 = true then (if t118 = 0 then (if t125 = 161 then (some (t129 == 162)) else (none)) else (none)) else (none)) else (none)) else (none)) else (none)) else (none)) else (none)) = some r := by rw [if_pos rfl] at H; exact H
      clear H
      have H := H1
      clear H1
      by_cases c8 : t112 = 0
      · rw [if_pos c8] at H
        have c8b0 : (t112 == 0) = true := beq_iff_eq.mpr c8
        have c8b1 : (t112 != 0) = false := bne_eq_false_iff_eq.mpr c8
        clear c8
        by_cases c9 : t113 = 0
        · rw [if_pos c9] at H
          have c9b0 : (t113 == 0) = true := beq_iff_eq.mpr c9
          have c9b1 : (t113 != 0) = false := bne_eq_false_iff_eq.mpr c9
          clear c9
          by_cases c10 : t114 = true
          · subst c10
            have H1 : (if t115 = 0 then (if t116 = 2 then (if t117 = true then (if t118 = 0 then (if t125 = 161 then (some (t129 == 162)) else (none)) else (none)) else (none)) else (none)) else (none)) = some r := by rw [if_pos rfl] at H; exact H
            clear H
            have H := H1
            clear H1
            by_cases c11 : t115 = 0
            · rw [if_pos c11] at H
              have c11b0 : (t115 == 0) = true := beq_iff_eq.mpr c11
              have c11b1 : (t115 != 0) = false := bne_eq_false_iff_eq.mpr c11
              clear c11
              by_cases c12 : t116 = 2
              · rw [if_pos c12] at H
                have c12b0 : (t116 == 2) = true := beq_iff_eq.mpr c12
                have c12b1 : (t116 != 2) = false := bne_eq_false_iff_eq.mpr c12
                clear c12
                by_cases c13 : t117 = true
                · subst c13
                  have H1 : (if t118 = 0 then (if t125 = 161 then (some (t129 == 162)) else (none)) else (none)) = some r := by rw [if_pos rfl] at H; exact H
                  clear H
                  have H := H1
                  clear H1
                  by_cases c14 : t118 = 0
                  · rw [if_pos c14] at H
                    have c14b0 : (t118 == 0) = true := beq_iff_eq.mpr c14
                    have c14b1 : (t118 != 0) = false := bne_eq_false_iff_eq.mpr c14
                    clear c14
                    by_cases c15 : t125 = 161
                    · rw [if_pos c15] at H
                      have c15b0 : (t125 == 161) = true := beq_iff_eq.mpr c15
                      have c15b1 : (t125 != 161) = false := bne_eq_false_iff_eq.mpr c15
                      clear c15
                      obtain rfl := Option.some.inj H
                      go_enter Tryz.func10, Tryz.ntmps10
                      go_wp2_with (first | ((with_reducible refine gate_dst (N := 16) rfl ?_); refine Kd.R_lit k35 _ 35 ?hg (N := 16) ?hd (xs := ([(⟨(⟨#[105, 112, 110, 58, 52]⟩ : ByteArray), 6⟩ : S35), (⟨(⟨#[105, 112, 110, 58, 52, 46]⟩ : ByteArray), 7⟩ : S35), (⟨(⟨#[]⟩ : ByteArray), 6⟩ : S35)] : List (S35))) (inner := [.string (⟨#[105, 112, 110, 58, 52]⟩ : ByteArray), .int .i64 6, .string (⟨#[105, 112, 110, 58, 52, 46]⟩ : ByteArray), .int .i64 7, .string (⟨#[]⟩ : ByteArray), .int .i64 6]) (ok := fun _ => True) (okp := fun _ => True) ?hr ?hp (fun _ hk => hk) trivial (Below.refl _ _) (Nat.le_refl _) (by simp) ?_; (case hd => rfl); (case hg => rfl); (case hr => first | (go_simp; done) | (go_simp; rfl) | (go_simp; simp only [isEmpty_ne, isEmpty_eq]; done) | (go_simp; simp only [isEmpty_ne, isEmpty_eq]; rfl)); (case hp => exact (Reps.c2 (show Kd.M k35 _ _ _ (⟨(⟨#[105, 112, 110, 58, 52]⟩ : ByteArray), 6⟩ : S35) [.string (⟨#[105, 112, 110, 58, 52]⟩ : ByteArray), .int .i64 6] from (k35_mkM _ _ _ (⟨(⟨#[105, 112, 110, 58, 52]⟩ : ByteArray), 6⟩ : S35) )) (Reps.c2 (show Kd.M k35 _ _ _ (⟨(⟨#[105, 112, 110, 58, 52, 46]⟩ : ByteArray), 7⟩ : S35) [.string (⟨#[105, 112, 110, 58, 52, 46]⟩ : ByteArray), .int .i64 7] from (k35_mkM _ _ _ (⟨(⟨#[105, 112, 110, 58, 52, 46]⟩ : ByteArray), 7⟩ : S35) )) (Reps.c2 (show Kd.M k35 _ _ _ (⟨(⟨#[]⟩ : ByteArray), 6⟩ : S35) [.string (⟨#[]⟩ : ByteArray), .int .i64 6] from (k35_mkM _ _ _ (⟨(⟨#[]⟩ : ByteArray), 6⟩ : S35) )) (Reps.none _ _))))); intro v108 w16 ho17 hb hg_ hnew_; clear hg_ hnew_; (first | rw [← Ny107.out] at ho17 | (simp only [Int.reduceToNat] at ho17; rw [← Ny107.out] at ho17)); have n0_ := Aside0.mk (Kd.R_lower ho17 (below_size (by repeat (first | (with_reducible first | exact HB.out | apply below_alloc | apply pw_below_drewN | apply below_drew1) | exact HB.out)))); have n1_ := Aside0.mk (below_step (by repeat (first | (with_reducible first | exact HB.out | apply below_alloc | apply pw_below_drewN | apply below_drew1) | exact HB.out)) hb); clear HB; have HO109 := n0_; have HB := n1_; clear n0_ n1_; clear hb ho17; obtain ⟨Ao18, co18, eo18⟩ := Kd.R_slice HO109.out; subst eo18) | ((with_reducible refine gate_callee (f := 19) rfl ?_); refine goesL_ (some 20) rfl rfl Tryz.func19 (by kernel_rfl) rfl #[.slice Ao18 y107.length co18, .agg #[.int .i64 2, .string (⟨#[]⟩ : ByteArray), .string (⟨#[]⟩ : ByteArray), .int .i64 4, .int .i64 7]] rfl (by (try simp only [List.map_toArray, List.map_cons, List.map_nil]); first | done | rfl | (simp only [List.length_drop, List.length_take]; rfl)) ?_; (with_reducible refine (route_Find.calls _ _ y107 2 (⟨#[]⟩ : ByteArray) (⟨#[]⟩ : ByteArray) 4 7 t110 true t112 _ ?side1 ?side2 ?side3 A1.out).mono ?_); (case side1 => repeat (first | exact (Kd.R_reads' HO109.out).2.2 | (with_reducible refine Kd.C_alloc ?_ _) | (with_reducible refine Kd.C_drewN ?_ _) | (with_reducible refine Kd.C_drew ?_))); (case side2 => exact (Kd.R_reads' HO109.out).2.1); (case side3 => exact LaidR.below HLD.out (by repeat (first | (with_reducible first | exact HB.out | apply below_alloc | apply pw_below_drewN | apply below_drew1) | exact HB.out))); rintro e w19 ⟨rfl, hb⟩; refine ⟨_, rfl, ?_⟩; have n0_ := Aside0.mk (Kd.R_below (by (with_reducible repeat (first | apply Kd.R_alloc | apply Kd.R_drewN | apply Kd.R_drew)); exact HO109.out) hb); have n1_ := Aside0.mk (below_step (by repeat (first | (with_reducible first | exact HB.out | apply below_alloc | apply pw_below_drewN | apply below_drew1) | exact HB.out)) hb); clear HO109; clear HB; have HO109 := n0_; have HB := n1_; clear n0_ n1_; (try clear hb); (try clear hb2); (try clear hk); (try clear hi)) | ((with_reducible refine gate_callee (f := 19) rfl ?_); refine goesL_ (some 27) rfl rfl Tryz.func19 (by kernel_rfl) rfl #[.slice Ao18 y107.length co18, .agg #[.int .i64 2, .string (⟨#[]⟩ : ByteArray), .string (⟨#[]⟩ : ByteArray), .int .i64 42, .int .i64 0]] rfl (by (try simp only [List.map_toArray, List.map_cons, List.map_nil]); first | done | rfl | (simp only [List.length_drop, List.length_take]; rfl)) ?_; (with_reducible refine (route_Find.calls _ _ y107 2 (⟨#[]⟩ : ByteArray) (⟨#[]⟩ : ByteArray) 42 0 t113 true t115 _ ?side1 ?side2 ?side3 A2.out).mono ?_); (case side1 => repeat (first | exact (Kd.R_reads' HO109.out).2.2 | (with_reducible refine Kd.C_alloc ?_ _) | (with_reducible refine Kd.C_drewN ?_ _) | (with_reducible refine Kd.C_drew ?_))); (case side2 => exact (Kd.R_reads' HO109.out).2.1); (case side3 => exact LaidR.below HLD.out (by repeat (first | (with_reducible first | exact HB.out | apply below_alloc | apply pw_below_drewN | apply below_drew1) | exact HB.out))); rintro e w20 ⟨rfl, hb⟩; refine ⟨_, rfl, ?_⟩; have n0_ := Aside0.mk (Kd.R_below (by (with_reducible repeat (first | apply Kd.R_alloc | apply Kd.R_drewN | apply Kd.R_drew)); exact HO109.out) hb); have n1_ := Aside0.mk (below_step (by repeat (first | (with_reducible first | exact HB.out | apply below_alloc | apply pw_below_drewN | apply below_drew1) | exact HB.out)) hb); clear HO109; clear HB; have HO109 := n0_; have HB := n1_; clear n0_ n1_; (try clear hb); (try clear hb2); (try clear hk); (try clear hi)) | ((with_reducible refine gate_callee (f := 19) rfl ?_); refine goesL_ (some 34) rfl rfl Tryz.func19 (by kernel_rfl) rfl #[.slice Ao18 y107.length co18, .agg #[.int .i64 0, .string (⟨#[]⟩ : ByteArray), .string (⟨#[]⟩ : ByteArray), .int .i64 0, .int .i64 0]] rfl (by (try simp only [List.map_toArray, List.map_cons, List.map_nil]); first | done | rfl | (simp only [List.length_drop, List.length_take]; rfl)) ?_; (with_reducible refine (route_Find.calls _ _ y107 0 (⟨#[]⟩ : ByteArray) (⟨#[]⟩ : ByteArray) 0 0 t116 true t118 _ ?side1 ?side2 ?side3 A3.out).mono ?_); (case side1 => repeat (first | exact (Kd.R_reads' HO109.out).2.2 | (with_reducible refine Kd.C_alloc ?_ _) | (with_reducible refine Kd.C_drewN ?_ _) | (with_reducible refine Kd.C_drew ?_))); (case side2 => exact (Kd.R_reads' HO109.out).2.1); (case side3 => exact LaidR.below HLD.out (by repeat (first | (with_reducible first | exact HB.out | apply below_alloc | apply pw_below_drewN | apply below_drew1) | exact HB.out))); rintro e w21 ⟨rfl, hb⟩; refine ⟨_, rfl, ?_⟩; have n0_ := Aside0.mk (Kd.R_below (by (with_reducible repeat (first | apply Kd.R_alloc | apply Kd.R_drewN | apply Kd.R_drew)); exact HO109.out) hb); have n1_ := Aside0.mk (below_step (by repeat (first | (with_reducible first | exact HB.out | apply below_alloc | apply pw_below_drewN | apply below_drew1) | exact HB.out)) hb); clear HO109; clear HB; have HO109 := n0_; have HB := n1_; clear n0_ n1_; (try clear hb); (try clear hb2); (try clear hk); (try clear hi)) | ((with_reducible refine gate_dst (N := 38) rfl ?_); refine Kd.R_lit Kd.string _ 9 ?hg (N := 38) ?hd (xs := ([(⟨#[100, 116, 110, 58]⟩ : ByteArray)] : List ByteArray)) (inner := [.string (⟨#[100, 116, 110, 58]⟩ : ByteArray)]) (ok := fun _ => True) (okp := fun _ => True) ?hr ?hp (fun _ hk => hk) trivial (Below.refl _ _) (Nat.le_refl _) (by simp) ?_; (case hd => rfl); (case hg => rfl); (case hr => first | (go_simp; done) | (go_simp; rfl) | (go_simp; simp only [isEmpty_ne, isEmpty_eq]; done) | (go_simp; simp only [isEmpty_ne, isEmpty_eq]; rfl)); (case hp => exact (Reps.one (show Kd.M Kd.string _ _ _ (⟨#[100, 116, 110, 58]⟩ : ByteArray) [.string (⟨#[100, 116, 110, 58]⟩ : ByteArray)] from rfl) (Reps.none _ _))); intro v120 w22 ho23 hb hg_ hnew_; clear hg_ hnew_; (first | rw [← Ny119.out] at ho23 | (simp only [Int.reduceToNat] at ho23; rw [← Ny119.out] at ho23)); have n0_ := Aside0.mk (Kd.R_below (by (with_reducible repeat (first | apply Kd.R_alloc | apply Kd.R_drewN | apply Kd.R_drew)); exact HO109.out) hb); have n1_ := Aside0.mk (Kd.R_lower ho23 (below_size (by repeat (first | (with_reducible first | exact HB.out | apply below_alloc | apply pw_below_drewN | apply below_drew1) | exact HB.out)))); have n2_ := Aside0.mk (below_step (by repeat (first | (with_reducible first | exact HB.out | apply below_alloc | apply pw_below_drewN | apply below_drew1) | exact HB.out)) hb); clear HO109; clear HB; have HO109 := n0_; have HO121 := n1_; have HB := n2_; clear n0_ n1_ n2_; clear hb ho23; obtain ⟨Ao24, co24, eo24⟩ := Kd.R_slice HO121.out; subst eo24) | ((with_reducible refine gate_dst (N := 41) rfl ?_); refine Kd.R_lit k37 _ 37 ?hg (N := 41) ?hd (xs := ([(⟨0, (⟨#[]⟩ : ByteArray), (⟨#[]⟩ : ByteArray), 0, 0⟩ : S37)] : List (S37))) (inner := [.int .i64 0, .string (⟨#[]⟩ : ByteArray), .string (⟨#[]⟩ : ByteArray), .int .i64 0, .int .i64 0]) (ok := fun _ => True) (okp := fun _ => True) ?hr ?hp (fun _ hk => hk) trivial (Below.refl _ _) (Nat.le_refl _) (by simp) ?_; (case hd => rfl); (case hg => rfl); (case hr => first | (go_simp; done) | (go_simp; rfl) | (go_simp; simp only [isEmpty_ne, isEmpty_eq]; done) | (go_simp; simp only [isEmpty_ne, isEmpty_eq]; rfl)); (case hp => exact (Reps.c5 (show Kd.M k37 _ _ _ (⟨0, (⟨#[]⟩ : ByteArray), (⟨#[]⟩ : ByteArray), 0, 0⟩ : S37) [.int .i64 0, .string (⟨#[]⟩ : ByteArray), .string (⟨#[]⟩ : ByteArray), .int .i64 0, .int .i64 0] from (k37_mkM _ _ _ (⟨0, (⟨#[]⟩ : ByteArray), (⟨#[]⟩ : ByteArray), 0, 0⟩ : S37) )) (Reps.none _ _))); intro v123 w25 ho26 hb hg_ hnew_; clear hg_ hnew_; (first | rw [← Ny122.out] at ho26 | (simp only [Int.reduceToNat] at ho26; rw [← Ny122.out] at ho26)); have n0_ := Aside0.mk (Kd.R_below (by (with_reducible repeat (first | apply Kd.R_alloc | apply Kd.R_drewN | apply Kd.R_drew)); exact HO109.out) hb); have n1_ := Aside0.mk (Kd.R_below (by (with_reducible repeat (first | apply Kd.R_alloc | apply Kd.R_drewN | apply Kd.R_drew)); exact HO121.out) hb); have n2_ := Aside0.mk (Kd.R_lower ho26 (below_size (by repeat (first | (with_reducible first | exact HB.out | apply below_alloc | apply pw_below_drewN | apply below_drew1) | exact HB.out)))); have n3_ := Aside0.mk (below_step (by repeat (first | (with_reducible first | exact HB.out | apply below_alloc | apply pw_below_drewN | apply below_drew1) | exact HB.out)) hb); clear HO109; clear HO121; clear HB; have HO109 := n0_; have HO121 := n1_; have HO124 := n2_; have HB := n3_; clear n0_ n1_ n2_ n3_; clear hb ho26; obtain ⟨Ao27, co27, eo27⟩ := Kd.R_slice HO124.out; subst eo27) | ((with_reducible refine gate_callee (f := 15) rfl ?_); refine goesL_ (some 42) rfl rfl Tryz.func15 (by kernel_rfl) rfl #[.agg #[.int .i64 5, .int .i64 9, .slice Ao24 y119.length co24, .bool false], .int .i64 6, .int .i64 0, .bool false, .slice Ao27 y122.length co27] rfl (by (try simp only [List.map_toArray, List.map_cons, List.map_nil]); first | done | rfl | (simp only [List.length_drop, List.length_take]; rfl)) ?_; (with_reducible refine (route_Pass.calls 5 9 _ _ y119 false 6 0 false _ _ y122 t125 _ ?side1 ?side2 ?side3 ?side4 ?side5 A4.out).mono ?_); (case side1 => repeat (first | exact (Kd.R_reads' HO121.out).2.2 | (with_reducible refine Kd.C_alloc ?_ _) | (with_reducible refine Kd.C_drewN ?_ _) | (with_reducible refine Kd.C_drew ?_))); (case side2 => exact (Kd.R_reads' HO121.out).2.1); (case side3 => repeat (first | exact (Kd.R_reads' HO124.out).2.2 | (with_reducible refine Kd.C_alloc ?_ _) | (with_reducible refine Kd.C_drewN ?_ _) | (with_reducible refine Kd.C_drew ?_))); (case side4 => exact (Kd.R_reads' HO124.out).2.1); (case side5 => exact LaidR.below HLD.out (by repeat (first | (with_reducible first | exact HB.out | apply below_alloc | apply pw_below_drewN | apply below_drew1) | exact HB.out))); rintro e w28 ⟨rfl, hb⟩; refine ⟨_, rfl, ?_⟩; have n0_ := Aside0.mk (Kd.R_below (by (with_reducible repeat (first | apply Kd.R_alloc | apply Kd.R_drewN | apply Kd.R_drew)); exact HO109.out) hb); have n1_ := Aside0.mk (Kd.R_below (by (with_reducible repeat (first | apply Kd.R_alloc | apply Kd.R_drewN | apply Kd.R_drew)); exact HO121.out) hb); have n2_ := Aside0.mk (Kd.R_below (by (with_reducible repeat (first | apply Kd.R_alloc | apply Kd.R_drewN | apply Kd.R_drew)); exact HO124.out) hb); have n3_ := Aside0.mk (below_step (by repeat (first | (with_reducible first | exact HB.out | apply below_alloc | apply pw_below_drewN | apply below_drew1) | exact HB.out)) hb); clear HO109; clear HO121; clear HO124; clear HB; have HO109 := n0_; have HO121 := n1_; have HO124 := n2_; have HB := n3_; clear n0_ n1_ n2_ n3_; (try clear hb); (try clear hb2); (try clear hk); (try clear hi)) | ((with_reducible refine gate_dst (N := 45) rfl ?_); refine Kd.R_lit k37 _ 37 ?hg (N := 45) ?hd (xs := ([(⟨0, (⟨#[]⟩ : ByteArray), (⟨#[]⟩ : ByteArray), 0, 0⟩ : S37)] : List (S37))) (inner := [.int .i64 0, .string (⟨#[]⟩ : ByteArray), .string (⟨#[]⟩ : ByteArray), .int .i64 0, .int .i64 0]) (ok := fun _ => True) (okp := fun _ => True) ?hr ?hp (fun _ hk => hk) trivial (Below.refl _ _) (Nat.le_refl _) (by simp) ?_; (case hd => rfl); (case hg => rfl); (case hr => first | (go_simp; done) | (go_simp; rfl) | (go_simp; simp only [isEmpty_ne, isEmpty_eq]; done) | (go_simp; simp only [isEmpty_ne, isEmpty_eq]; rfl)); (case hp => exact (Reps.c5 (show Kd.M k37 _ _ _ (⟨0, (⟨#[]⟩ : ByteArray), (⟨#[]⟩ : ByteArray), 0, 0⟩ : S37) [.int .i64 0, .string (⟨#[]⟩ : ByteArray), .string (⟨#[]⟩ : ByteArray), .int .i64 0, .int .i64 0] from (k37_mkM _ _ _ (⟨0, (⟨#[]⟩ : ByteArray), (⟨#[]⟩ : ByteArray), 0, 0⟩ : S37) )) (Reps.none _ _))); intro v127 w29 ho30 hb hg_ hnew_; clear hg_ hnew_; (first | rw [← Ny126.out] at ho30 | (simp only [Int.reduceToNat] at ho30; rw [← Ny126.out] at ho30)); have n0_ := Aside0.mk (Kd.R_below (by (with_reducible repeat (first | apply Kd.R_alloc | apply Kd.R_drewN | apply Kd.R_drew)); exact HO109.out) hb); have n1_ := Aside0.mk (Kd.R_below (by (with_reducible repeat (first | apply Kd.R_alloc | apply Kd.R_drewN | apply Kd.R_drew)); exact HO121.out) hb); have n2_ := Aside0.mk (Kd.R_elder' (by (with_reducible repeat (first | apply Kd.R_alloc | apply Kd.R_drewN | apply Kd.R_drew)); exact HO124.out) (Kd.R_base ho30) hb); have n3_ := Aside0.mk (Kd.R_lower (Kd.R_new' ho30 (Kd.R_lt (by (with_reducible repeat (first | apply Kd.R_alloc | apply Kd.R_drewN | apply Kd.R_drew)); exact HO124.out))) (below_size (by repeat (first | (with_reducible first | exact HB.out | apply below_alloc | apply pw_below_drewN | apply below_drew1) | exact HB.out)))); have n4_ := Aside0.mk (below_step (by repeat (first | (with_reducible first | exact HB.out | apply below_alloc | apply pw_below_drewN | apply below_drew1) | exact HB.out)) hb); clear HO109; clear HO121; clear HO124; clear HB; have HO109 := n0_; have HO121 := n1_; have HO124 := n2_; have HO128 := n3_; have HB := n4_; clear n0_ n1_ n2_ n3_ n4_; clear hb ho30; obtain ⟨Ao31, co31, eo31⟩ := Kd.R_slice HO128.out; subst eo31) | ((with_reducible refine gate_callee (f := 15) rfl ?_); refine goesL_ (some 46) rfl rfl Tryz.func15 (by kernel_rfl) rfl #[.agg #[.int .i64 5, .int .i64 9, .slice none 0 0, .bool false], .int .i64 6, .int .i64 0, .bool false, .slice Ao31 y126.length co31] rfl (by (try simp only [List.map_toArray, List.map_cons, List.map_nil]); first | done | rfl | (simp only [List.length_drop, List.length_take]; rfl)) ?_; (refine (route_Pass.calls 5 9 _ _ ([] : List ByteArray) false 6 0 false _ _ y126 t129 _ ?side1 ?side2 ?side3 ?side4 ?side5 A5.out).mono ?_); (case side1 => exact Kd.C_nil _ _); (case side2 => exact Nat.le_refl _); (case side3 => repeat (first | exact (Kd.R_reads' HO128.out).2.2 | (with_reducible refine Kd.C_alloc ?_ _) | (with_reducible refine Kd.C_drewN ?_ _) | (with_reducible refine Kd.C_drew ?_))); (case side4 => exact (Kd.R_reads' HO128.out).2.1); (case side5 => exact LaidR.below HLD.out (by repeat (first | (with_reducible first | exact HB.out | apply below_alloc | apply pw_below_drewN | apply below_drew1) | exact HB.out))); rintro e w32 ⟨rfl, hb⟩; refine ⟨_, rfl, ?_⟩; have n0_ := Aside0.mk (Kd.R_below (by (with_reducible repeat (first | apply Kd.R_alloc | apply Kd.R_drewN | apply Kd.R_drew)); exact HO109.out) hb); have n1_ := Aside0.mk (Kd.R_below (by (with_reducible repeat (first | apply Kd.R_alloc | apply Kd.R_drewN | apply Kd.R_drew)); exact HO121.out) hb); have n2_ := Aside0.mk (Kd.R_below (by (with_reducible repeat (first | apply Kd.R_alloc | apply Kd.R_drewN | apply Kd.R_drew)); exact HO124.out) hb); have n3_ := Aside0.mk (Kd.R_below (by (with_reducible repeat (first | apply Kd.R_alloc | apply Kd.R_drewN | apply Kd.R_drew)); exact HO128.out) hb); have n4_ := Aside0.mk (below_step (by repeat (first | (with_reducible first | exact HB.out | apply below_alloc | apply pw_below_drewN | apply below_drew1) | exact HB.out)) hb); clear HO109; clear HO121; clear HO124; clear HO128; clear HB; have HO109 := n0_; have HO121 := n1_; have HO124 := n2_; have HO128 := n3_; have HB := n4_; clear n0_ n1_ n2_ n3_ n4_; (try clear hb); (try clear hb2); (try clear hk); (try clear hi)))
                      all_goals (first | (go_ret; exact ⟨by first | rfl | (simp [errW_none, errW_some] <;> rfl) | (simp [*, errW_none, errW_some] <;> rfl) | (simp_all; done) | fail, by repeat (first | (with_reducible first | exact HB.out | apply below_alloc | apply pw_below_drewN | apply below_drew1) | exact HB.out)⟩) | (exfalso; simp_all; done) | (exfalso; simp only [isEmpty_eq, isEmpty_ne] at *; simp_all; done) | (exfalso; exact isEmpty_clash (by assumption) (by assumption)) | (exfalso; exact isEmpty_clash' (by assumption) (by assumption)) | (exfalso; exact isEmpty_clash2 (by assumption) (by assumption)))
                    · rw [if_neg c15] at H
                      exact absurd H (by simp)
                  · rw [if_neg c14] at H
                    exact absurd H (by simp)
                · replace c13 := Bool.eq_false_iff.mpr c13
                  subst c13
                  have H1 : (none) = some r := by rw [if_neg (show ¬ (false = true) by decide)] at H; exact H
                  clear H
                  have H := H1
                  clear H1
                  exact absurd H (by simp)
              · rw [if_neg c12] at H
                exact absurd H (by simp)
            · rw [if_neg c11] at H
              exact absurd H (by simp)
          · replace c10 := Bool.eq_false_iff.mpr c10
            subst c10
            have H1 : (none) = some r := by rw [if_neg (show ¬ (false = true) by decide)] at H; exact H
            clear H
            have H := H1
            clear H1
            exact absurd H (by simp)
        · rw [if_neg c9] at H
          exact absurd H (by simp)
      · rw [if_neg c8] at H
        exact absurd H (by simp)
    · replace c7 := Bool.eq_false_iff.mpr c7
      subst c7
      have H1 : (none) = some r := by rw [if_neg (show ¬ (false = true) by decide)] at H; exact H
      clear H
      have H := H1
      clear H1
      exact absurd H (by simp)
  · rw [if_neg c6] at H
    exact absurd H (by simp)
end Go.Proofs.YtaknknfcikdjiaaGreatDoor.RF
end
section
namespace Go.Proofs.YtaknknfcikdjiaaGreatDoor.Hand
open Go.RowKit Go.Proofs.YtaknknfcikdjiaaGreatDoorW Go.Proofs.YtaknknfcikdjiaaGreatDoorW.PrintWords Go.Proofs.YtaknknfcikdjiaaGreatDoor.SA Go.Proofs.YtaknknfcikdjiaaGreatDoor.RK Go.Proofs.YtaknknfcikdjiaaGreatDoor.RF
theorem shown_true : postriderlaw16_shown.f = some true := by decide +kernel
theorem wrap_up (i : Nat) (h : i ≤ 1000000) : wrap64 ((i : Int) + 1) = ((i + 1 : Nat) : Int) := by unfold wrap64; omega
def cutRt (x : Rt) : Rt := ⟨x.f0.extract 0 (mn x.f0.size 61).toNat, x.f1⟩
def cutR (l : List Rt) : List Rt := (l.take 22).map cutRt
theorem rd_Rt {l : List Rt} {i : Nat} (h : i < l.length) : rd_T35 l (i : Int) = l[i] := by
  unfold rd_T35
  rw [Int.toNat_natCast, List.getD_eq_getElem?_getD, List.getElem?_eq_getElem h]
  rfl
theorem cutR_from (l : List Rt) : ∀ (d k i : Nat) (acc : List Rt), (l.take 22).length - i = d → i ≤ (l.take 22).length → d < k → acc.length = i → postriderlaw16_Cut.l0 k l acc (i : Int) = some (acc ++ ((l.take 22).drop i).map cutRt) := by
  intro d
  induction d with
  | zero =>
    intro k i acc hd hi hk ha
    obtain ⟨k, rfl⟩ : ∃ m, k = m + 1 := ⟨k - 1, by omega⟩
    rw [List.drop_eq_nil_of_le (by omega), List.map_nil, List.append_nil]
    simp only [postriderlaw16_Cut.l0]
    rw [List.length_take] at hd hi
    by_cases h : (i : Int) < (l.length : Int)
    · rw [if_pos h, if_neg (by omega)]
    · rw [if_neg h]
  | succ d ih =>
    intro k i acc hd hi hk ha
    obtain ⟨k, rfl⟩ : ∃ m, k = m + 1 := ⟨k - 1, by omega⟩
    have hlt : i < (l.take 22).length := by omega
    have hl : i < l.length ∧ i < 22 := by rw [List.length_take] at hlt; omega
    simp only [postriderlaw16_Cut.l0]
    rw [rd_Rt hl.1]
    obtain ⟨h1, h2, h3⟩ := mn_len (l[i]'hl.1).f0.size 61 (by decide)
    rw [if_pos (by omega), if_pos (by omega), if_pos (by omega), if_pos h1, if_pos h2, if_pos (by omega), wrap_up i (by omega), ih k (i + 1) _ (by omega) (by omega) (by omega) (by simp [ha])]
    rw [List.append_assoc]
    congr 1
    rw [List.drop_eq_getElem_cons hlt, List.map_cons]
    have e : (l.take 22)[i] = l[i]'hl.1 := List.getElem_take
    rw [e]
    rfl
theorem CutR_is (l : List Rt) (k : Nat) (hk : 30 ≤ k) : postriderlaw16_Cut.f k l = some (cutR l) := by
  unfold postriderlaw16_Cut.f
  have := cutR_from l _ k 0 [] rfl (Nat.zero_le _) (by rw [List.length_take]; omega) rfl
  simpa [cutR] using this
theorem cutR_len (l : List Rt) : (cutR l).length ≤ 22 := by
  unfold cutR
  rw [List.length_map, List.length_take]
  omega
def findT (l : List Rt) (n : Int) (a1 a2 : ByteArray) (a3 a4 : Int) : Int × Bool × Int :=
  match (allT l n a1 a2 a3 a4).1 with
  | [] => (0, false, (allT l n a1 a2 a3 a4).2)
  | a :: _ => (a, true, 0)
theorem All_is (l : List Rt) (n : Int) (a1 a2 : ByteArray) (a3 a4 : Int) (h1 : a1.size ≤ 21) (h2 : a2.size ≤ 21) : route_All.f l n a1 a2 a3 a4 = some (allT l n a1 a2 a3 a4) := by
  unfold route_All.f
  rw [if_pos ⟨Nat.le_trans h1 (by decide), Nat.le_trans h2 (by decide)⟩]
theorem Find_is (l : List Rt) (n : Int) (a1 a2 : ByteArray) (a3 a4 : Int) (h1 : a1.size ≤ 21) (h2 : a2.size ≤ 21) : route_Find.f l n a1 a2 a3 a4 = some (findT l n a1 a2 a3 a4) := by
  unfold route_Find.f findT
  rw [All_is l n a1 a2 a3 a4 h1 h2]
  simp only [Option.bind_some]
  cases (allT l n a1 a2 a3 a4).1 with
  | nil => rfl
  | cons a r =>
    simp only [List.length_cons]
    rw [if_neg (by omega), if_pos (by omega)]
    rfl
theorem all_cases (l : List Rt) (n : Int) (a1 a2 : ByteArray) (a3 a4 : Int) :
    (allT l n a1 a2 a3 a4 = ([], 160) ∧ rightRt l = false) ∨ (allT l n a1 a2 a3 a4 = ([], 60) ∧ rightRt l = true ∧ rightS n a1 a2 a3 a4 = false ∧ printT n a1 a2 a3 a4 = (⟨#[]⟩, 60)) ∨
      ∃ s, rightRt l = true ∧ rightS n a1 a2 a3 a4 = true ∧ printT n a1 a2 a3 a4 = (s, 0) ∧ allT l n a1 a2 a3 a4 = (allP s.data.toList (pfx l), 0) := by
  unfold allT printT
  cases hr : rightRt l with
  | false => exact .inl ⟨rfl, rfl⟩
  | true =>
    refine .inr ?_
    cases hn : rightS n a1 a2 a3 a4 with
    | false => exact .inl ⟨rfl, rfl, rfl, rfl⟩
    | true => exact .inr ⟨_, rfl, rfl, rfl, rfl⟩
theorem right_sizes2 {l : List Rt} (h : rightRt l = true) : ∀ p ∈ pfx l, p.size < 61 := fun p hp => by
  unfold rightRt at h
  simp only [Bool.and_eq_true, Bool.not_eq_true'] at h
  obtain ⟨x, hx, rfl⟩ := List.mem_map.1 hp
  have := (List.any_eq_false.1 h.2) x hx
  unfold otherRt at this
  simp at this
  omega
theorem ba_len (a : ByteArray) : a.data.toList.length = a.size := Array.length_toList ..
theorem begins_is (s p : ByteArray) (h : (p.size : Int) ≤ (s.size : Int)) : ((s.extract 0 (mn (p.size : Int) (s.size : Int)).toNat).toList == p.toList) = p.data.toList.isPrefixOf s.data.toList := by
  have e : (mn (p.size : Int) (s.size : Int)).toNat = p.size := by unfold mn; split <;> omega
  rw [e, ByteArray.toList_eq, ByteArray.toList_eq, ByteArray.data_extract, Array.toList_extract, List.extract_eq_take_drop, List.drop_zero, Nat.sub_zero]
  rw [Bool.eq_iff_iff, beq_iff_eq, List.isPrefixOf_iff_prefix, List.prefix_iff_eq_take, ba_len]
  exact eq_comm
theorem begins_not (s p : ByteArray) (h : ¬ (p.size : Int) ≤ (s.size : Int)) : p.data.toList.isPrefixOf s.data.toList = false := by
  rw [Bool.eq_false_iff]
  intro hp
  have := (List.isPrefixOf_iff_prefix.1 hp).length_le
  rw [ba_len, ba_len] at this
  omega
end Go.Proofs.YtaknknfcikdjiaaGreatDoor.Hand
end
section
namespace Go.Proofs.YtaknknfcikdjiaaGreatDoor.Hand
open Go.RowKit Go.Proofs.YtaknknfcikdjiaaGreatDoorW Go.Proofs.YtaknknfcikdjiaaGreatDoorW.PrintWords Go.Proofs.YtaknknfcikdjiaaGreatDoor.SA Go.Proofs.YtaknknfcikdjiaaGreatDoor.RK Go.Proofs.YtaknknfcikdjiaaGreatDoor.RF
theorem drop_eq_iff {α : Type} (d : α) {x y : List α} {i : Nat} (hx : i < x.length) (hy : i < y.length) : (x.drop i = y.drop i) ↔ (x.getD i d = y.getD i d ∧ x.drop (i + 1) = y.drop (i + 1)) := by
  rw [List.drop_eq_getElem_cons hx, List.drop_eq_getElem_cons hy, List.cons.injEq]
  simp [List.getD_eq_getElem?_getD, hx, hy]
section
variable {x y : List Int}
theorem ints_from (hl : x.length = y.length) (hb : x.length ≤ 1000000) : ∀ (d k i : Nat), x.length - i = d → i ≤ x.length → d < k → postriderref02_Ints.l0 k x y (i : Int) = some (decide (x.drop i = y.drop i)) := by
  intro d
  induction d with
  | zero =>
    intro k i hd hi hk
    obtain ⟨k, rfl⟩ : ∃ m, k = m + 1 := ⟨k - 1, by omega⟩
    simp only [postriderref02_Ints.l0]
    rw [if_neg (by omega), List.drop_eq_nil_of_le (by omega), List.drop_eq_nil_of_le (by omega)]
    simp
  | succ d ih =>
    intro k i hd hi hk
    obtain ⟨k, rfl⟩ : ∃ m, k = m + 1 := ⟨k - 1, by omega⟩
    simp only [postriderref02_Ints.l0]
    rw [if_pos (by omega), if_pos (by omega), if_pos (by omega), wrap_up i (by omega), ih k (i + 1) (by omega) (by omega) (by omega)]
    have h := drop_eq_iff (0 : Int) (x := x) (y := y) (i := i) (by omega) (by omega)
    unfold rd
    rw [Int.toNat_natCast]
    by_cases e : x.getD i 0 = y.getD i 0
    · rw [if_pos e]
      congr 1
      rw [decide_eq_decide, h]
      exact ⟨fun q => ⟨e, q⟩, fun q => q.2⟩
    · rw [if_neg e]
      congr 1
      rw [eq_comm, decide_eq_false_iff_not, h]
      exact fun q => e q.1
theorem ints_is (x y : List Int) (k : Nat) (hb : x.length ≤ 1000000) (hk : x.length < k) : postriderref02_Ints.f k x y = some (decide (x = y)) := by
  unfold postriderref02_Ints.f
  by_cases hl : x.length = y.length
  · rw [if_pos (by omega)]
    have := ints_from hl hb x.length k 0 (by omega) (by omega) hk
    simpa using this
  · rw [if_neg (by omega)]
    congr 1
    rw [eq_comm, decide_eq_false_iff_not]
    exact fun e => hl (by rw [e])
end
end Go.Proofs.YtaknknfcikdjiaaGreatDoor.Hand
end
section
namespace Go.Proofs.YtaknknfcikdjiaaGreatDoor.Hand
open Go.RowKit Go.Proofs.YtaknknfcikdjiaaGreatDoorW Go.Proofs.YtaknknfcikdjiaaGreatDoorW.PrintWords Go.Proofs.YtaknknfcikdjiaaGreatDoor.SA Go.Proofs.YtaknknfcikdjiaaGreatDoor.RK Go.Proofs.YtaknknfcikdjiaaGreatDoor.RR
theorem other_is (x : Rt) : otherRt x = true ↔ (x.f0.size : Int) > 60 ∨ (¬ x.f1 = 6 ∧ ¬ x.f1 = 7) := by
  unfold otherRt isSideB
  simp
  omega
theorem right_from (l : List Rt) (hl : l.length ≤ 22) : ∀ (d k i : Nat), l.length - i = d → i ≤ l.length → d < k → postriderref16_Right.l0 k l (i : Int) = some (decide (l.length ≤ 20) && !(l.drop i).any otherRt) := by
  intro d
  induction d with
  | zero =>
    intro k i hd hi hk
    obtain ⟨k, rfl⟩ : ∃ m, k = m + 1 := ⟨k - 1, by omega⟩
    simp only [postriderref16_Right.l0]
    rw [if_neg (by omega), List.drop_eq_nil_of_le (by omega)]
    simp
    omega
  | succ d ih =>
    intro k i hd hi hk
    obtain ⟨k, rfl⟩ : ∃ m, k = m + 1 := ⟨k - 1, by omega⟩
    have hlt : i < l.length := by omega
    have h' := ih k (i + 1) (by omega) (by omega) (by omega)
    simp only [postriderref16_Right.l0]
    rw [if_pos (by omega), if_pos (by omega), rd_Rt hlt, wrap_up i (by omega), List.drop_eq_getElem_cons hlt, List.any_cons, h']
    have ho := other_is l[i]
    cases hq : otherRt l[i] with
    | true =>
      have h2 := ho.1 hq
      simp only [Bool.true_or, Bool.not_true, Bool.and_false]
      rcases h2 with h2 | ⟨h2, h3⟩
      · rw [if_pos h2]
      · by_cases h4 : (l[i].f0.size : Int) > 60
        · rw [if_pos h4]
        · rw [if_neg h4, if_neg h2, if_neg h3]
    | false =>
      have h2 := fun z => Bool.eq_false_iff.1 hq (ho.2 z)
      rw [if_neg (fun z => h2 (.inl z)), Bool.false_or]
      by_cases h6 : l[i].f1 = 6
      · rw [if_pos h6]
      · rw [if_neg h6, if_pos (by
          by_cases h7 : l[i].f1 = 7
          · exact h7
          · exact absurd (.inr ⟨h6, h7⟩) h2)]
theorem Right16_ref (k : Nat) (l : List Rt) (hl : l.length ≤ 22) (hk : 30 < k) : postriderref16_Right.f k l = some (rightRt l) := by
  unfold postriderref16_Right.f rightRt
  have := right_from l hl l.length k 0 rfl (Nat.zero_le _) (by omega)
  simpa using this
theorem begins_ref (a b : ByteArray) : postriderref16_begins.f a b = some (a.data.toList.isPrefixOf b.data.toList) := by
  unfold postriderref16_begins.f
  by_cases h : (a.size : Int) ≤ (b.size : Int)
  · rw [if_pos h, if_pos (by omega)]
    have := begins_is b a h
    rw [show (mn (a.size : Int) (b.size : Int)) = (a.size : Int) by unfold mn; split <;> omega] at this
    rw [← this]
  · rw [if_neg h, begins_not b a h]
theorem all_inner (l : List Rt) (s : ByteArray) (hl : l.length ≤ 22) (n M : Nat) (hn : n ≤ 60) (hM : M ≤ 2000) (R : List Int → List Int × Int)
    (hR : ∀ (k : Nat) (acc : List Int), acc.length ≤ M → 100 * n < k → postriderref16_All.l0 k l s acc ((n : Int) - 1) = some (R acc)) :
    ∀ (d k i : Nat) (acc : List Int), l.length - i = d → i ≤ l.length → acc.length + d ≤ M → d + 1 + 100 * n < k →
      postriderref16_All.l1 k l s acc (n : Int) (i : Int) = some (R (acc ++ ((hitsF s.data.toList i (pfx (l.drop i))).filter (fun x => keyL x == (n : Int))).map (·.1))) := by
  intro d
  induction d with
  | zero =>
    intro k i acc hd hi ha hk
    obtain ⟨k, rfl⟩ : ∃ m, k = m + 1 := ⟨k - 1, by omega⟩
    rw [List.drop_eq_nil_of_le (by omega)]
    simp only [postriderref16_All.l1, pfx, List.map_nil, hitsF, List.filter_nil, List.append_nil]
    rw [if_neg (by omega), show wrap64 ((n : Int) - 1) = (n : Int) - 1 by unfold wrap64; omega]
    exact hR k acc (by omega) (by omega)
  | succ d ih =>
    intro k i acc hd hi ha hk
    obtain ⟨k, rfl⟩ : ∃ m, k = m + 1 := ⟨k - 1, by omega⟩
    have hlt : i < l.length := by omega
    simp only [postriderref16_All.l1]
    rw [if_pos (by omega), if_pos (by omega), rd_Rt hlt, wrap_up i (by omega), List.drop_eq_getElem_cons hlt]
    simp only [pfx, List.map_cons, hitsF]
    rw [begins_ref]
    by_cases hs : (l[i].f0.size : Int) = (n : Int)
    · rw [if_pos hs]
      simp only [Option.bind_some]
      by_cases hm : l[i].f0.data.toList.isPrefixOf s.data.toList = true
      · rw [if_pos hm, if_pos hm, if_pos (by omega), List.filter_cons, if_pos (by show ((l[i].f0.size : Int) == (n : Int)) = true; exact beq_iff_eq.2 hs)]
        rw [ih k (i + 1) _ (by omega) (by omega) (by simp; omega) (by omega), List.map_cons, List.append_assoc]
        rfl
      · rw [if_neg hm, if_neg hm]
        exact ih k (i + 1) _ (by omega) (by omega) (by omega) (by omega)
    · rw [if_neg hs]
      have h' := ih k (i + 1) acc (by omega) (by omega) (by omega) (by omega)
      rw [h']
      by_cases hm : l[i].f0.data.toList.isPrefixOf s.data.toList = true
      · rw [if_pos hm, List.filter_cons, if_neg (by show ¬ ((l[i].f0.size : Int) == (n : Int)) = true; simpa using hs)]
      · rw [if_neg hm]
theorem all_outer (l : List Rt) (s : ByteArray) (hl : l.length ≤ 22) : ∀ (n : Nat), n ≤ 61 → ∀ (k : Nat) (acc : List Int), acc.length + 22 * n ≤ 1500 → 100 * n < k →
    postriderref16_All.l0 k l s acc ((n : Int) - 1) = some (acc ++ (groups keyL (hitsF s.data.toList 0 (pfx l)) n).map (·.1), 0)
  | 0, _, k, acc, _, hk => by
    obtain ⟨k, rfl⟩ : ∃ m, k = m + 1 := ⟨k - 1, by omega⟩
    simp only [postriderref16_All.l0, groups, List.map_nil, List.append_nil]
    rw [if_neg (by omega)]
  | n + 1, hn, k, acc, ha, hk => by
    obtain ⟨k, rfl⟩ : ∃ m, k = m + 1 := ⟨k - 1, by omega⟩
    simp only [postriderref16_All.l0]
    rw [show (((n + 1 : Nat) : Int) - 1) = (n : Int) by omega, if_pos (by omega)]
    have h' := all_inner l s hl n (1500 - 22 * n) (by omega) (by omega) (fun acc => (acc ++ (groups keyL (hitsF s.data.toList 0 (pfx l)) n).map (·.1), 0))
      (fun k acc h1 h2 => all_outer l s hl n (by omega) k acc (by omega) h2) l.length k 0 acc rfl (Nat.zero_le _) (by omega) (by omega)
    rw [List.drop_zero] at h'
    refine h'.trans ?_
    rw [groups, List.map_append, List.append_assoc]
theorem All16_ref (k : Nat) (l : List Rt) (n : Int) (a1 a2 : ByteArray) (a3 a4 : Int) (hl : l.length ≤ 22) (h1 : a1.size ≤ 21) (h2 : a2.size ≤ 21) (hk : 7000 < k) :
    postriderref16_All.f k l n a1 a2 a3 a4 = some (allT l n a1 a2 a3 a4) := by
  unfold postriderref16_All.f
  rw [Right16_ref k l hl (by omega), Print_ref k n a1 a2 a3 a4 (by omega) (by omega) (by omega)]
  simp only [Option.bind_some]
  unfold allT
  by_cases hr : rightRt l = true
  · rw [if_pos hr, if_pos hr]
    by_cases hn : rightS n a1 a2 a3 a4 = true
    · rw [if_pos hn, if_pos hn]
      simp only [if_true]
      have h' := all_outer l (textS n a1 a2 a3 a4) hl 61 (Nat.le_refl _) k [] (by simp) (by omega)
      refine h'.trans ?_
      unfold allP
      rw [sort_groups keyL 61 _ (hits_small _ _ 61 (right_sizes2 hr))]
      rfl
    · rw [if_neg hn, if_neg hn]
      rfl
  · rw [if_neg hr, if_neg hr]
theorem Find16_ref (k : Nat) (l : List Rt) (n : Int) (a1 a2 : ByteArray) (a3 a4 : Int) (hl : l.length ≤ 22) (h1 : a1.size ≤ 21) (h2 : a2.size ≤ 21) (hk : 7000 < k) :
    postriderref16_Find.f k l n a1 a2 a3 a4 = some (findT l n a1 a2 a3 a4) := by
  unfold postriderref16_Find.f findT
  rw [All16_ref k l n a1 a2 a3 a4 hl h1 h2 hk]
  simp only [Option.bind_some]
  cases (allT l n a1 a2 a3 a4).1 with
  | nil => rfl
  | cons a r =>
    simp only [List.length_cons]
    rw [if_neg (by omega), if_pos (by omega)]
    rfl
end Go.Proofs.YtaknknfcikdjiaaGreatDoor.Hand
end
section
namespace Go.Proofs.YtaknknfcikdjiaaGreatDoor.RG
open Go.Proofs.YtaknknfcikdjiaaGreatDoor.Hand
open Go.Proofs.YtaknknfcikdjiaaGreatDoor.SA
open Go.Proofs.YtaknknfcikdjiaaGreatDoor.RK
open Go.Proofs.YtaknknfcikdjiaaGreatDoor.RF
open Go.Proofs.YtaknknfcikdjiaaGreatDoor.RR
open Go.RowKit Go.Proofs.YtaknknfcikdjiaaGreatDoorW.PrintWords Go.Proofs.YtaknknfcikdjiaaGreatDoorW.PrintLast Go.Proofs.YtaknknfcikdjiaaGreatDoorW.PrintMore
attribute [local go_sem] max2_int min2_int max_two min_two max_three min_three max_four min_four
set_option linter.unusedVariables false
set_option linter.unusedSimpArgs false
def errW : Option Int → Value
  | none => .nilIface
  | some c => .iface 0 (.int .i64 c)
theorem errW_none : errW none = .nilIface := rfl
theorem errW_some (c : Int) : errW (some c) = .iface 0 (.int .i64 c) := rfl
end Go.Proofs.YtaknknfcikdjiaaGreatDoor.RG
end

import Derived.Test.YtaknknfcikdjiaaGreatDoorZRouteLess2
section
namespace Go.Proofs.YtaknknfcikdjiaaGreatDoor.RF
open Go.Proofs.YtaknknfcikdjiaaGreatDoor.Hand
open Go.Proofs.YtaknknfcikdjiaaGreatDoor.SA
open Go.Proofs.YtaknknfcikdjiaaGreatDoor.RK
open Go.RowKit Go.Proofs.YtaknknfcikdjiaaGreatDoorW.PrintWords Go.Proofs.YtaknknfcikdjiaaGreatDoorW.PrintLast Go.Proofs.YtaknknfcikdjiaaGreatDoorW.PrintMore
attribute [local go_sem] max2_int min2_int max_two min_two max_three min_three max_four min_four
set_option linter.unusedVariables false
set_option linter.unusedSimpArgs false
def route_Find.f (l0 : List (S35)) (a1_0 : Int) (a1_1 : ByteArray) (a1_2 : ByteArray) (a1_3 : Int) (a1_4 : Int) : Option (Int × Bool × Int) := (route_All.f l0 a1_0 a1_1 a1_2 a1_3 a1_4).bind fun bt102 => (if (bt102.1.length : Int) = 0 then (some (0, false, bt102.2)) else (if 0 < (bt102.1.length : Int) then (some (rd bt102.1 0, true, 0)) else (none)))
set_option maxHeartbeats 8000000 in
set_option maxRecDepth 100000 in
theorem route_Find.calls (A0 : Option Addr) (c0 : Nat) (l0 : List (S35)) (a1_0 : Int) (a1_1 : ByteArray) (a1_2 : ByteArray) (a1_3 : Int) (a1_4 : Int) (r1 : Int) (r2 : Bool) (r3 : Int) (w : World) (hr0 : Kd.C k35 w A0 l0.length l0) (hc0 : l0.length ≤ c0) (hLd : LaidR w) (h : route_Find.f l0 a1_0 a1_1 a1_2 a1_3 a1_4 = some (r1, r2, r3)) :
    Calls Tryz.prog 19 #[.slice A0 l0.length c0, .agg #[.int .i64 a1_0, .string a1_1, .string a1_2, .int .i64 a1_3, .int .i64 a1_4]] w fun e w' => e = .returned (.tuple #[.int .i64 r1, .bool r2, .int .i64 r3]) ∧ Below w.heap.size w w' := by
  have hu37 := Tryz.underlying37
  have HLD := Aside0.mk hLd
  clear hLd
  have HR0 := Aside0.mk hr0
  have HC0 := Aside0.mk hc0
  clear hr0 hc0
  have HB := Aside0.mk (Below.refl w.heap.size w)
  have H : ((route_All.f l0 a1_0 a1_1 a1_2 a1_3 a1_4).bind fun bt102 => (if (bt102.1.length : Int) = 0 then (some (0, false, bt102.2)) else (if 0 < (bt102.1.length : Int) then (some (rd bt102.1 0, true, 0)) else (none)))) = some (r1, r2, r3) := h
  clear h
  replace H := Option.bind_eq_some_iff.mp H
  obtain ⟨⟨t102, t105⟩, A30, H⟩ := H
  replace H : (if (t102.length : Int) = 0 then (some (0, false, t105)) else (if 0 < (t102.length : Int) then (some (rd t102 0, true, 0)) else (none))) = some (r1, r2, r3) := H
  have A3 := Aside0.mk A30
  clear A30
  by_cases c4 : (t102.length : Int) = 0
  · rw [if_pos c4] at H
    have c4b0 : ((t102.length : Int) == 0) = true := beq_iff_eq.mpr c4
    have c4b1 : ((t102.length : Int) != 0) = false := bne_eq_false_iff_eq.mpr c4
    clear c4
    simp only [Option.some.injEq, Prod.mk.injEq] at H
    obtain ⟨rfl, rfl, rfl⟩ := H
    go_enter Tryz.func19, Tryz.ntmps19
    go_wp2_with (first | ((with_reducible refine gate_dst (N := 3) rfl ?_); refine box_event ?hg (N := 3) ?hd (cs := #[.int .i64 a1_0, .string a1_1, .string a1_2, .int .i64 a1_3, .int .i64 a1_4]) (t := 37) ?hr ?_; (case hd => rfl); (case hg => rfl); (case hr => first | (go_simp; done) | (go_simp; rfl) | (go_simp; simp only [isEmpty_ne, isEmpty_eq]; done) | (go_simp; simp only [isEmpty_ne, isEmpty_eq]; rfl)); intro gb101 hg w5 hbox hb; have n0_ := Aside0.mk (below_step (by repeat (first | (with_reducible first | exact HB.out | apply below_alloc | apply pw_below_drewN | apply below_drew1) | exact HB.out)) hb); have n1_ := Aside0.mk (hbox); have n2_ := Aside0.mk ((by rw [hg]; exact (below_size (by repeat (first | (with_reducible first | exact HB.out | apply below_alloc | apply pw_below_drewN | apply below_drew1) | exact HB.out))) : w.heap.size ≤ gb101)); have n3_ := Aside0.mk ((by rw [hg]; exact (below_size (by repeat (first | (with_reducible first | exact HB.out | apply below_alloc | apply pw_below_drewN | apply below_drew1) | exact HB.out))) : w.heap.size ≤ gb101)); clear HB; have HB := n0_; have BK101 := n1_; have GW101 := n2_; have GE101 := n3_; clear n0_ n1_ n2_ n3_; clear hb hbox hg; have hcz6_0 : w5.cell? ⟨gb101, 0, none⟩ = some (.int .i64 a1_0) := (blk_cell BK101.out 0).trans rfl; have hcz6_1 : w5.cell? ⟨gb101, 1, none⟩ = some (.string a1_1) := (blk_cell BK101.out 1).trans rfl; have hcz6_2 : w5.cell? ⟨gb101, 2, none⟩ = some (.string a1_2) := (blk_cell BK101.out 2).trans rfl; have hcz6_3 : w5.cell? ⟨gb101, 3, none⟩ = some (.int .i64 a1_3) := (blk_cell BK101.out 3).trans rfl; have hcz6_4 : w5.cell? ⟨gb101, 4, none⟩ = some (.int .i64 a1_4) := (blk_cell BK101.out 4).trans rfl; have hfz6_0 := blk_frozen BK101.out 0; have hfz6_1 := blk_frozen BK101.out 1; have hfz6_2 := blk_frozen BK101.out 2; have hfz6_3 := blk_frozen BK101.out 3; have hfz6_4 := blk_frozen BK101.out 4) | ((with_reducible refine gate_callee (f := 20) rfl ?_); refine goesL_ (some 12) rfl rfl Tryz.func20 (by kernel_rfl) rfl #[.slice A0 l0.length c0, .agg #[.int .i64 a1_0, .string a1_1, .string a1_2, .int .i64 a1_3, .int .i64 a1_4]] rfl (by (try simp only [List.map_toArray, List.map_cons, List.map_nil]); first | done | rfl | (simp only [List.length_drop, List.length_take]; rfl)) ?_; (with_reducible refine (route_All.calls _ _ l0 a1_0 a1_1 a1_2 a1_3 a1_4 t102 t105 _ ?side1 ?side2 ?side3 A3.out).mono ?_); (case side1 => repeat (first | exact (Kd.C_below HR0.out HB.out) | (with_reducible refine Kd.C_alloc ?_ _) | (with_reducible refine Kd.C_drewN ?_ _) | (with_reducible refine Kd.C_drew ?_))); (case side2 => exact HC0.out); (case side3 => exact LaidR.below HLD.out (by repeat (first | (with_reducible first | exact HB.out | apply below_alloc | apply pw_below_drewN | apply below_drew1 | refine below_set ?_ GE101.out) | exact HB.out))); rintro e w7 ⟨v103, rfl, ho0, hb⟩; refine ⟨_, rfl, ?_⟩; have n0_ := Aside0.mk (Kd.R_lower ho0 (below_size (by repeat (first | (with_reducible first | exact HB.out | apply below_alloc | apply pw_below_drewN | apply below_drew1 | refine below_set ?_ GE101.out) | exact HB.out)))); have n1_ := Aside0.mk (blk_below (g := gb101) (o := .cells #[.int .i64 a1_0, .string a1_1, .string a1_2, .int .i64 a1_3, .int .i64 a1_4] 37 (0, 0)) (by (with_reducible repeat (first | refine blk_drewN ?_ _ | refine blk_drew ?_ | refine blk_alloc ?_ _)); exact BK101.out) hb); have n2_ := Aside0.mk (below_step (by repeat (first | (with_reducible first | exact HB.out | apply below_alloc | apply pw_below_drewN | apply below_drew1 | refine below_set ?_ GE101.out) | exact HB.out)) hb); clear BK101; clear HB; have HO104 := n0_; have BK101 := n1_; have HB := n2_; clear n0_ n1_ n2_; (try clear hb); (try clear hb2); (try clear hk); (try clear hi); (try clear ho0); obtain ⟨Ao8, co8, eo8⟩ := Kd.R_slice HO104.out; subst eo8))
    all_goals (first | (go_ret3; exact ⟨by first | rfl | (simp [errW_none, errW_some] <;> rfl) | (simp [*, errW_none, errW_some] <;> rfl) | (simp_all; done) | fail, by repeat (first | (with_reducible first | exact HB.out | apply below_alloc | apply pw_below_drewN | apply below_drew1 | refine below_set ?_ GE101.out) | exact HB.out)⟩) | (exfalso; simp_all; done) | (exfalso; simp only [isEmpty_eq, isEmpty_ne] at *; simp_all; done) | (exfalso; exact isEmpty_clash (by assumption) (by assumption)) | (exfalso; exact isEmpty_clash' (by assumption) (by assumption)) | (exfalso; exact isEmpty_clash2 (by assumption) (by assumption)))
  · rw [if_neg c4] at H
    have c4b0 : ((t102.length : Int) == 0) = false := beq_eq_false_iff_ne.mpr c4
    have c4b1 : ((t102.length : Int) != 0) = true := bne_iff_ne.mpr c4
    have c4b2 : ¬ (t102 = []) := fun h_ => c4 (by rw [h_]; rfl)
    by_cases c9 : 0 < (t102.length : Int)
    · rw [if_pos c9] at H
      have c9b0 : decide (0 < (t102.length : Int)) = true := decide_eq_true c9
      have c9b1 : decide (0 < t102.length) = true := decide_eq_true (by omega)
      clear c9
      simp only [Option.some.injEq, Prod.mk.injEq] at H
      obtain ⟨rfl, rfl, rfl⟩ := H
      go_enter Tryz.func19, Tryz.ntmps19
      go_wp2_with (first | ((with_reducible refine gate_dst (N := 3) rfl ?_); refine box_event ?hg (N := 3) ?hd (cs := #[.int .i64 a1_0, .string a1_1, .string a1_2, .int .i64 a1_3, .int .i64 a1_4]) (t := 37) ?hr ?_; (case hd => rfl); (case hg => rfl); (case hr => first | (go_simp; done) | (go_simp; rfl) | (go_simp; simp only [isEmpty_ne, isEmpty_eq]; done) | (go_simp; simp only [isEmpty_ne, isEmpty_eq]; rfl)); intro gb101 hg w10 hbox hb; have n0_ := Aside0.mk (below_step (by repeat (first | (with_reducible first | exact HB.out | apply below_alloc | apply pw_below_drewN | apply below_drew1) | exact HB.out)) hb); have n1_ := Aside0.mk (hbox); have n2_ := Aside0.mk ((by rw [hg]; exact (below_size (by repeat (first | (with_reducible first | exact HB.out | apply below_alloc | apply pw_below_drewN | apply below_drew1) | exact HB.out))) : w.heap.size ≤ gb101)); have n3_ := Aside0.mk ((by rw [hg]; exact (below_size (by repeat (first | (with_reducible first | exact HB.out | apply below_alloc | apply pw_below_drewN | apply below_drew1) | exact HB.out))) : w.heap.size ≤ gb101)); clear HB; have HB := n0_; have BK101 := n1_; have GW101 := n2_; have GE101 := n3_; clear n0_ n1_ n2_ n3_; clear hb hbox hg; have hcz11_0 : w10.cell? ⟨gb101, 0, none⟩ = some (.int .i64 a1_0) := (blk_cell BK101.out 0).trans rfl; have hcz11_1 : w10.cell? ⟨gb101, 1, none⟩ = some (.string a1_1) := (blk_cell BK101.out 1).trans rfl; have hcz11_2 : w10.cell? ⟨gb101, 2, none⟩ = some (.string a1_2) := (blk_cell BK101.out 2).trans rfl; have hcz11_3 : w10.cell? ⟨gb101, 3, none⟩ = some (.int .i64 a1_3) := (blk_cell BK101.out 3).trans rfl; have hcz11_4 : w10.cell? ⟨gb101, 4, none⟩ = some (.int .i64 a1_4) := (blk_cell BK101.out 4).trans rfl; have hfz11_0 := blk_frozen BK101.out 0; have hfz11_1 := blk_frozen BK101.out 1; have hfz11_2 := blk_frozen BK101.out 2; have hfz11_3 := blk_frozen BK101.out 3; have hfz11_4 := blk_frozen BK101.out 4) | ((with_reducible refine gate_callee (f := 20) rfl ?_); refine goesL_ (some 12) rfl rfl Tryz.func20 (by kernel_rfl) rfl #[.slice A0 l0.length c0, .agg #[.int .i64 a1_0, .string a1_1, .string a1_2, .int .i64 a1_3, .int .i64 a1_4]] rfl (by (try simp only [List.map_toArray, List.map_cons, List.map_nil]); first | done | rfl | (simp only [List.length_drop, List.length_take]; rfl)) ?_; (with_reducible refine (route_All.calls _ _ l0 a1_0 a1_1 a1_2 a1_3 a1_4 t102 t105 _ ?side1 ?side2 ?side3 A3.out).mono ?_); (case side1 => repeat (first | exact (Kd.C_below HR0.out HB.out) | (with_reducible refine Kd.C_alloc ?_ _) | (with_reducible refine Kd.C_drewN ?_ _) | (with_reducible refine Kd.C_drew ?_))); (case side2 => exact HC0.out); (case side3 => exact LaidR.below HLD.out (by repeat (first | (with_reducible first | exact HB.out | apply below_alloc | apply pw_below_drewN | apply below_drew1 | refine below_set ?_ GE101.out) | exact HB.out))); rintro e w12 ⟨v103, rfl, ho0, hb⟩; refine ⟨_, rfl, ?_⟩; have n0_ := Aside0.mk (Kd.R_lower ho0 (below_size (by repeat (first | (with_reducible first | exact HB.out | apply below_alloc | apply pw_below_drewN | apply below_drew1 | refine below_set ?_ GE101.out) | exact HB.out)))); have n1_ := Aside0.mk (blk_below (g := gb101) (o := .cells #[.int .i64 a1_0, .string a1_1, .string a1_2, .int .i64 a1_3, .int .i64 a1_4] 37 (0, 0)) (by (with_reducible repeat (first | refine blk_drewN ?_ _ | refine blk_drew ?_ | refine blk_alloc ?_ _)); exact BK101.out) hb); have n2_ := Aside0.mk (below_step (by repeat (first | (with_reducible first | exact HB.out | apply below_alloc | apply pw_below_drewN | apply below_drew1 | refine below_set ?_ GE101.out) | exact HB.out)) hb); clear BK101; clear HB; have HO104 := n0_; have BK101 := n1_; have HB := n2_; clear n0_ n1_ n2_; (try clear hb); (try clear hb2); (try clear hk); (try clear hi); (try clear ho0); obtain ⟨Ao13, co13, eo13⟩ := Kd.R_slice HO104.out; subst eo13; have p106 : 0 ≤ (0 : Int) := (by omega); have q106 : 0 < (t102.length : Int) := of_decide_eq_true (by first | (with_reducible assumption) | assumption); obtain ⟨ad106, e106, hx106_0⟩ := Kd.at_int (Kd.R_reads' HO104.out).2.2 0 p106 q106; cases e106; have qi106 : (0 < t102.length) = True := eq_true (by omega); (try rw [show ((0 : Int)).toNat = 0 from rfl] at hx106_0); (try rw [Addr.add_zero'] at hx106_0); replace p106 := eq_true p106; replace q106 := eq_true q106))
      all_goals (first | (go_ret3; exact ⟨by first | rfl | (simp [errW_none, errW_some] <;> rfl) | (simp [*, errW_none, errW_some] <;> rfl) | (simp_all; done) | fail, by repeat (first | (with_reducible first | exact HB.out | apply below_alloc | apply pw_below_drewN | apply below_drew1 | refine below_set ?_ GE101.out) | exact HB.out)⟩) | (exfalso; simp_all; done) | (exfalso; simp only [isEmpty_eq, isEmpty_ne] at *; simp_all; done) | (exfalso; exact isEmpty_clash (by assumption) (by assumption)) | (exfalso; exact isEmpty_clash' (by assumption) (by assumption)) | (exfalso; exact isEmpty_clash2 (by assumption) (by assumption)))
    · rw [if_neg c9] at H
      exact absurd H (by simp)
def postriderlaw16_shown.f  : Option (Bool) := (some (([(⟨(⟨#[105, 112, 110, 58, 52]⟩ : ByteArray), 6⟩ : S35), (⟨(⟨#[105, 112, 110, 58, 52, 46]⟩ : ByteArray), 7⟩ : S35), (⟨(⟨#[]⟩ : ByteArray), 6⟩ : S35)] : List (S35)) : List (S35))).bind fun y107 => ((route_Find.f y107 2 (⟨#[]⟩ : ByteArray) (⟨#[]⟩ : ByteArray) 4 7).bind fun bt110 => ((route_Find.f y107 2 (⟨#[]⟩ : ByteArray) (⟨#[]⟩ : ByteArray) 42 0).bind fun bt113 => ((route_Find.f y107 0 (⟨#[]⟩ : ByteArray) (⟨#[]⟩ : ByteArray) 0 0).bind fun bt116 => ((route_Pass.f 5 9 (([(⟨#[100, 116, 110, 58]⟩ : ByteArray)] : List ByteArray)) false 6 0 false (([(⟨0, (⟨#[]⟩ : ByteArray), (⟨#[]⟩ : ByteArray), 0, 0⟩ : S37)] : List (S37)))).bind fun t125 => ((route_Pass.f 5 9 ([] : List ByteArray) false 6 0 false (([(⟨0, (⟨#[]⟩ : ByteArray), (⟨#[]⟩ : ByteArray), 0, 0⟩ : S37)] : List (S37)))).bind fun t129 => (if bt110.1 = 1 then (if bt110.2.1 = true then (if bt110.2.2 = 0 then (if bt113.1 = 0 then (if bt113.2.1 = true then (if bt113.2.2 = 0 then (if bt116.1 = 2 then (if bt116.2.1 = true then (if bt116.2.2 = 0 then (if t125 = 161 then (some (t129 == 162)) else (none)) else (none)) else (none)) else (none)) else (none)) else (none)) else (none)) else (none)) else (none)) else (none)))))))
set_option maxHeartbeats 8000000 in
set_option maxRecDepth 100000 in
theorem postriderlaw16_shown.calls  (r : Bool) (w : World) (hLd : LaidR w) (h : postriderlaw16_shown.f  = some r) :
    Calls Tryz.prog 10 #[] w fun e w' => e = .returned (.bool r) ∧ Below w.heap.size w w' := by
  have hu35 := Tryz.underlying35
  have hu37 := Tryz.underlying37
  have hu24 := Tryz.underlying24
  have HLD := Aside0.mk hLd
  clear hLd
  have HB := Aside0.mk (Below.refl w.heap.size w)
  have H : ((some (([(⟨(⟨#[105, 112, 110, 58, 52]⟩ : ByteArray), 6⟩ : S35), (⟨(⟨#[105, 112, 110, 58, 52, 46]⟩ : ByteArray), 7⟩ : S35), (⟨(⟨#[]⟩ : ByteArray), 6⟩ : S35)] : List (S35)) : List (S35))).bind fun y107 => ((route_Find.f y107 2 (⟨#[]⟩ : ByteArray) (⟨#[]⟩ : ByteArray) 4 7).bind fun bt110 => ((route_Find.f y107 2 (⟨#[]⟩ : ByteArray) (⟨#[]⟩ : ByteArray) 42 0).bind fun bt113 => ((route_Find.f y107 0 (⟨#[]⟩ : ByteArray) (⟨#[]⟩ : ByteArray) 0 0).bind fun bt116 => ((route_Pass.f 5 9 (([(⟨#[100, 116, 110, 58]⟩ : ByteArray)] : List ByteArray)) false 6 0 false (([(⟨0, (⟨#[]⟩ : ByteArray), (⟨#[]⟩ : ByteArray), 0, 0⟩ : S37)] : List (S37)))).bind fun t125 => ((route_Pass.f 5 9 ([] : List ByteArray) false 6 0 false (([(⟨0, (⟨#[]⟩ : ByteArray), (⟨#[]⟩ : ByteArray), 0, 0⟩ : S37)] : List (S37)))).bind fun t129 => (if bt110.1 = 1 then (if bt110.2.1 = true then (if bt110.2.2 = 0 then (if bt113.1 = 0 then (if bt113.2.1 = true then (if bt113.2.2 = 0 then (if bt116.1 = 2 then (if bt116.2.1 = true then (if bt116.2.2 = 0 then (if t125 = 161 then (some (t129 == 162)) else (none)) else (none)) else (none)) else (none)) else (none)) else (none)) else (none)) else (none)) else (none)) else (none)))))))) = some r := h
  clear h
  obtain ⟨y107, hy107⟩ : ∃ y_ : List (S35), y_ = (([(⟨(⟨#[105, 112, 110, 58, 52]⟩ : ByteArray), 6⟩ : S35), (⟨(⟨#[105, 112, 110, 58, 52, 46]⟩ : ByteArray), 7⟩ : S35), (⟨(⟨#[]⟩ : ByteArray), 6⟩ : S35)] : List (S35))) := ⟨_, rfl⟩
  replace H : ((route_Find.f y107 2 (⟨#[]⟩ : ByteArray) (⟨#[]⟩ : ByteArray) 4 7).bind fun bt110 => ((route_Find.f y107 2 (⟨#[]⟩ : ByteArray) (⟨#[]⟩ : ByteArray) 42 0).bind fun bt113 => ((route_Find.f y107 0 (⟨#[]⟩ : ByteArray) (⟨#[]⟩ : ByteArray) 0 0).bind fun bt116 => ((route_Pass.f 5 9 (([(⟨#[100, 116, 110, 58]⟩ : ByteArray)] : List ByteArray)) false 6 0 false (([(⟨0, (⟨#[]⟩ : ByteArray), (⟨#[]⟩ : ByteArray), 0, 0⟩ : S37)] : List (S37)))).bind fun t125 => ((route_Pass.f 5 9 ([] : List ByteArray) false 6 0 false (([(⟨0, (⟨#[]⟩ : ByteArray), (⟨#[]⟩ : ByteArray), 0, 0⟩ : S37)] : List (S37)))).bind fun t129 => (if bt110.1 = 1 then (if bt110.2.1 = true then (if bt110.2.2 = 0 then (if bt113.1 = 0 then (if bt113.2.1 = true then (if bt113.2.2 = 0 then (if bt116.1 = 2 then (if bt116.2.1 = true then (if bt116.2.2 = 0 then (if t125 = 161 then (some (t129 == 162)) else (none)) else (none)) else (none)) else (none)) else (none)) else (none)) else (none)) else (none)) else (none)) else (none))))))) = some r := by first | (rw [hy107]; with_reducible exact H) | (have H2_ := (Option.bind_some _ _).symm.trans H; rw [hy107]; with_reducible exact H2_) | (have H2_ := (Option.bind_some _ _).symm.trans H; with_reducible exact H2_) | with_reducible exact H | (rw [hy107]; exact H) | exact H
  have Ny107 := Aside0.mk hy107
  clear hy107
  replace H := Option.bind_eq_some_iff.mp H
  obtain ⟨⟨t110, t111, t112⟩, A10, H⟩ := H
  replace H : ((route_Find.f y107 2 (⟨#[]⟩ : ByteArray) (⟨#[]⟩ : ByteArray) 42 0).bind fun bt113 => ((route_Find.f y107 0 (⟨#[]⟩ : ByteArray) (⟨#[]⟩ : ByteArray) 0 0).bind fun bt116 => ((route_Pass.f 5 9 (([(⟨#[100, 116, 110, 58]⟩ : ByteArray)] : List ByteArray)) false 6 0 false (([(⟨0, (⟨#[]⟩ : ByteArray), (⟨#[]⟩ : ByteArray), 0, 0⟩ : S37)] : List (S37)))).bind fun t125 => ((route_Pass.f 5 9 ([] : List ByteArray) false 6 0 false (([(⟨0, (⟨#[]⟩ : ByteArray), (⟨#[]⟩ : ByteArray), 0, 0⟩ : S37)] : List (S37)))).bind fun t129 => (if t110 = 1 then (if t111 = true then (if t112 = 0 then (if bt113.1 = 0 then (if bt113.2.1 = true then (if bt113.2.2 = 0 then (if bt116.1 = 2 then (if bt116.2.1 = true then (if bt116.2.2 = 0 then (if t125 = 161 then (some (t129 == 162)) else (none)) else (none)) else (none)) else (none)) else (none)) else (none)) else (none)) else (none)) else (none)) else (none)))))) = some r := H
  have A1 := Aside0.mk A10
  clear A10
  replace H := Option.bind_eq_some_iff.mp H
  obtain ⟨⟨t113, t114, t115⟩, A20, H⟩ := H
  replace H : ((route_Find.f y107 0 (⟨#[]⟩ : ByteArray) (⟨#[]⟩ : ByteArray) 0 0).bind fun bt116 => ((route_Pass.f 5 9 (([(⟨#[100, 116, 110, 58]⟩ : ByteArray)] : List ByteArray)) false 6 0 false (([(⟨0, (⟨#[]⟩ : ByteArray), (⟨#[]⟩ : ByteArray), 0, 0⟩ : S37)] : List (S37)))).bind fun t125 => ((route_Pass.f 5 9 ([] : List ByteArray) false 6 0 false (([(⟨0, (⟨#[]⟩ : ByteArray), (⟨#[]⟩ : ByteArray), 0, 0⟩ : S37)] : List (S37)))).bind fun t129 => (if t110 = 1 then (if t111 = true then (if t112 = 0 then (if t113 = 0 then (if t114 = true then (if t115 = 0 then (if bt116.1 = 2 then (if bt116.2.1 = true then (if bt116.2.2 = 0 then (if t125 = 161 then (some (t129 == 162)) else (none)) else (none)) else (none)) else (none)) else (none)) else (none)) else (none)) else (none)) else (none)) else (none))))) = some r := H
  have A2 := Aside0.mk A20
  clear A20
  replace H := Option.bind_eq_some_iff.mp H
  obtain ⟨⟨t116, t117, t118⟩, A30, H⟩ := H
  replace H : ((route_Pass.f 5 9 (([(⟨#[100, 116, 110, 58]⟩ : ByteArray)] : List ByteArray)) false 6 0 false (([(⟨0, (⟨#[]⟩ : ByteArray), (⟨#[]⟩ : ByteArray), 0, 0⟩ : S37)] : List (S37)))).bind fun t125 => ((route_Pass.f 5 9 ([] : List ByteArray) false 6 0 false (([(⟨0, (⟨#[]⟩ : ByteArray), (⟨#[]⟩ : ByteArray), 0, 0⟩ : S37)] : List (S37)))).bind fun t129 => (if t110 = 1 then (if t111 = true then (if t112 = 0 then (if t113 = 0 then (if t114 = true then (if t115 = 0 then (if t116 = 2 then (if t117 = true then (if t118 = 0 then (if t125 = 161 then (some (t129 == 162)) else (none)) else (none)) else (none)) else (none)) else (none)) else (none)) else (none)) else (none)) else (none)) else (none)))) = some r := H
  have A3 := Aside0.mk A30
  clear A30
  obtain ⟨y119, hy119⟩ : ∃ y_ : List ByteArray, y_ = (([(⟨#[100, 116, 110, 58]⟩ : ByteArray)] : List ByteArray)) := ⟨_, rfl⟩
  replace H : ((route_Pass.f 5 9 y119 false 6 0 false (([(⟨0, (⟨#[]⟩ : ByteArray), (⟨#[]⟩ : ByteArray), 0, 0⟩ : S37)] : List (S37)))).bind fun t125 => ((route_Pass.f 5 9 ([] : List ByteArray) false 6 0 false (([(⟨0, (⟨#[]⟩ : ByteArray), (⟨#[]⟩ : ByteArray), 0, 0⟩ : S37)] : List (S37)))).bind fun t129 => (if t110 = 1 then (if t111 = true then (if t112 = 0 then (if t113 = 0 then (if t114 = true then (if t115 = 0 then (if t116 = 2 then (if t117 = true then (if t118 = 0 then (if t125 = 161 then (some (t129 == 162)) else (none)) else (none)) else (none)) else (none)) else (none)) else (none)) else (none)) else (none)) else (none)) else (none)))) = some r := by first | (rw [hy119]; with_reducible exact H) | (have H2_ := (Option.bind_some _ _).symm.trans H; rw [hy119]; with_reducible exact H2_) | (have H2_ := (Option.bind_some _ _).symm.trans H; with_reducible exact H2_) | with_reducible exact H | (rw [hy119]; exact H) | exact H
  have Ny119 := Aside0.mk hy119
  clear hy119
  obtain ⟨y122, hy122⟩ : ∃ y_ : List (S37), y_ = (([(⟨0, (⟨#[]⟩ : ByteArray), (⟨#[]⟩ : ByteArray), 0, 0⟩ : S37)] : List (S37))) := ⟨_, rfl⟩
  replace H : ((route_Pass.f 5 9 y119 false 6 0 false y122).bind fun t125 => ((route_Pass.f 5 9 ([] : List ByteArray) false 6 0 false (([(⟨0, (⟨#[]⟩ : ByteArray), (⟨#[]⟩ : ByteArray), 0, 0⟩ : S37)] : List (S37)))).bind fun t129 => (if t110 = 1 then (if t111 = true then (if t112 = 0 then (if t113 = 0 then (if t114 = true then (if t115 = 0 then (if t116 = 2 then (if t117 = true then (if t118 = 0 then (if t125 = 161 then (some (t129 == 162)) else (none)) else (none)) else (none)) else (none)) else (none)) else (none)) else (none)) else (none)) else (none)) else (none)))) = some r := by first | (rw [hy122]; with_reducible exact H) | (have H2_ := (Option.bind_some _ _).symm.trans H; rw [hy122]; with_reducible exact H2_) | (have H2_ := (Option.bind_some _ _).symm.trans H; with_reducible exact H2_) | with_reducible exact H | (rw [hy122]; exact H) | exact H
  have Ny122 := Aside0.mk hy122
  clear hy122
  replace H := Option.bind_eq_some_iff.mp H
  obtain ⟨t125, A40, H⟩ := H
  replace H : ((route_Pass.f 5 9 ([] : List ByteArray) false 6 0 false (([(⟨0, (⟨#[]⟩ : ByteArray), (⟨#[]⟩ : ByteArray), 0, 0⟩ : S37)] : List (S37)))).bind fun t129 => (if t110 = 1 then (if t111 = true then (if t112 = 0 then (if t113 = 0 then (if t114 = true then (if t115 = 0 then (if t116 = 2 then (if t117 = true then (if t118 = 0 then (if t125 = 161 then (some (t129 == 162)) else (none)) else (none)) else (none)) else (none)) else (none)) else (none)) else (none)) else (none)) else (none)) else (none))) = some r := H
  have A4 := Aside0.mk A40
  clear A40
  obtain ⟨y126, hy126⟩ : ∃ y_ : List (S37), y_ = (([(⟨0, (⟨#[]⟩ : ByteArray), (⟨#[]⟩ : ByteArray), 0, 0⟩ : S37)] : List (S37))) := ⟨_, rfl⟩
  replace H : ((route_Pass.f 5 9 ([] : List ByteArray) false 6 0 false y126).bind fun t129 => (if t110 = 1 then (if t111 = true then (if t112 = 0 then (if t113 = 0 then (if t114 = true then (if t115 = 0 then (if t116 = 2 then (if t117 = true then (if t118 = 0 then (if t125 = 161 then (some (t129 == 162)) else (none)) else (none)) else (none)) else (none)) else (none)) else (none)) else (none)) else (none)) else (none)) else (none))) = some r := by first | (rw [hy126]; with_reducible exact H) | (have H2_ := (Option.bind_some _ _).symm.trans H; rw [hy126]; with_reducible exact H2_) | (have H2_ := (Option.bind_some _ _).symm.trans H; with_reducible exact H2_) | with_reducible exact H | (rw [hy126]; exact H) | exact H
  have Ny126 := Aside0.mk hy126
  clear hy126
  replace H := Option.bind_eq_some_iff.mp H
  obtain ⟨t129, A50, H⟩ := H
  replace H : (if t110 = 1 then (if t111 = true then (if t112 = 0 then (if t113 = 0 then (if t114 = true then (if t115 = 0 then (if t116 = 2 then (if t117 = true then (if t118 = 0 then (if t125 = 161 then (some (t129 == 162)) else (none)) else (none)) else (none)) else (none)) else (none)) else (none)) else (none)) else (none)) else (none)) else (none)) = some r := H
  have A5 := Aside0.mk A50
  clear A50
  by_cases c6 : t110 = 1
  · rw [if_pos c6] at H
    have c6b0 : (t110 == 1) = true := beq_iff_eq.mpr c6
    have c6b1 : (t110 != 1) = false := bne_eq_false_iff_eq.mpr c6
    clear c6
    by_cases c7 : t111 = true
    · subst c7
      have H1 : (if t112 = 0 then (if t113 = 0 then (if t114 = true then (if t115 = 0 then (if t116 = 2 then (if t117 = true then (if t118 = 0 then (if t125 = 161 then (some (t129 == 162)) else (none)) else (none)) else (none)) else (none)) else (none)) else (none)) else (none)) else (none)) = some r := by rw [if_pos rfl] at H; exact H
      clear H
      have H := H1
      clear H1
      by_cases c8 : t112 = 0
      · rw [if_pos c8] at H
        have c8b0 : (t112 == 0) = true := beq_iff_eq.mpr c8
        have c8b1 : (t112 != 0) = false := bne_eq_false_iff_eq.mpr c8
        clear c8
        by_cases c9 : t113 = 0
        · rw [if_pos c9] at H
          have c9b0 : (t113 == 0) = true := beq_iff_eq.mpr c9
          have c9b1 : (t113 != 0) = false := bne_eq_false_iff_eq.mpr c9
          clear c9
          by_cases c10 : t114 = true
          · subst c10
            have H1 : (if t115 = 0 then (if t116 = 2 then (if t117 = true then (if t118 = 0 then (if t125 = 161 then (some (t129 == 162)) else (none)) else (none)) else (none)) else (none)) else (none)) = some r := by rw [if_pos rfl] at H; exact H
            clear H
            have H := H1
            clear H1
            by_cases c11 : t115 = 0
            · rw [if_pos c11] at H
              have c11b0 : (t115 == 0) = true := beq_iff_eq.mpr c11
              have c11b1 : (t115 != 0) = false := bne_eq_false_iff_eq.mpr c11
              clear c11
              by_cases c12 : t116 = 2
              · rw [if_pos c12] at H
                have c12b0 : (t116 == 2) = true := beq_iff_eq.mpr c12
                have c12b1 : (t116 != 2) = false := bne_eq_false_iff_eq.mpr c12
                clear c12
                by_cases c13 : t117 = true
                · subst c13
                  have H1 : (if t118 = 0 then (if t125 = 161 then (some (t129 == 162)) else (none)) else (none)) = some r := by rw [if_pos rfl] at H; exact H
                  clear H
                  have H := H1
                  clear H1
                  by_cases c14 : t118 = 0
                  · rw [if_pos c14] at H
                    have c14b0 : (t118 == 0) = true := beq_iff_eq.mpr c14
                    have c14b1 : (t118 != 0) = false := bne_eq_false_iff_eq.mpr c14
                    clear c14
                    by_cases c15 : t125 = 161
                    · rw [if_pos c15] at H
                      have c15b0 : (t125 == 161) = true := beq_iff_eq.mpr c15
                      have c15b1 : (t125 != 161) = false := bne_eq_false_iff_eq.mpr c15
                      clear c15
                      obtain rfl := Option.some.inj H
                      go_enter Tryz.func10, Tryz.ntmps10
                      go_wp2_with (first | ((with_reducible refine gate_dst (N := 16) rfl ?_); refine Kd.R_lit k35 _ 35 ?hg (N := 16) ?hd (xs := ([(⟨(⟨#[105, 112, 110, 58, 52]⟩ : ByteArray), 6⟩ : S35), (⟨(⟨#[105, 112, 110, 58, 52, 46]⟩ : ByteArray), 7⟩ : S35), (⟨(⟨#[]⟩ : ByteArray), 6⟩ : S35)] : List (S35))) (inner := [.string (⟨#[105, 112, 110, 58, 52]⟩ : ByteArray), .int .i64 6, .string (⟨#[105, 112, 110, 58, 52, 46]⟩ : ByteArray), .int .i64 7, .string (⟨#[]⟩ : ByteArray), .int .i64 6]) (ok := fun _ => True) (okp := fun _ => True) ?hr ?hp (fun _ hk => hk) trivial (Below.refl _ _) (Nat.le_refl _) (by simp) ?_; (case hd => rfl); (case hg => rfl); (case hr => first | (go_simp; done) | (go_simp; rfl) | (go_simp; simp only [isEmpty_ne, isEmpty_eq]; done) | (go_simp; simp only [isEmpty_ne, isEmpty_eq]; rfl)); (case hp => exact (Reps.c2 (show Kd.M k35 _ _ _ (⟨(⟨#[105, 112, 110, 58, 52]⟩ : ByteArray), 6⟩ : S35) [.string (⟨#[105, 112, 110, 58, 52]⟩ : ByteArray), .int .i64 6] from (k35_mkM _ _ _ (⟨(⟨#[105, 112, 110, 58, 52]⟩ : ByteArray), 6⟩ : S35) )) (Reps.c2 (show Kd.M k35 _ _ _ (⟨(⟨#[105, 112, 110, 58, 52, 46]⟩ : ByteArray), 7⟩ : S35) [.string (⟨#[105, 112, 110, 58, 52, 46]⟩ : ByteArray), .int .i64 7] from (k35_mkM _ _ _ (⟨(⟨#[105, 112, 110, 58, 52, 46]⟩ : ByteArray), 7⟩ : S35) )) (Reps.c2 (show Kd.M k35 _ _ _ (⟨(⟨#[]⟩ : ByteArray), 6⟩ : S35) [.string (⟨#[]⟩ : ByteArray), .int .i64 6] from (k35_mkM _ _ _ (⟨(⟨#[]⟩ : ByteArray), 6⟩ : S35) )) (Reps.none _ _))))); intro v108 w16 ho17 hb hg_ hnew_; clear hg_ hnew_; (first | rw [← Ny107.out] at ho17 | (simp only [Int.reduceToNat] at ho17; rw [← Ny107.out] at ho17)); have n0_ := Aside0.mk (Kd.R_lower ho17 (below_size (by repeat (first | (with_reducible first | exact HB.out | apply below_alloc | apply pw_below_drewN | apply below_drew1) | exact HB.out)))); have n1_ := Aside0.mk (below_step (by repeat (first | (with_reducible first | exact HB.out | apply below_alloc | apply pw_below_drewN | apply below_drew1) | exact HB.out)) hb); clear HB; have HO109 := n0_; have HB := n1_; clear n0_ n1_; clear hb ho17; obtain ⟨Ao18, co18, eo18⟩ := Kd.R_slice HO109.out; subst eo18) | ((with_reducible refine gate_callee (f := 19) rfl ?_); refine goesL_ (some 20) rfl rfl Tryz.func19 (by kernel_rfl) rfl #[.slice Ao18 y107.length co18, .agg #[.int .i64 2, .string (⟨#[]⟩ : ByteArray), .string (⟨#[]⟩ : ByteArray), .int .i64 4, .int .i64 7]] rfl (by (try simp only [List.map_toArray, List.map_cons, List.map_nil]); first | done | rfl | (simp only [List.length_drop, List.length_take]; rfl)) ?_; (with_reducible refine (route_Find.calls _ _ y107 2 (⟨#[]⟩ : ByteArray) (⟨#[]⟩ : ByteArray) 4 7 t110 true t112 _ ?side1 ?side2 ?side3 A1.out).mono ?_); (case side1 => repeat (first | exact (Kd.R_reads' HO109.out).2.2 | (with_reducible refine Kd.C_alloc ?_ _) | (with_reducible refine Kd.C_drewN ?_ _) | (with_reducible refine Kd.C_drew ?_))); (case side2 => exact (Kd.R_reads' HO109.out).2.1); (case side3 => exact LaidR.below HLD.out (by repeat (first | (with_reducible first | exact HB.out | apply below_alloc | apply pw_below_drewN | apply below_drew1) | exact HB.out))); rintro e w19 ⟨rfl, hb⟩; refine ⟨_, rfl, ?_⟩; have n0_ := Aside0.mk (Kd.R_below (by (with_reducible repeat (first | apply Kd.R_alloc | apply Kd.R_drewN | apply Kd.R_drew)); exact HO109.out) hb); have n1_ := Aside0.mk (below_step (by repeat (first | (with_reducible first | exact HB.out | apply below_alloc | apply pw_below_drewN | apply below_drew1) | exact HB.out)) hb); clear HO109; clear HB; have HO109 := n0_; have HB := n1_; clear n0_ n1_; (try clear hb); (try clear hb2); (try clear hk); (try clear hi)) | ((with_reducible refine gate_callee (f := 19) rfl ?_); refine goesL_ (some 27) rfl rfl Tryz.func19 (by kernel_rfl) rfl #[.slice Ao18 y107.length co18, .agg #[.int .i64 2, .string (⟨#[]⟩ : ByteArray), .string (⟨#[]⟩ : ByteArray), .int .i64 42, .int .i64 0]] rfl (by (try simp only [List.map_toArray, List.map_cons, List.map_nil]); first | done | rfl | (simp only [List.length_drop, List.length_take]; rfl)) ?_; (with_reducible refine (route_Find.calls _ _ y107 2 (⟨#[]⟩ : ByteArray) (⟨#[]⟩ : ByteArray) 42 0 t113 true t115 _ ?side1 ?side2 ?side3 A2.out).mono ?_); (case side1 => repeat (first | exact (Kd.R_reads' HO109.out).2.2 | (with_reducible refine Kd.C_alloc ?_ _) | (with_reducible refine Kd.C_drewN ?_ _) | (with_reducible refine Kd.C_drew ?_))); (case side2 => exact (Kd.R_reads' HO109.out).2.1); (case side3 => exact LaidR.below HLD.out (by repeat (first | (with_reducible first | exact HB.out | apply below_alloc | apply pw_below_drewN | apply below_drew1) | exact HB.out))); rintro e w20 ⟨rfl, hb⟩; refine ⟨_, rfl, ?_⟩; have n0_ := Aside0.mk (Kd.R_below (by (with_reducible repeat (first | apply Kd.R_alloc | apply Kd.R_drewN | apply Kd.R_drew)); exact HO109.out) hb); have n1_ := Aside0.mk (below_step (by repeat (first | (with_reducible first | exact HB.out | apply below_alloc | apply pw_below_drewN | apply below_drew1) | exact HB.out)) hb); clear HO109; clear HB; have HO109 := n0_; have HB := n1_; clear n0_ n1_; (try clear hb); (try clear hb2); (try clear hk); (try clear hi)) | ((with_reducible refine gate_callee (f := 19) rfl ?_); refine goesL_ (some 34) rfl rfl Tryz.func19 (by kernel_rfl) rfl #[.slice Ao18 y107.length co18, .agg #[.int .i64 0, .string (⟨#[]⟩ : ByteArray), .string (⟨#[]⟩ : ByteArray), .int .i64 0, .int .i64 0]] rfl (by (try simp only [List.map_toArray, List.map_cons, List.map_nil]); first | done | rfl | (simp only [List.length_drop, List.length_take]; rfl)) ?_; (with_reducible refine (route_Find.calls _ _ y107 0 (⟨#[]⟩ : ByteArray) (⟨#[]⟩ : ByteArray) 0 0 t116 true t118 _ ?side1 ?side2 ?side3 A3.out).mono ?_); (case side1 => repeat (first | exact (Kd.R_reads' HO109.out).2.2 | (with_reducible refine Kd.C_alloc ?_ _) | (with_reducible refine Kd.C_drewN ?_ _) | (with_reducible refine Kd.C_drew ?_))); (case side2 => exact (Kd.R_reads' HO109.out).2.1); (case side3 => exact LaidR.below HLD.out (by repeat (first | (with_reducible first | exact HB.out | apply below_alloc | apply pw_below_drewN | apply below_drew1) | exact HB.out))); rintro e w21 ⟨rfl, hb⟩; refine ⟨_, rfl, ?_⟩; have n0_ := Aside0.mk (Kd.R_below (by (with_reducible repeat (first | apply Kd.R_alloc | apply Kd.R_drewN | apply Kd.R_drew)); exact HO109.out) hb); have n1_ := Aside0.mk (below_step (by repeat (first | (with_reducible first | exact HB.out | apply below_alloc | apply pw_below_drewN | apply below_drew1) | exact HB.out)) hb); clear HO109; clear HB; have HO109 := n0_; have HB := n1_; clear n0_ n1_; (try clear hb); (try clear hb2); (try clear hk); (try clear hi)) | ((with_reducible refine gate_dst (N := 38) rfl ?_); refine Kd.R_lit Kd.string _ 9 ?hg (N := 38) ?hd (xs := ([(⟨#[100, 116, 110, 58]⟩ : ByteArray)] : List ByteArray)) (inner := [.string (⟨#[100, 116, 110, 58]⟩ : ByteArray)]) (ok := fun _ => True) (okp := fun _ => True) ?hr ?hp (fun _ hk => hk) trivial (Below.refl _ _) (Nat.le_refl _) (by simp) ?_; (case hd => rfl); (case hg => rfl); (case hr => first | (go_simp; done) | (go_simp; rfl) | (go_simp; simp only [isEmpty_ne, isEmpty_eq]; done) | (go_simp; simp only [isEmpty_ne, isEmpty_eq]; rfl)); (case hp => exact (Reps.one (show Kd.M Kd.string _ _ _ (⟨#[100, 116, 110, 58]⟩ : ByteArray) [.string (⟨#[100, 116, 110, 58]⟩ : ByteArray)] from rfl) (Reps.none _ _))); intro v120 w22 ho23 hb hg_ hnew_; clear hg_ hnew_; (first | rw [← Ny119.out] at ho23 | (simp only [Int.reduceToNat] at ho23; rw [← Ny119.out] at ho23)); have n0_ := Aside0.mk (Kd.R_below (by (with_reducible repeat (first | apply Kd.R_alloc | apply Kd.R_drewN | apply Kd.R_drew)); exact HO109.out) hb); have n1_ := Aside0.mk (Kd.R_lower ho23 (below_size (by repeat (first | (with_reducible first | exact HB.out | apply below_alloc | apply pw_below_drewN | apply below_drew1) | exact HB.out)))); have n2_ := Aside0.mk (below_step (by repeat (first | (with_reducible first | exact HB.out | apply below_alloc | apply pw_below_drewN | apply below_drew1) | exact HB.out)) hb); clear HO109; clear HB; have HO109 := n0_; have HO121 := n1_; have HB := n2_; clear n0_ n1_ n2_; clear hb ho23; obtain ⟨Ao24, co24, eo24⟩ := Kd.R_slice HO121.out; subst eo24) | ((with_reducible refine gate_dst (N := 41) rfl ?_); refine Kd.R_lit k37 _ 37 ?hg (N := 41) ?hd (xs := ([(⟨0, (⟨#[]⟩ : ByteArray), (⟨#[]⟩ : ByteArray), 0, 0⟩ : S37)] : List (S37))) (inner := [.int .i64 0, .string (⟨#[]⟩ : ByteArray), .string (⟨#[]⟩ : ByteArray), .int .i64 0, .int .i64 0]) (ok := fun _ => True) (okp := fun _ => True) ?hr ?hp (fun _ hk => hk) trivial (Below.refl _ _) (Nat.le_refl _) (by simp) ?_; (case hd => rfl); (case hg => rfl); (case hr => first | (go_simp; done) | (go_simp; rfl) | (go_simp; simp only [isEmpty_ne, isEmpty_eq]; done) | (go_simp; simp only [isEmpty_ne, isEmpty_eq]; rfl)); (case hp => exact (Reps.c5 (show Kd.M k37 _ _ _ (⟨0, (⟨#[]⟩ : ByteArray), (⟨#[]⟩ : ByteArray), 0, 0⟩ : S37) [.int .i64 0, .string (⟨#[]⟩ : ByteArray), .string (⟨#[]⟩ : ByteArray), .int .i64 0, .int .i64 0] from (k37_mkM _ _ _ (⟨0, (⟨#[]⟩ : ByteArray), (⟨#[]⟩ : ByteArray), 0, 0⟩ : S37) )) (Reps.none _ _))); intro v123 w25 ho26 hb hg_ hnew_; clear hg_ hnew_; (first | rw [← Ny122.out] at ho26 | (simp only [Int.reduceToNat] at ho26; rw [← Ny122.out] at ho26)); have n0_ := Aside0.mk (Kd.R_below (by (with_reducible repeat (first | apply Kd.R_alloc | apply Kd.R_drewN | apply Kd.R_drew)); exact HO109.out) hb); have n1_ := Aside0.mk (Kd.R_below (by (with_reducible repeat (first | apply Kd.R_alloc | apply Kd.R_drewN | apply Kd.R_drew)); exact HO121.out) hb); have n2_ := Aside0.mk (Kd.R_lower ho26 (below_size (by repeat (first | (with_reducible first | exact HB.out | apply below_alloc | apply pw_below_drewN | apply below_drew1) | exact HB.out)))); have n3_ := Aside0.mk (below_step (by repeat (first | (with_reducible first | exact HB.out | apply below_alloc | apply pw_below_drewN | apply below_drew1) | exact HB.out)) hb); clear HO109; clear HO121; clear HB; have HO109 := n0_; have HO121 := n1_; have HO124 := n2_; have HB := n3_; clear n0_ n1_ n2_ n3_; clear hb ho26; obtain ⟨Ao27, co27, eo27⟩ := Kd.R_slice HO124.out; subst eo27) | ((with_reducible refine gate_callee (f := 15) rfl ?_); refine goesL_ (some 42) rfl rfl Tryz.func15 (by kernel_rfl) rfl #[.agg #[.int .i64 5, .int .i64 9, .slice Ao24 y119.length co24, .bool false], .int .i64 6, .int .i64 0, .bool false, .slice Ao27 y122.length co27] rfl (by (try simp only [List.map_toArray, List.map_cons, List.map_nil]); first | done | rfl | (simp only [List.length_drop, List.length_take]; rfl)) ?_; (with_reducible refine (route_Pass.calls 5 9 _ _ y119 false 6 0 false _ _ y122 t125 _ ?side1 ?side2 ?side3 ?side4 ?side5 A4.out).mono ?_); (case side1 => repeat (first | exact (Kd.R_reads' HO121.out).2.2 | (with_reducible refine Kd.C_alloc ?_ _) | (with_reducible refine Kd.C_drewN ?_ _) | (with_reducible refine Kd.C_drew ?_))); (case side2 => exact (Kd.R_reads' HO121.out).2.1); (case side3 => repeat (first | exact (Kd.R_reads' HO124.out).2.2 | (with_reducible refine Kd.C_alloc ?_ _) | (with_reducible refine Kd.C_drewN ?_ _) | (with_reducible refine Kd.C_drew ?_))); (case side4 => exact (Kd.R_reads' HO124.out).2.1); (case side5 => exact LaidR.below HLD.out (by repeat (first | (with_reducible first | exact HB.out | apply below_alloc | apply pw_below_drewN | apply below_drew1) | exact HB.out))); rintro e w28 ⟨rfl, hb⟩; refine ⟨_, rfl, ?_⟩; have n0_ := Aside0.mk (Kd.R_below (by (with_reducible repeat (first | apply Kd.R_alloc | apply Kd.R_drewN | apply Kd.R_drew)); exact HO109.out) hb); have n1_ := Aside0.mk (Kd.R_below (by (with_reducible repeat (first | apply Kd.R_alloc | apply Kd.R_drewN | apply Kd.R_drew)); exact HO121.out) hb); have n2_ := Aside0.mk (Kd.R_below (by (with_reducible repeat (first | apply Kd.R_alloc | apply Kd.R_drewN | apply Kd.R_drew)); exact HO124.out) hb); have n3_ := Aside0.mk (below_step (by repeat (first | (with_reducible first | exact HB.out | apply below_alloc | apply pw_below_drewN | apply below_drew1) | exact HB.out)) hb); clear HO109; clear HO121; clear HO124; clear HB; have HO109 := n0_; have HO121 := n1_; have HO124 := n2_; have HB := n3_; clear n0_ n1_ n2_ n3_; (try clear hb); (try clear hb2); (try clear hk); (try clear hi)) | ((with_reducible refine gate_dst (N := 45) rfl ?_); refine Kd.R_lit k37 _ 37 ?hg (N := 45) ?hd (xs := ([(⟨0, (⟨#[]⟩ : ByteArray), (⟨#[]⟩ : ByteArray), 0, 0⟩ : S37)] : List (S37))) (inner := [.int .i64 0, .string (⟨#[]⟩ : ByteArray), .string (⟨#[]⟩ : ByteArray), .int .i64 0, .int .i64 0]) (ok := fun _ => True) (okp := fun _ => True) ?hr ?hp (fun _ hk => hk) trivial (Below.refl _ _) (Nat.le_refl _) (by simp) ?_; (case hd => rfl); (case hg => rfl); (case hr => first | (go_simp; done) | (go_simp; rfl) | (go_simp; simp only [isEmpty_ne, isEmpty_eq]; done) | (go_simp; simp only [isEmpty_ne, isEmpty_eq]; rfl)); (case hp => exact (Reps.c5 (show Kd.M k37 _ _ _ (⟨0, (⟨#[]⟩ : ByteArray), (⟨#[]⟩ : ByteArray), 0, 0⟩ : S37) [.int .i64 0, .string (⟨#[]⟩ : ByteArray), .string (⟨#[]⟩ : ByteArray), .int .i64 0, .int .i64 0] from (k37_mkM _ _ _ (⟨0, (⟨#[]⟩ : ByteArray), (⟨#[]⟩ : ByteArray), 0, 0⟩ : S37) )) (Reps.none _ _))); intro v127 w29 ho30 hb hg_ hnew_; clear hg_ hnew_; (first | rw [← Ny126.out] at ho30 | (simp only [Int.reduceToNat] at ho30; rw [← Ny126.out] at ho30)); have n0_ := Aside0.mk (Kd.R_below (by (with_reducible repeat (first | apply Kd.R_alloc | apply Kd.R_drewN | apply Kd.R_drew)); exact HO109.out) hb); have n1_ := Aside0.mk (Kd.R_below (by (with_reducible repeat (first | apply Kd.R_alloc | apply Kd.R_drewN | apply Kd.R_drew)); exact HO121.out) hb); have n2_ := Aside0.mk (Kd.R_elder' (by (with_reducible repeat (first | apply Kd.R_alloc | apply Kd.R_drewN | apply Kd.R_drew)); exact HO124.out) (Kd.R_base ho30) hb); have n3_ := Aside0.mk (Kd.R_lower (Kd.R_new' ho30 (Kd.R_lt (by (with_reducible repeat (first | apply Kd.R_alloc | apply Kd.R_drewN | apply Kd.R_drew)); exact HO124.out))) (below_size (by repeat (first | (with_reducible first | exact HB.out | apply below_alloc | apply pw_below_drewN | apply below_drew1) | exact HB.out)))); have n4_ := Aside0.mk (below_step (by repeat (first | (with_reducible first | exact HB.out | apply below_alloc | apply pw_below_drewN | apply below_drew1) | exact HB.out)) hb); clear HO109; clear HO121; clear HO124; clear HB; have HO109 := n0_; have HO121 := n1_; have HO124 := n2_; have HO128 := n3_; have HB := n4_; clear n0_ n1_ n2_ n3_ n4_; clear hb ho30; obtain ⟨Ao31, co31, eo31⟩ := Kd.R_slice HO128.out; subst eo31) | ((with_reducible refine gate_callee (f := 15) rfl ?_); refine goesL_ (some 46) rfl rfl Tryz.func15 (by kernel_rfl) rfl #[.agg #[.int .i64 5, .int .i64 9, .slice none 0 0, .bool false], .int .i64 6, .int .i64 0, .bool false, .slice Ao31 y126.length co31] rfl (by (try simp only [List.map_toArray, List.map_cons, List.map_nil]); first | done | rfl | (simp only [List.length_drop, List.length_take]; rfl)) ?_; (refine (route_Pass.calls 5 9 _ _ ([] : List ByteArray) false 6 0 false _ _ y126 t129 _ ?side1 ?side2 ?side3 ?side4 ?side5 A5.out).mono ?_); (case side1 => exact Kd.C_nil _ _); (case side2 => exact Nat.le_refl _); (case side3 => repeat (first | exact (Kd.R_reads' HO128.out).2.2 | (with_reducible refine Kd.C_alloc ?_ _) | (with_reducible refine Kd.C_drewN ?_ _) | (with_reducible refine Kd.C_drew ?_))); (case side4 => exact (Kd.R_reads' HO128.out).2.1); (case side5 => exact LaidR.below HLD.out (by repeat (first | (with_reducible first | exact HB.out | apply below_alloc | apply pw_below_drewN | apply below_drew1) | exact HB.out))); rintro e w32 ⟨rfl, hb⟩; refine ⟨_, rfl, ?_⟩; have n0_ := Aside0.mk (Kd.R_below (by (with_reducible repeat (first | apply Kd.R_alloc | apply Kd.R_drewN | apply Kd.R_drew)); exact HO109.out) hb); have n1_ := Aside0.mk (Kd.R_below (by (with_reducible repeat (first | apply Kd.R_alloc | apply Kd.R_drewN | apply Kd.R_drew)); exact HO121.out) hb); have n2_ := Aside0.mk (Kd.R_below (by (with_reducible repeat (first | apply Kd.R_alloc | apply Kd.R_drewN | apply Kd.R_drew)); exact HO124.out) hb); have n3_ := Aside0.mk (Kd.R_below (by (with_reducible repeat (first | apply Kd.R_alloc | apply Kd.R_drewN | apply Kd.R_drew)); exact HO128.out) hb); have n4_ := Aside0.mk (below_step (by repeat (first | (with_reducible first | exact HB.out | apply below_alloc | apply pw_below_drewN | apply below_drew1) | exact HB.out)) hb); clear HO109; clear HO121; clear HO124; clear HO128; clear HB; have HO109 := n0_; have HO121 := n1_; have HO124 := n2_; have HO128 := n3_; have HB := n4_; clear n0_ n1_ n2_ n3_ n4_; (try clear hb); (try clear hb2); (try clear hk); (try clear hi)))
                      all_goals (first | (go_ret; exact ⟨by first | rfl | (simp [errW_none, errW_some] <;> rfl) | (simp [*, errW_none, errW_some] <;> rfl) | (simp_all; done) | fail, by repeat (first | (with_reducible first | exact HB.out | apply below_alloc | apply pw_below_drewN | apply below_drew1) | exact HB.out)⟩) | (exfalso; simp_all; done) | (exfalso; simp only [isEmpty_eq, isEmpty_ne] at *; simp_all; done) | (exfalso; exact isEmpty_clash (by assumption) (by assumption)) | (exfalso; exact isEmpty_clash' (by assumption) (by assumption)) | (exfalso; exact isEmpty_clash2 (by assumption) (by assumption)))
                    · rw [if_neg c15] at H
                      exact absurd H (by simp)
                  · rw [if_neg c14] at H
                    exact absurd H (by simp)
                · replace c13 := Bool.eq_false_iff.mpr c13
                  subst c13
                  have H1 : (none) = some r := by rw [if_neg (show ¬ (false = true) by decide)] at H; exact H
                  clear H
                  have H := H1
                  clear H1
                  exact absurd H (by simp)
              · rw [if_neg c12] at H
                exact absurd H (by simp)
            · rw [if_neg c11] at H
              exact absurd H (by simp)
          · replace c10 := Bool.eq_false_iff.mpr c10
            subst c10
            have H1 : (none) = some r := by rw [if_neg (show ¬ (false = true) by decide)] at H; exact H
            clear H
            have H := H1
            clear H1
            exact absurd H (by simp)
        · rw [if_neg c9] at H
          exact absurd H (by simp)
      · rw [if_neg c8] at H
        exact absurd H (by simp)
    · replace c7 := Bool.eq_false_iff.mpr c7
      subst c7
      have H1 : (none) = some r := by rw [if_neg (show ¬ (false = true) by decide)] at H; exact H
      clear H
      have H := H1
      clear H1
      exact absurd H (by simp)
  · rw [if_neg c6] at H
    exact absurd H (by simp)
end Go.Proofs.YtaknknfcikdjiaaGreatDoor.RF
end
section
namespace Go.Proofs.YtaknknfcikdjiaaGreatDoor.Hand
open Go.RowKit Go.Proofs.YtaknknfcikdjiaaGreatDoorW Go.Proofs.YtaknknfcikdjiaaGreatDoorW.PrintWords Go.Proofs.YtaknknfcikdjiaaGreatDoor.SA Go.Proofs.YtaknknfcikdjiaaGreatDoor.RK Go.Proofs.YtaknknfcikdjiaaGreatDoor.RF
theorem shown_true : postriderlaw16_shown.f = some true := by decide +kernel
theorem wrap_up (i : Nat) (h : i ≤ 1000000) : wrap64 ((i : Int) + 1) = ((i + 1 : Nat) : Int) := by unfold wrap64; omega
end Go.Proofs.YtaknknfcikdjiaaGreatDoor.Hand
end
section
namespace Go.Proofs.YtaknknfcikdjiaaGreatDoor.Hand
open Go.RowKit Go.Proofs.YtaknknfcikdjiaaGreatDoorW Go.Proofs.YtaknknfcikdjiaaGreatDoorW.PrintWords Go.Proofs.YtaknknfcikdjiaaGreatDoor.SA Go.Proofs.YtaknknfcikdjiaaGreatDoor.RK Go.Proofs.YtaknknfcikdjiaaGreatDoor.RF
section
variable {x y : List Int}
end
theorem few_from (x : List S37) : ∀ (d k i : Nat) (acc : List S37), 32 - i = d → d < k → i ≤ 32 → acc.length = i → (∀ z ∈ acc, z.f1.size ≤ 21 ∧ z.f2.size ≤ 21) →
    ∃ l, postriderlaw07_Few.l0 k x acc (i : Int) = some l ∧ l.length ≤ 32 ∧ ∀ z ∈ l, z.f1.size ≤ 21 ∧ z.f2.size ≤ 21 := by
  intro d
  induction d with
  | zero =>
    intro k i acc hd hk hi hl ha
    obtain ⟨k, rfl⟩ : ∃ m, k = m + 1 := ⟨k - 1, by omega⟩
    refine ⟨acc, ?_, by omega, ha⟩
    simp only [postriderlaw07_Few.l0]
    by_cases h : (i : Int) < (x.length : Int)
    · rw [if_pos h, if_neg (by omega)]
    · rw [if_neg h]
  | succ d ih =>
    intro k i acc hd hk hi hl ha
    obtain ⟨k, rfl⟩ : ∃ m, k = m + 1 := ⟨k - 1, by omega⟩
    simp only [postriderlaw07_Few.l0]
    by_cases h : (i : Int) < (x.length : Int)
    · obtain ⟨b1, b2, hc, s1, s2⟩ := Cut_is (rd_T37 x (i : Int)).f0 (rd_T37 x (i : Int)).f1 (rd_T37 x (i : Int)).f2 (rd_T37 x (i : Int)).f3 (rd_T37 x (i : Int)).f4
      rw [if_pos h, if_pos (by omega), if_pos (by omega), hc]
      simp only [Option.bind_some]
      rw [if_pos (by omega), wrap_up i (by omega)]
      refine ih k (i + 1) _ (by omega) (by omega) (by omega) (by simp [hl]) (fun z hz => ?_)
      rcases List.mem_append.1 hz with hz | hz
      · exact ha z hz
      · rw [List.mem_singleton.1 hz]; exact ⟨s1, s2⟩
    · refine ⟨acc, ?_, by omega, ha⟩
      rw [if_neg h]
theorem few_is (x : List S37) (k : Nat) (hk : 32 < k) : ∃ l, postriderlaw07_Few.f k x = some l ∧ l.length ≤ 32 ∧ ∀ z ∈ l, z.f1.size ≤ 21 ∧ z.f2.size ≤ 21 := by
  unfold postriderlaw07_Few.f
  exact few_from x 32 k 0 [] (by omega) hk (by omega) rfl (fun z hz => by cases hz)
theorem cutP_from (m1 m2 : Int) (cu : Bool) (x : List ByteArray) : ∀ (d k i : Nat) (acc : List ByteArray), 22 - i = d → d < k → i ≤ 22 → acc.length = i →
    ∃ l, postriderlaw16_CutPolicy.l0 k acc (i : Int) m1 m2 x cu = some (m1, m2, l, cu) ∧ l.length ≤ 22 := by
  intro d
  induction d with
  | zero =>
    intro k i acc hd hk hi hl
    obtain ⟨k, rfl⟩ : ∃ m, k = m + 1 := ⟨k - 1, by omega⟩
    refine ⟨acc, ?_, by omega⟩
    simp only [postriderlaw16_CutPolicy.l0]
    by_cases h : (i : Int) < (x.length : Int)
    · rw [if_pos h, if_neg (by omega)]
    · rw [if_neg h]
  | succ d ih =>
    intro k i acc hd hk hi hl
    obtain ⟨k, rfl⟩ : ∃ m, k = m + 1 := ⟨k - 1, by omega⟩
    simp only [postriderlaw16_CutPolicy.l0]
    by_cases h : (i : Int) < (x.length : Int)
    · obtain ⟨h1, h2, h3⟩ := mn_len (rdOf ByteArray.empty x (i : Int)).size 61 (by decide)
      rw [if_pos h, if_pos (by omega), if_pos (by omega), if_pos h1, if_pos h2, if_pos (by omega), wrap_up i (by omega)]
      exact ih k (i + 1) _ (by omega) (by omega) (by omega) (by simp [hl])
    · refine ⟨acc, ?_, by omega⟩
      rw [if_neg h]
theorem CutPolicy_is (m1 m2 : Int) (cu : Bool) (x : List ByteArray) (k : Nat) (hk : 30 < k) : ∃ l, postriderlaw16_CutPolicy.f k m1 m2 x cu = some (m1, m2, l, cu) ∧ l.length ≤ 22 := by
  unfold postriderlaw16_CutPolicy.f
  exact cutP_from m1 m2 cu x 22 k 0 [] (by omega) (by omega) (by omega) rfl
theorem Pass_is (m1 m2 : Int) (deny : List ByteArray) (cu : Bool) (size life : Int) (custody : Bool) (names : List Nm) (hs : ∀ z ∈ names, z.f1.size ≤ 21 ∧ z.f2.size ≤ 21) :
    route_Pass.f m1 m2 deny cu size life custody names = some (passT m1 m2 deny cu size life custody names) := by
  unfold route_Pass.f
  rw [if_pos]
  unfold okB
  rw [List.all_eq_true]
  intro x hx
  have h1 : x.f1.size ≤ maxLen := Nat.le_trans (hs x hx).1 (by decide)
  have h2 : x.f2.size ≤ maxLen := Nat.le_trans (hs x hx).2 (by decide)
  simp [h1, h2]
end Go.Proofs.YtaknknfcikdjiaaGreatDoor.Hand
end
section
namespace Go.Proofs.YtaknknfcikdjiaaGreatDoor.Hand
open Go.RowKit Go.Proofs.YtaknknfcikdjiaaGreatDoorW Go.Proofs.YtaknknfcikdjiaaGreatDoorW.PrintWords Go.Proofs.YtaknknfcikdjiaaGreatDoorW.PrintLast Go.Proofs.YtaknknfcikdjiaaGreatDoorW.PrintMore Go.Proofs.YtaknknfcikdjiaaGreatDoor.SA Go.Proofs.YtaknknfcikdjiaaGreatDoor.RK Go.Proofs.YtaknknfcikdjiaaGreatDoor.RF
attribute [local go_sem] max2_int min2_int max_two min_two
theorem pass_no164 (m1 m2 : Int) (d : List ByteArray) (size life : Int) (custody : Bool) (l : List Nm) : ¬ passT m1 m2 d true size life custody l = 164 := by
  unfold passT
  cases custody <;> (repeat' split) <;> simp_all
theorem any_drop {α : Type} (p : α → Bool) (l : List α) (h : l.any p = false) : (l.drop 1).any p = false := by
  rw [List.any_eq_false] at h ⊢
  exact fun x hx => h x (List.mem_of_mem_drop hx)
theorem pass_less (m1 m2 : Int) (d : List ByteArray) (cu : Bool) (size life : Int) (custody : Bool) (l : List Nm) (h : passT m1 m2 d cu size life custody l = 0) : passT m1 m2 (d.drop 1) true (mn size 5) (mn life 5) custody l = 0 := by
  unfold passT at h
  cases hp : rightPol m1 m2 d with
  | false => rw [hp] at h; simp at h
  | true =>
  rw [hp, if_neg (by decide)] at h
  cases ha : l.all Nm.right with
  | false => rw [ha] at h; simp at h
  | true =>
  rw [ha, if_neg (by decide)] at h
  cases hb : l.any (begun d) with
  | true => rw [hb] at h; simp at h
  | false =>
  rw [hb, if_neg (by decide)] at h
  have h1 : ¬ size > m1 := fun q => by rw [if_pos q] at h; simp at h
  rw [if_neg h1] at h
  have h2 : ¬ life > m2 := fun q => by rw [if_pos q] at h; simp at h
  have hp2 : rightPol m1 m2 (d.drop 1) = true := by
    unfold rightPol at hp ⊢
    simp only [Bool.and_eq_true, decide_eq_true_eq, Bool.not_eq_true'] at hp ⊢
    exact ⟨hp.1, hp.2.1, by rw [List.length_drop]; omega, any_drop _ _ hp.2.2.2⟩
  have hb2 : l.any (begun (d.drop 1)) = false := by
    rw [List.any_eq_false] at hb ⊢
    intro x hx hq
    refine hb x hx ?_
    unfold begun at hq ⊢
    obtain ⟨t, ht, hq⟩ := List.any_eq_true.1 hq
    exact List.any_eq_true.2 ⟨t, List.mem_of_mem_drop ht, hq⟩
  unfold passT
  rw [hp2, ha, hb2, if_neg (by decide), if_neg (by decide), if_neg (by decide), if_neg (by unfold mn; split <;> omega), if_neg (by unfold mn; split <;> omega)]
  cases custody <;> rfl
theorem infoStr : (Tryz.prog.info? 9).map (fun i => (i.zero, i.size, i.bytes)) = some (some (.string ⟨#[]⟩), 1, 16) := by kernel_rfl
set_option maxRecDepth 100000 in
set_option maxHeartbeats 4000000 in
theorem less_walk (m1 m2 : Int) (A0 : Option Addr) (c0 : Nat) (deny : List ByteArray) (cu : Bool) (size life : Int) (custody : Bool) (A4 : Option Addr) (c4 : Nat) (names : List Nm) (w : World) (hr0 : Kd.C Kd.string w A0 deny.length deny) (hc0 : deny.length ≤ c0) (hr4 : Kd.C kNm w A4 names.length names) (hc4 : names.length ≤ c4) (hLd : LaidR w)
    (d : List ByteArray) (l : List Nm) (hd : postriderlaw16_CutPolicy.f 100 m1 m2 deny cu = some (m1, m2, d, cu)) (hl : postriderlaw07_Few.f 100 names = some l) (hs : ∀ z ∈ l, z.f1.size ≤ 21 ∧ z.f2.size ≤ 21) :
    Calls Tryz.prog 5 #[.agg #[.int .i64 m1, .int .i64 m2, .slice A0 deny.length c0, .bool cu], .int .i64 size, .int .i64 life, .bool custody, .slice A4 names.length c4] w fun e w' => e = .returned (.bool true) ∧ Below w.heap.size w w' := by
  have hu := Tryz.underlying24
  obtain ⟨w1, hw1⟩ : ∃ w1, w1 = w.alloc (.cells #[.int .i64 m1, .int .i64 m2, .slice A0 deny.length c0, .bool cu] 24) := ⟨_, rfl⟩
  have hB1 : Below w.heap.size w w1 := by rw [hw1]; exact b_alloc (Below.refl _ _) _
  have hz : w1.heap[w.heap.size]? = some (.cells #[.int .i64 m1, .int .i64 m2, .slice A0 deny.length c0, .bool cu] 24) := by rw [hw1]; exact World.alloc_heap_new _ _
  have hL := hLd.below hB1
  have hsh := postriderlaw16_shown.calls true w1 hL shown_true
  have hCP := fun W (hb : Below w1.heap.size w1 W) => postriderlaw16_CutPolicy.calls 100 m1 m2 A0 c0 deny cu m1 m2 d cu W (Kd.C_below (Kd.C_below hr0 hB1) hb) hc0 hd
  have HCP := Lib.hid hCP
  have HL := Lib.hid hLd
  have HB1 := Lib.hid hB1
  have HZ := Lib.hid hz
  have HR4 := Lib.hid hr4
  have HW1 := Lib.hid hw1
  rw [hw1] at hsh
  clear hr0 hr4 hLd hB1 hz hL hCP hd hc0 hw1
  go_enter Tryz.func5, Tryz.ntmps5
  go_wp2_with (first | (go_at_call 10; refine hsh.mono ?_; rintro e wS ⟨rfl, hbS⟩; rw [← HW1.out] at hbS; have hpz := (hbS.block _ (Array.getElem?_eq_some_iff.1 HZ.out).1).trans HZ.out; have z0 := cell_blk hpz 0; have z1 := cell_blk hpz 1; have z2 := cell_blk hpz 2; have z3 := cell_blk hpz 3; simp at z0 z1 z2 z3) | (go_at_call 11; refine (HCP.out _ hbS).mono ?_; rintro e w3 ⟨v2, rfl, hR3, hb3⟩; obtain ⟨A2, c2, rfl⟩ := Kd.R_slice hR3; have hp3 := (hb3.block _ (Array.getElem?_eq_some_iff.1 hpz).1).trans hpz; have y0 := cell_blk hp3 0; have y1 := cell_blk hp3 1; have y2 := cell_blk hp3 2; have y3 := cell_blk hp3 3; have yf := fun j => frozen_blk hp3 j; simp at y0 y1 y2 y3; have HP3 := Lib.hid hp3; have HR3 := Lib.hid hR3; have HB3 := Lib.hid (hbS.trans (hb3.mono hbS.size)); clear hp3 hpz hR3 hb3))
  obtain ⟨w4, hw4⟩ : ∃ w4, w4 = ((((w3.setCell ⟨w.heap.size, 0, none⟩ (.int .i64 m1)).setCell ⟨w.heap.size, 1, none⟩ (.int .i64 m2)).setCell ⟨w.heap.size, 2, none⟩ (.slice A2 d.length c2)).setCell ⟨w.heap.size, 3, none⟩ (.bool cu)) := ⟨_, rfl⟩
  have hp4 : w4.heap[w.heap.size]? = some (.cells #[.int .i64 m1, .int .i64 m2, .slice A2 d.length c2, .bool cu] 24) := by
    rw [hw4]
    exact blk_set (blk_set (blk_set (blk_set HP3.out 0 _) 1 _) 2 _) 3 _
  have hb4 : Below w.heap.size w w4 := by
    rw [hw4]
    iterate 4 refine Below.setCell ?_ (show w.heap.size ≤ w.heap.size from Nat.le_refl _) _
    exact HB1.out.trans (HB3.out.mono HB1.out.size)
  have hR4 : Kd.R Kd.string 9 w4 wS.heap.size (fun _ => True) (.slice A2 d.length c2) d := by
    rw [hw4]
    have hne : ∀ q, q ∈ 9 :: (Kd.string).E → q ≠ 24 := fun q hq => by
      have : q = 9 := by simpa [Kd.string, Kd.scalar] using hq
      rw [this]; decide
    have r1 := Kd.R_set HR3.out HP3.out hne 0 (.int .i64 m1)
    have r2 := Kd.R_set r1 (blk_set HP3.out 0 _) hne 1 (.int .i64 m2)
    have r3 := Kd.R_set r2 (blk_set (blk_set HP3.out 0 _) 1 _) hne 2 (.slice A2 d.length c2)
    exact Kd.R_set r3 (blk_set (blk_set (blk_set HP3.out 0 _) 1 _) 2 _) hne 3 (.bool cu)
  rw [← hw4]
  clear hw4 HP3 HR3 y0 y1 y2 y3 yf z0 z1 z2 z3 HB3 HCP HZ hbS
  obtain ⟨A2', c2', he2, hc2, hD4⟩ := Kd.R_reads hR4
  injection he2 with e1 e2 e3
  subst e1 e3
  refine (postriderlaw07_Few.calls 100 A4 c4 names l w4 (Kd.C_below HR4.out hb4) hc4 hl).mono ?_
  rintro e w5 ⟨v5, rfl, hR5, hb5⟩
  obtain ⟨A5, c5, rfl, hc5, hN5⟩ := Kd.R_reads hR5
  have hp5 := (hb5.block _ (Array.getElem?_eq_some_iff.1 hp4).1).trans hp4
  have HP5 := Lib.hid hp5
  have HB5 := Lib.hid (hb4.trans (hb5.mono hb4.size))
  have HD5 := Lib.hid (Kd.C_below hD4 hb5)
  have HN5 := Lib.hid hN5
  have HC2 := Lib.hid hc2
  have HC5 := Lib.hid hc5
  have p0 := cell_blk hp5 0
  have p1 := cell_blk hp5 1
  have p2 := cell_blk hp5 2
  have p3 := cell_blk hp5 3
  simp at p0 p1 p2 p3
  have hz5 := blk_alloc hp5 (.cells #[.int .i64 m1, .int .i64 m2, .slice A2 d.length c2, .bool cu] 24)
  have r2 : (w5.alloc (.cells #[.int .i64 m1, .int .i64 m2, .slice A2 d.length c2, .bool cu] 24)).cell? ⟨w.heap.size, 2, none⟩ = some (.slice A2 d.length c2) := cell_blk hz5 2
  clear hR4 hR5 hD4 hN5 hp4 hp5 hb4 hb5 hl hc4 HR4 hc5 hz5
  clear e2
  obtain ⟨i0, hi0, _, hsz, _⟩ := info_parts infoStr
  by_cases hlen : 0 < d.length
  · have hz : (0 : Int) < (d.length : Int) := by omega
    obtain ⟨Aq, hcut, hrd, hcq⟩ := print_drop_of (P := Tryz.prog) Value.string (⟨#[]⟩ : ByteArray) 22 9 .i64 Tryz.underlying22 hi0 hsz A2 c2 d 1 (by decide) (by omega) HC2.out
    obtain ⟨cq, hcqe⟩ : ∃ cq, c2 - (1 : Int).toNat = cq := ⟨_, rfl⟩
    rw [hcqe] at hcut hcq
    have e1 : (1 : Int).toNat = 1 := rfl
    rw [e1] at hcut hcq hrd
    have HCQ := Lib.hid (Kd.C_of_reads (h1 := fun _ => rfl) (hrd w5 (Kd.reads_of_C (d := (⟨#[]⟩ : ByteArray)) HD5.out)) : Kd.C Kd.string w5 Aq (d.drop 1).length (d.drop 1))
    have HCq := Lib.hid hcq
    clear hrd hcqe hi0 hsz
    have hx6 : ((w5.alloc (.cells #[.int .i64 m1, .int .i64 m2, .slice Aq (d.length - 1) cq, .bool true] 24))).heap[w.heap.size]? = some (.cells #[.int .i64 m1, .int .i64 m2, .slice A2 d.length c2, .bool cu] 24) := blk_alloc HP5.out _
    have m0 : ((w5.alloc (.cells #[.int .i64 m1, .int .i64 m2, .slice Aq (d.length - 1) cq, .bool true] 24))).cell? ⟨w.heap.size, 0, none⟩ = some (.int .i64 m1) := cell_blk hx6 0
    have m1_ : ((w5.alloc (.cells #[.int .i64 m1, .int .i64 m2, .slice Aq (d.length - 1) cq, .bool true] 24))).cell? ⟨w.heap.size, 1, none⟩ = some (.int .i64 m2) := cell_blk hx6 1
    have m2_ : ((w5.alloc (.cells #[.int .i64 m1, .int .i64 m2, .slice Aq (d.length - 1) cq, .bool true] 24))).cell? ⟨w.heap.size, 2, none⟩ = some (.slice A2 d.length c2) := cell_blk hx6 2
    have m3 : ((w5.alloc (.cells #[.int .i64 m1, .int .i64 m2, .slice Aq (d.length - 1) cq, .bool true] 24))).cell? ⟨w.heap.size, 3, none⟩ = some (.bool cu) := cell_blk hx6 3
    clear hx6
    go_wp2_with (fail)
    clear m0 m1_ m2_ m3 p0 p1 p2 p3 r2
    obtain ⟨w6, hw6⟩ : ∃ w6, w6 = (w5.alloc (.cells #[.int .i64 m1, .int .i64 m2, .slice Aq (d.length - 1) cq, .bool true] 24)) := ⟨_, rfl⟩
    have hb6 : Below w5.heap.size w5 w6 := by
      rw [hw6]
      exact b_alloc (Below.refl _ _) _
    have hq6 : w6.heap[w5.heap.size]? = some (.cells #[.int .i64 m1, .int .i64 m2, .slice Aq (d.drop 1).length cq, .bool true] 24) := by
      rw [hw6]
      rw [List.length_drop]
      exact World.alloc_heap_new _ _
    have hp6 := (hb6.block _ (Array.getElem?_eq_some_iff.1 HP5.out).1).trans HP5.out
    rw [← hw6]
    clear hw6
    have HB6 := Lib.hid (HB5.out.trans (hb6.mono HB5.out.size))
    have HK6 := Lib.hid hb6
    have HL6 := Lib.hid (HL.out.below HB6.out)
    obtain ⟨js, hjs⟩ : ∃ j : Int, (if (5 : Int) < size then (5 : Int) else size) = j := ⟨_, rfl⟩
    obtain ⟨jl, hjl⟩ : ∃ j : Int, (if (5 : Int) < life then (5 : Int) else life) = j := ⟨_, rfl⟩
    obtain ⟨ev, hev⟩ : ∃ ev, passT m1 m2 d cu size life custody l = ev := ⟨_, rfl⟩
    obtain ⟨fv, hfv⟩ : ∃ fv, passT m1 m2 (d.drop 1) true js jl custody l = fv := ⟨_, rfl⟩
    have hef : ev = 0 → fv = 0 := fun h => by rw [← hfv, ← hjs, ← hjl]; exact pass_less m1 m2 d cu size life custody l (by rw [hev]; exact h)
    have hf4 : ¬ fv = 164 := by rw [← hfv]; exact pass_no164 _ _ _ _ _ _ _
    refine (route_Pass.calls m1 m2 A2 c2 d cu size life custody A5 c5 l ev w6 (Kd.C_below HD5.out hb6) HC2.out (Kd.C_below HN5.out hb6) HC5.out HL6.out (by rw [Pass_is _ _ _ _ _ _ _ _ hs, hev])).mono ?_
    rintro e w7 ⟨rfl, hb7⟩
    have hq7 := (hb7.block _ (Array.getElem?_eq_some_iff.1 hq6).1).trans hq6
    have hp7 := (hb7.block _ (Array.getElem?_eq_some_iff.1 hp6).1).trans hp6
    have q0 := cell_blk hq7 0
    have q1 := cell_blk hq7 1
    have q2 := cell_blk hq7 2
    have q3 := cell_blk hq7 3
    simp at q0 q1 q2 q3
    have HP7 := Lib.hid hp7
    have HB7 := Lib.hid (HB6.out.trans (hb7.mono HB6.out.size))
    have HK7 := Lib.hid (HK6.out.trans (hb7.mono HK6.out.size))
    clear hq6 hp6 hq7 hp7 hb6 hb7
    have hP2 := route_Pass.calls m1 m2 Aq cq (d.drop 1) true js jl custody A5 c5 l fv w7 (Kd.C_below HCQ.out HK7.out) HCq.out (Kd.C_below HN5.out HK7.out) HC5.out (HL.out.below HB7.out) (by rw [Pass_is _ _ _ _ _ _ _ _ hs, hfv])
    rw [List.length_drop] at hP2
    have hRP := fun W (hb : Below w7.heap.size w7 W) => route_RightPolicy.calls0 m1 m2 A2 c2 d cu W (Kd.C_below (Kd.C_below HD5.out HK7.out) hb)
    have HRP := Lib.hid hRP
    clear hRP
    generalize rightPol m1 m2 d = rp at HRP
    by_cases he : ev = 0
    · have hf := hef he
      subst he hf
      cases rp with
      | true =>
        go_wp2_with (first | (go_at_call 15; refine hP2.mono ?_; rintro e w8 ⟨rfl, hb8⟩; have hp8 := (hb8.block _ (Array.getElem?_eq_some_iff.1 HP7.out).1).trans HP7.out; have y0 := cell_blk hp8 0; have y1 := cell_blk hp8 1; have y2 := cell_blk hp8 2; have y3 := cell_blk hp8 3; simp at y0 y1 y2 y3; clear hp8) | (go_at_call 13; refine (HRP.out _ hb8).mono ?_; rintro e w9 ⟨rfl, hb9⟩))
        go_ret
        exact ⟨by simp, HB7.out.trans ((hb8.trans (hb9.mono hb8.size)).mono HB7.out.size)⟩
      | false =>
        go_wp2_with (first | (go_at_call 15; refine hP2.mono ?_; rintro e w8 ⟨rfl, hb8⟩; have hp8 := (hb8.block _ (Array.getElem?_eq_some_iff.1 HP7.out).1).trans HP7.out; have y0 := cell_blk hp8 0; have y1 := cell_blk hp8 1; have y2 := cell_blk hp8 2; have y3 := cell_blk hp8 3; simp at y0 y1 y2 y3; clear hp8) | (go_at_call 13; refine (HRP.out _ hb8).mono ?_; rintro e w9 ⟨rfl, hb9⟩))
        go_ret
        exact ⟨by simp, HB7.out.trans ((hb8.trans (hb9.mono hb8.size)).mono HB7.out.size)⟩
    · have he2 : (ev == 0) = false := beq_eq_false_iff_ne.2 he
      have hf2 : (fv == 164) = false := beq_eq_false_iff_ne.2 hf4
      cases rp with
      | true =>
        go_wp2_with (first | (go_at_call 15; refine hP2.mono ?_; rintro e w8 ⟨rfl, hb8⟩; have hp8 := (hb8.block _ (Array.getElem?_eq_some_iff.1 HP7.out).1).trans HP7.out; have y0 := cell_blk hp8 0; have y1 := cell_blk hp8 1; have y2 := cell_blk hp8 2; have y3 := cell_blk hp8 3; simp at y0 y1 y2 y3; clear hp8) | (go_at_call 13; refine (HRP.out _ hb8).mono ?_; rintro e w9 ⟨rfl, hb9⟩))
        go_ret
        exact ⟨by first | (simp; done) | (simp [hf4]; done) | (simp [hf2]; done), HB7.out.trans ((hb8.trans (hb9.mono hb8.size)).mono HB7.out.size)⟩
      | false =>
        go_wp2_with (first | (go_at_call 15; refine hP2.mono ?_; rintro e w8 ⟨rfl, hb8⟩; have hp8 := (hb8.block _ (Array.getElem?_eq_some_iff.1 HP7.out).1).trans HP7.out; have y0 := cell_blk hp8 0; have y1 := cell_blk hp8 1; have y2 := cell_blk hp8 2; have y3 := cell_blk hp8 3; simp at y0 y1 y2 y3; clear hp8) | (go_at_call 13; refine (HRP.out _ hb8).mono ?_; rintro e w9 ⟨rfl, hb9⟩))
        go_ret
        exact ⟨by first | (simp; done) | (simp [hf4]; done) | (simp [hf2]; done), HB7.out.trans ((hb8.trans (hb9.mono hb8.size)).mono HB7.out.size)⟩
  · have hz : ¬ (0 : Int) < (d.length : Int) := by omega
    have hd0 : d.drop 1 = d := by
      have := List.length_eq_zero_iff.1 (show d.length = 0 by omega)
      rw [this]; rfl
    obtain ⟨Aq, cq, hAq, hcq⟩ : ∃ Aq cq, Aq = A2 ∧ cq = c2 := ⟨_, _, rfl, rfl⟩
    subst hAq hcq
    have HCQ : Hid (Kd.C Kd.string w5 Aq (d.drop 1).length (d.drop 1)) := Lib.hid (by rw [hd0]; exact HD5.out)
    have HCq : Hid ((d.drop 1).length ≤ cq) := Lib.hid (by rw [hd0]; exact HC2.out)
    have HD0 := Lib.hid hd0
    clear hd0 hi0 hsz
    have hx6 : ((w5.alloc (.cells #[.int .i64 m1, .int .i64 m2, .slice Aq d.length cq, .bool true] 24))).heap[w.heap.size]? = some (.cells #[.int .i64 m1, .int .i64 m2, .slice Aq d.length cq, .bool cu] 24) := blk_alloc HP5.out _
    have m0 : ((w5.alloc (.cells #[.int .i64 m1, .int .i64 m2, .slice Aq d.length cq, .bool true] 24))).cell? ⟨w.heap.size, 0, none⟩ = some (.int .i64 m1) := cell_blk hx6 0
    have m1_ : ((w5.alloc (.cells #[.int .i64 m1, .int .i64 m2, .slice Aq d.length cq, .bool true] 24))).cell? ⟨w.heap.size, 1, none⟩ = some (.int .i64 m2) := cell_blk hx6 1
    have m2_ : ((w5.alloc (.cells #[.int .i64 m1, .int .i64 m2, .slice Aq d.length cq, .bool true] 24))).cell? ⟨w.heap.size, 2, none⟩ = some (.slice Aq d.length cq) := cell_blk hx6 2
    have m3 : ((w5.alloc (.cells #[.int .i64 m1, .int .i64 m2, .slice Aq d.length cq, .bool true] 24))).cell? ⟨w.heap.size, 3, none⟩ = some (.bool cu) := cell_blk hx6 3
    clear hx6
    go_wp2_with (fail)
    clear m0 m1_ m2_ m3 p0 p1 p2 p3 r2
    obtain ⟨w6, hw6⟩ : ∃ w6, w6 = (w5.alloc (.cells #[.int .i64 m1, .int .i64 m2, .slice Aq d.length cq, .bool true] 24)) := ⟨_, rfl⟩
    have hb6 : Below w5.heap.size w5 w6 := by
      rw [hw6]
      exact b_alloc (Below.refl _ _) _
    have hq6 : w6.heap[w5.heap.size]? = some (.cells #[.int .i64 m1, .int .i64 m2, .slice Aq (d.drop 1).length cq, .bool true] 24) := by
      rw [hw6]
      rw [HD0.out]
      exact World.alloc_heap_new _ _
    have hp6 := (hb6.block _ (Array.getElem?_eq_some_iff.1 HP5.out).1).trans HP5.out
    rw [← hw6]
    clear hw6
    have HB6 := Lib.hid (HB5.out.trans (hb6.mono HB5.out.size))
    have HK6 := Lib.hid hb6
    have HL6 := Lib.hid (HL.out.below HB6.out)
    obtain ⟨js, hjs⟩ : ∃ j : Int, (if (5 : Int) < size then (5 : Int) else size) = j := ⟨_, rfl⟩
    obtain ⟨jl, hjl⟩ : ∃ j : Int, (if (5 : Int) < life then (5 : Int) else life) = j := ⟨_, rfl⟩
    obtain ⟨ev, hev⟩ : ∃ ev, passT m1 m2 d cu size life custody l = ev := ⟨_, rfl⟩
    obtain ⟨fv, hfv⟩ : ∃ fv, passT m1 m2 (d.drop 1) true js jl custody l = fv := ⟨_, rfl⟩
    have hef : ev = 0 → fv = 0 := fun h => by rw [← hfv, ← hjs, ← hjl]; exact pass_less m1 m2 d cu size life custody l (by rw [hev]; exact h)
    have hf4 : ¬ fv = 164 := by rw [← hfv]; exact pass_no164 _ _ _ _ _ _ _
    refine (route_Pass.calls m1 m2 Aq cq d cu size life custody A5 c5 l ev w6 (Kd.C_below HD5.out hb6) HC2.out (Kd.C_below HN5.out hb6) HC5.out HL6.out (by rw [Pass_is _ _ _ _ _ _ _ _ hs, hev])).mono ?_
    rintro e w7 ⟨rfl, hb7⟩
    have hq7 := (hb7.block _ (Array.getElem?_eq_some_iff.1 hq6).1).trans hq6
    have hp7 := (hb7.block _ (Array.getElem?_eq_some_iff.1 hp6).1).trans hp6
    have q0 := cell_blk hq7 0
    have q1 := cell_blk hq7 1
    have q2 := cell_blk hq7 2
    have q3 := cell_blk hq7 3
    simp at q0 q1 q2 q3
    have HP7 := Lib.hid hp7
    have HB7 := Lib.hid (HB6.out.trans (hb7.mono HB6.out.size))
    have HK7 := Lib.hid (HK6.out.trans (hb7.mono HK6.out.size))
    clear hq6 hp6 hq7 hp7 hb6 hb7
    have hP2 := route_Pass.calls m1 m2 Aq cq (d.drop 1) true js jl custody A5 c5 l fv w7 (Kd.C_below HCQ.out HK7.out) HCq.out (Kd.C_below HN5.out HK7.out) HC5.out (HL.out.below HB7.out) (by rw [Pass_is _ _ _ _ _ _ _ _ hs, hfv])
    rw [List.length_drop] at hP2
    have hRP := fun W (hb : Below w7.heap.size w7 W) => route_RightPolicy.calls0 m1 m2 Aq cq d cu W (Kd.C_below (Kd.C_below HD5.out HK7.out) hb)
    have HRP := Lib.hid hRP
    clear hRP
    generalize rightPol m1 m2 d = rp at HRP
    by_cases he : ev = 0
    · have hf := hef he
      subst he hf
      cases rp with
      | true =>
        go_wp2_with (first | (go_at_call 15; refine hP2.mono ?_; rintro e w8 ⟨rfl, hb8⟩; have hp8 := (hb8.block _ (Array.getElem?_eq_some_iff.1 HP7.out).1).trans HP7.out; have y0 := cell_blk hp8 0; have y1 := cell_blk hp8 1; have y2 := cell_blk hp8 2; have y3 := cell_blk hp8 3; simp at y0 y1 y2 y3; clear hp8) | (go_at_call 13; refine (HRP.out _ hb8).mono ?_; rintro e w9 ⟨rfl, hb9⟩))
        go_ret
        exact ⟨by simp, HB7.out.trans ((hb8.trans (hb9.mono hb8.size)).mono HB7.out.size)⟩
      | false =>
        go_wp2_with (first | (go_at_call 15; refine hP2.mono ?_; rintro e w8 ⟨rfl, hb8⟩; have hp8 := (hb8.block _ (Array.getElem?_eq_some_iff.1 HP7.out).1).trans HP7.out; have y0 := cell_blk hp8 0; have y1 := cell_blk hp8 1; have y2 := cell_blk hp8 2; have y3 := cell_blk hp8 3; simp at y0 y1 y2 y3; clear hp8) | (go_at_call 13; refine (HRP.out _ hb8).mono ?_; rintro e w9 ⟨rfl, hb9⟩))
        go_ret
        exact ⟨by simp, HB7.out.trans ((hb8.trans (hb9.mono hb8.size)).mono HB7.out.size)⟩
    · have he2 : (ev == 0) = false := beq_eq_false_iff_ne.2 he
      have hf2 : (fv == 164) = false := beq_eq_false_iff_ne.2 hf4
      cases rp with
      | true =>
        go_wp2_with (first | (go_at_call 15; refine hP2.mono ?_; rintro e w8 ⟨rfl, hb8⟩; have hp8 := (hb8.block _ (Array.getElem?_eq_some_iff.1 HP7.out).1).trans HP7.out; have y0 := cell_blk hp8 0; have y1 := cell_blk hp8 1; have y2 := cell_blk hp8 2; have y3 := cell_blk hp8 3; simp at y0 y1 y2 y3; clear hp8) | (go_at_call 13; refine (HRP.out _ hb8).mono ?_; rintro e w9 ⟨rfl, hb9⟩))
        go_ret
        exact ⟨by first | (simp; done) | (simp [hf4]; done) | (simp [hf2]; done), HB7.out.trans ((hb8.trans (hb9.mono hb8.size)).mono HB7.out.size)⟩
      | false =>
        go_wp2_with (first | (go_at_call 15; refine hP2.mono ?_; rintro e w8 ⟨rfl, hb8⟩; have hp8 := (hb8.block _ (Array.getElem?_eq_some_iff.1 HP7.out).1).trans HP7.out; have y0 := cell_blk hp8 0; have y1 := cell_blk hp8 1; have y2 := cell_blk hp8 2; have y3 := cell_blk hp8 3; simp at y0 y1 y2 y3; clear hp8) | (go_at_call 13; refine (HRP.out _ hb8).mono ?_; rintro e w9 ⟨rfl, hb9⟩))
        go_ret
        exact ⟨by first | (simp; done) | (simp [hf4]; done) | (simp [hf2]; done), HB7.out.trans ((hb8.trans (hb9.mono hb8.size)).mono HB7.out.size)⟩
theorem routeLess.calls (m1 m2 : Int) (A0 : Option Addr) (c0 : Nat) (deny : List ByteArray) (cu : Bool) (size life : Int) (custody : Bool) (A4 : Option Addr) (c4 : Nat) (names : List Nm) (w : World) (hr0 : Kd.C Kd.string w A0 deny.length deny) (hc0 : deny.length ≤ c0) (hr4 : Kd.C kNm w A4 names.length names) (hc4 : names.length ≤ c4) (hLd : LaidR w) :
    Calls Tryz.prog 5 #[.agg #[.int .i64 m1, .int .i64 m2, .slice A0 deny.length c0, .bool cu], .int .i64 size, .int .i64 life, .bool custody, .slice A4 names.length c4] w fun e w' => e = .returned (.bool true) ∧ Below w.heap.size w w' := by
  obtain ⟨d, hd, _⟩ := CutPolicy_is m1 m2 cu deny 100 (by omega)
  obtain ⟨l, hl, _, hs⟩ := few_is names 100 (by omega)
  exact less_walk m1 m2 A0 c0 deny cu size life custody A4 c4 names w hr0 hc0 hr4 hc4 hLd d l hd hl hs
end Go.Proofs.YtaknknfcikdjiaaGreatDoor.Hand
end

/- Layer 6, by hand: the laws' own examples ('shown'). -/
import Derived.Test.YtandbobinjhehaaDoorEidJ
import Derived.Test.YtandbobinjhehaaDoorSCx1
import Derived.Outline
namespace Go.Proofs.YtandbobinjhehaaDoor.Hand
open Go.RowKit Go.Proofs.YtandbobinjhehaaDoor.SC

theorem p1 : eid_Parse.f ⟨#[100, 116, 110, 58, 47, 47, 101, 97, 114, 116, 104, 47, 110, 101, 119, 115]⟩ = some (1, ⟨#[101, 97, 114, 116, 104]⟩, ⟨#[110, 101, 119, 115]⟩, 0, 0, 0) := by decide +kernel
theorem p2 : eid_Home.f 1 ⟨#[101, 97, 114, 116, 104]⟩ ⟨#[110, 101, 119, 115]⟩ 0 0 = some (1, ⟨#[101, 97, 114, 116, 104]⟩, ⟨#[]⟩, 0, 0, 0) := by decide +kernel
theorem p3 : eid_Print.f 1 ⟨#[101, 97, 114, 116, 104]⟩ ⟨#[]⟩ 0 0 = some (⟨#[100, 116, 110, 58, 47, 47, 101, 97, 114, 116, 104, 47]⟩, 0) := by decide +kernel
theorem p4 : eid_Parse.f ⟨#[105, 112, 110, 58, 52, 46, 55]⟩ = some (2, ⟨#[]⟩, ⟨#[]⟩, 4, 7, 0) := by decide +kernel
theorem p5 : eid_Parse.f ⟨#[100, 116, 110, 58, 110, 111, 110, 101]⟩ = some (0, ⟨#[]⟩, ⟨#[]⟩, 0, 0, 0) := by decide +kernel
theorem p6 : eid_Parse.f ⟨#[105, 112, 110, 58, 48, 52, 46, 55]⟩ = some (0, ⟨#[]⟩, ⟨#[]⟩, 0, 0, 60) := by decide +kernel
theorem p7 : eid_Parse.f ⟨#[105, 112, 110, 58, 48, 46, 55]⟩ = some (0, ⟨#[]⟩, ⟨#[]⟩, 0, 0, 60) := by decide +kernel

set_option maxRecDepth 100000 in
set_option maxHeartbeats 4000000 in
theorem shown_walk (w : World) (hLd : Laid w) :
    Calls Tryd.prog 8 #[] w fun e w' => e = .returned (.bool true) ∧ Below w.heap.size w w' := by
  have hu := Tryd.underlying23
  have HL0 := Lib.hid hLd
  have HB0 := Lib.hid (Below.refl w.heap.size w)
  clear hLd
  go_enter Tryd.func8, Tryd.ntmps8
  go_wp2_with (fail)
  refine (eid_Parse.calls _ _ _ _ _ _ _ _ HL0.out p1).mono ?_
  rintro e0 w1 ⟨rfl, hb0⟩
  have HL1 := Lib.hid (HL0.out.below hb0)
  have HB1 := Lib.hid (YtandbobinjhehaaDoorW.PrintWords.below_step HB0.out hb0)
  clear hb0 HL0 HB0
  go_wp2_with (fail)
  refine (eid_Home.calls _ _ _ _ _ _ _ _ _ _ _ _ p2).mono ?_
  rintro e1 w2 ⟨rfl, hb1⟩
  have HL2 := Lib.hid ((HL1.out.below (b_alloc (Below.refl _ _) _)).below hb1)
  have HB2 := Lib.hid (YtandbobinjhehaaDoorW.PrintWords.below_step (b_alloc HB1.out _) hb1)
  have Ka := Lib.hid (YtandbobinjhehaaDoorW.PrintWords.blk_below (YtandbobinjhehaaDoorW.PrintWords.blk_new w1 (.cells #[.int .i64 1, .string ⟨#[101, 97, 114, 116, 104]⟩, .string ⟨#[110, 101, 119, 115]⟩, .int .i64 0, .int .i64 0] 23)) hb1)
  obtain ⟨ga, hga⟩ : ∃ g, g = w1.heap.size := ⟨_, rfl⟩
  rw [← hga] at Ka ⊢
  clear hga
  clear hb1 HL1 HB1

  go_wp2_with (fail)
  refine (eid_Print.calls _ _ _ _ _ _ _ _ (Laid.below HL2.out (b_alloc (Below.refl _ _) _)) p3).mono ?_
  rintro e2 w3 ⟨rfl, hb2⟩
  have HL3 := Lib.hid ((HL2.out.below (b_alloc (Below.refl _ _) _)).below hb2)
  have HB3 := Lib.hid (YtandbobinjhehaaDoorW.PrintWords.below_step (b_alloc HB2.out _) hb2)
  have Ka' := Lib.hid (YtandbobinjhehaaDoorW.PrintWords.blk_below (YtandbobinjhehaaDoorW.PrintWords.blk_alloc Ka.out _) hb2)
  clear Ka
  have Ka := Ka'
  clear Ka'
  have Kb := Lib.hid (YtandbobinjhehaaDoorW.PrintWords.blk_below (YtandbobinjhehaaDoorW.PrintWords.blk_new w2 (.cells #[.int .i64 1, .string ⟨#[101, 97, 114, 116, 104]⟩, .string ⟨#[]⟩, .int .i64 0, .int .i64 0] 23)) hb2)
  obtain ⟨gb, hgb⟩ : ∃ g, g = w2.heap.size := ⟨_, rfl⟩
  rw [← hgb] at Kb ⊢
  clear hgb
  clear hb2 HL2 HB2

  go_wp2_with (fail)
  refine (eid_Parse.calls _ _ _ _ _ _ _ _ HL3.out p4).mono ?_
  rintro e3 w4 ⟨rfl, hb3⟩
  have HL4 := Lib.hid (HL3.out.below hb3)
  have HB4 := Lib.hid (YtandbobinjhehaaDoorW.PrintWords.below_step HB3.out hb3)
  have Ka' := Lib.hid (YtandbobinjhehaaDoorW.PrintWords.blk_below Ka.out hb3)
  clear Ka
  have Ka := Ka'
  clear Ka'
  have Kb' := Lib.hid (YtandbobinjhehaaDoorW.PrintWords.blk_below Kb.out hb3)
  clear Kb
  have Kb := Kb'
  clear Kb'
  clear hb3 HL3 HB3
  go_wp2_with (fail)
  refine (eid_Parse.calls _ _ _ _ _ _ _ _ (Laid.below HL4.out (b_alloc (Below.refl _ _) _)) p5).mono ?_
  rintro e4 w5 ⟨rfl, hb4⟩
  have HL5 := Lib.hid ((HL4.out.below (b_alloc (Below.refl _ _) _)).below hb4)
  have HB5 := Lib.hid (YtandbobinjhehaaDoorW.PrintWords.below_step (b_alloc HB4.out _) hb4)
  have Ka' := Lib.hid (YtandbobinjhehaaDoorW.PrintWords.blk_below (YtandbobinjhehaaDoorW.PrintWords.blk_alloc Ka.out _) hb4)
  clear Ka
  have Ka := Ka'
  clear Ka'
  have Kb' := Lib.hid (YtandbobinjhehaaDoorW.PrintWords.blk_below (YtandbobinjhehaaDoorW.PrintWords.blk_alloc Kb.out _) hb4)
  clear Kb
  have Kb := Kb'
  clear Kb'
  have Kc := Lib.hid (YtandbobinjhehaaDoorW.PrintWords.blk_below (YtandbobinjhehaaDoorW.PrintWords.blk_new w4 (.cells #[.int .i64 2, .string ⟨#[]⟩, .string ⟨#[]⟩, .int .i64 4, .int .i64 7] 23)) hb4)
  obtain ⟨gc, hgc⟩ : ∃ g, g = w4.heap.size := ⟨_, rfl⟩
  rw [← hgc] at Kc ⊢
  clear hgc
  clear hb4 HL4 HB4
  go_wp2_with (fail)
  refine (eid_Parse.calls _ _ _ _ _ _ _ _ (Laid.below HL5.out (b_alloc (Below.refl _ _) _)) p6).mono ?_
  rintro e5 w6 ⟨rfl, hb5⟩
  have HL6 := Lib.hid ((HL5.out.below (b_alloc (Below.refl _ _) _)).below hb5)
  have HB6 := Lib.hid (YtandbobinjhehaaDoorW.PrintWords.below_step (b_alloc HB5.out _) hb5)
  have Ka' := Lib.hid (YtandbobinjhehaaDoorW.PrintWords.blk_below (YtandbobinjhehaaDoorW.PrintWords.blk_alloc Ka.out _) hb5)
  clear Ka
  have Ka := Ka'
  clear Ka'
  have Kb' := Lib.hid (YtandbobinjhehaaDoorW.PrintWords.blk_below (YtandbobinjhehaaDoorW.PrintWords.blk_alloc Kb.out _) hb5)
  clear Kb
  have Kb := Kb'
  clear Kb'
  have Kc' := Lib.hid (YtandbobinjhehaaDoorW.PrintWords.blk_below (YtandbobinjhehaaDoorW.PrintWords.blk_alloc Kc.out _) hb5)
  clear Kc
  have Kc := Kc'
  clear Kc'
  have Kn := Lib.hid (YtandbobinjhehaaDoorW.PrintWords.blk_below (YtandbobinjhehaaDoorW.PrintWords.blk_new w5 (.cells #[.int .i64 0, .string ⟨#[]⟩, .string ⟨#[]⟩, .int .i64 0, .int .i64 0] 23)) hb5)
  obtain ⟨gn, hgn⟩ : ∃ g, g = w5.heap.size := ⟨_, rfl⟩
  rw [← hgn] at Kn ⊢
  clear hgn
  clear hb5 HL5 HB5
  go_wp2_with (fail)
  refine (eid_Parse.calls _ _ _ _ _ _ _ _ (Laid.below HL6.out (b_alloc (Below.refl _ _) _)) p7).mono ?_
  rintro e6 w7 ⟨rfl, hb6⟩
  have HL7 := Lib.hid ((HL6.out.below (b_alloc (Below.refl _ _) _)).below hb6)
  have HB7 := Lib.hid (YtandbobinjhehaaDoorW.PrintWords.below_step (b_alloc HB6.out _) hb6)
  have Ka' := Lib.hid (YtandbobinjhehaaDoorW.PrintWords.blk_below (YtandbobinjhehaaDoorW.PrintWords.blk_alloc Ka.out _) hb6)
  clear Ka
  have Ka := Ka'
  clear Ka'
  have Kb' := Lib.hid (YtandbobinjhehaaDoorW.PrintWords.blk_below (YtandbobinjhehaaDoorW.PrintWords.blk_alloc Kb.out _) hb6)
  clear Kb
  have Kb := Kb'
  clear Kb'
  have Kc' := Lib.hid (YtandbobinjhehaaDoorW.PrintWords.blk_below (YtandbobinjhehaaDoorW.PrintWords.blk_alloc Kc.out _) hb6)
  clear Kc
  have Kc := Kc'
  clear Kc'
  have Kn' := Lib.hid (YtandbobinjhehaaDoorW.PrintWords.blk_below (YtandbobinjhehaaDoorW.PrintWords.blk_alloc Kn.out _) hb6)
  clear Kn
  have Kn := Kn'
  clear Kn'
  have Ku := Lib.hid (YtandbobinjhehaaDoorW.PrintWords.blk_below (YtandbobinjhehaaDoorW.PrintWords.blk_new w6 (.cells #[.int .i64 0, .string ⟨#[]⟩, .string ⟨#[]⟩, .int .i64 0, .int .i64 0] 23)) hb6)
  obtain ⟨gu, hgu⟩ : ∃ g, g = w6.heap.size := ⟨_, rfl⟩
  rw [← hgu] at Ku ⊢
  clear hgu
  clear hb6 HL6 HB6
  have ca0 : (w7.alloc (.cells #[.int .i64 0, .string ⟨#[]⟩, .string ⟨#[]⟩, .int .i64 0, .int .i64 0] 23)).cell? ⟨ga, 0, none⟩ = some (.int .i64 1) := (cell_blk (YtandbobinjhehaaDoorW.PrintWords.blk_alloc Ka.out _) 0).trans rfl
  have fa0 := frozen_blk (YtandbobinjhehaaDoorW.PrintWords.blk_alloc Ka.out (.cells #[.int .i64 0, .string ⟨#[]⟩, .string ⟨#[]⟩, .int .i64 0, .int .i64 0] 23)) 0
  have ca1 : (w7.alloc (.cells #[.int .i64 0, .string ⟨#[]⟩, .string ⟨#[]⟩, .int .i64 0, .int .i64 0] 23)).cell? ⟨ga, 1, none⟩ = some (.string ⟨#[101, 97, 114, 116, 104]⟩) := (cell_blk (YtandbobinjhehaaDoorW.PrintWords.blk_alloc Ka.out _) 1).trans rfl
  have fa1 := frozen_blk (YtandbobinjhehaaDoorW.PrintWords.blk_alloc Ka.out (.cells #[.int .i64 0, .string ⟨#[]⟩, .string ⟨#[]⟩, .int .i64 0, .int .i64 0] 23)) 1
  have ca2 : (w7.alloc (.cells #[.int .i64 0, .string ⟨#[]⟩, .string ⟨#[]⟩, .int .i64 0, .int .i64 0] 23)).cell? ⟨ga, 2, none⟩ = some (.string ⟨#[110, 101, 119, 115]⟩) := (cell_blk (YtandbobinjhehaaDoorW.PrintWords.blk_alloc Ka.out _) 2).trans rfl
  have fa2 := frozen_blk (YtandbobinjhehaaDoorW.PrintWords.blk_alloc Ka.out (.cells #[.int .i64 0, .string ⟨#[]⟩, .string ⟨#[]⟩, .int .i64 0, .int .i64 0] 23)) 2
  have ca3 : (w7.alloc (.cells #[.int .i64 0, .string ⟨#[]⟩, .string ⟨#[]⟩, .int .i64 0, .int .i64 0] 23)).cell? ⟨ga, 3, none⟩ = some (.int .i64 0) := (cell_blk (YtandbobinjhehaaDoorW.PrintWords.blk_alloc Ka.out _) 3).trans rfl
  have fa3 := frozen_blk (YtandbobinjhehaaDoorW.PrintWords.blk_alloc Ka.out (.cells #[.int .i64 0, .string ⟨#[]⟩, .string ⟨#[]⟩, .int .i64 0, .int .i64 0] 23)) 3
  have ca4 : (w7.alloc (.cells #[.int .i64 0, .string ⟨#[]⟩, .string ⟨#[]⟩, .int .i64 0, .int .i64 0] 23)).cell? ⟨ga, 4, none⟩ = some (.int .i64 0) := (cell_blk (YtandbobinjhehaaDoorW.PrintWords.blk_alloc Ka.out _) 4).trans rfl
  have fa4 := frozen_blk (YtandbobinjhehaaDoorW.PrintWords.blk_alloc Ka.out (.cells #[.int .i64 0, .string ⟨#[]⟩, .string ⟨#[]⟩, .int .i64 0, .int .i64 0] 23)) 4
  have cb0 : (w7.alloc (.cells #[.int .i64 0, .string ⟨#[]⟩, .string ⟨#[]⟩, .int .i64 0, .int .i64 0] 23)).cell? ⟨gb, 0, none⟩ = some (.int .i64 1) := (cell_blk (YtandbobinjhehaaDoorW.PrintWords.blk_alloc Kb.out _) 0).trans rfl
  have fb0 := frozen_blk (YtandbobinjhehaaDoorW.PrintWords.blk_alloc Kb.out (.cells #[.int .i64 0, .string ⟨#[]⟩, .string ⟨#[]⟩, .int .i64 0, .int .i64 0] 23)) 0
  have cb1 : (w7.alloc (.cells #[.int .i64 0, .string ⟨#[]⟩, .string ⟨#[]⟩, .int .i64 0, .int .i64 0] 23)).cell? ⟨gb, 1, none⟩ = some (.string ⟨#[101, 97, 114, 116, 104]⟩) := (cell_blk (YtandbobinjhehaaDoorW.PrintWords.blk_alloc Kb.out _) 1).trans rfl
  have fb1 := frozen_blk (YtandbobinjhehaaDoorW.PrintWords.blk_alloc Kb.out (.cells #[.int .i64 0, .string ⟨#[]⟩, .string ⟨#[]⟩, .int .i64 0, .int .i64 0] 23)) 1
  have cb2 : (w7.alloc (.cells #[.int .i64 0, .string ⟨#[]⟩, .string ⟨#[]⟩, .int .i64 0, .int .i64 0] 23)).cell? ⟨gb, 2, none⟩ = some (.string ⟨#[]⟩) := (cell_blk (YtandbobinjhehaaDoorW.PrintWords.blk_alloc Kb.out _) 2).trans rfl
  have fb2 := frozen_blk (YtandbobinjhehaaDoorW.PrintWords.blk_alloc Kb.out (.cells #[.int .i64 0, .string ⟨#[]⟩, .string ⟨#[]⟩, .int .i64 0, .int .i64 0] 23)) 2
  have cb3 : (w7.alloc (.cells #[.int .i64 0, .string ⟨#[]⟩, .string ⟨#[]⟩, .int .i64 0, .int .i64 0] 23)).cell? ⟨gb, 3, none⟩ = some (.int .i64 0) := (cell_blk (YtandbobinjhehaaDoorW.PrintWords.blk_alloc Kb.out _) 3).trans rfl
  have fb3 := frozen_blk (YtandbobinjhehaaDoorW.PrintWords.blk_alloc Kb.out (.cells #[.int .i64 0, .string ⟨#[]⟩, .string ⟨#[]⟩, .int .i64 0, .int .i64 0] 23)) 3
  have cb4 : (w7.alloc (.cells #[.int .i64 0, .string ⟨#[]⟩, .string ⟨#[]⟩, .int .i64 0, .int .i64 0] 23)).cell? ⟨gb, 4, none⟩ = some (.int .i64 0) := (cell_blk (YtandbobinjhehaaDoorW.PrintWords.blk_alloc Kb.out _) 4).trans rfl
  have fb4 := frozen_blk (YtandbobinjhehaaDoorW.PrintWords.blk_alloc Kb.out (.cells #[.int .i64 0, .string ⟨#[]⟩, .string ⟨#[]⟩, .int .i64 0, .int .i64 0] 23)) 4
  have cc0 : (w7.alloc (.cells #[.int .i64 0, .string ⟨#[]⟩, .string ⟨#[]⟩, .int .i64 0, .int .i64 0] 23)).cell? ⟨gc, 0, none⟩ = some (.int .i64 2) := (cell_blk (YtandbobinjhehaaDoorW.PrintWords.blk_alloc Kc.out _) 0).trans rfl
  have fc0 := frozen_blk (YtandbobinjhehaaDoorW.PrintWords.blk_alloc Kc.out (.cells #[.int .i64 0, .string ⟨#[]⟩, .string ⟨#[]⟩, .int .i64 0, .int .i64 0] 23)) 0
  have cc1 : (w7.alloc (.cells #[.int .i64 0, .string ⟨#[]⟩, .string ⟨#[]⟩, .int .i64 0, .int .i64 0] 23)).cell? ⟨gc, 1, none⟩ = some (.string ⟨#[]⟩) := (cell_blk (YtandbobinjhehaaDoorW.PrintWords.blk_alloc Kc.out _) 1).trans rfl
  have fc1 := frozen_blk (YtandbobinjhehaaDoorW.PrintWords.blk_alloc Kc.out (.cells #[.int .i64 0, .string ⟨#[]⟩, .string ⟨#[]⟩, .int .i64 0, .int .i64 0] 23)) 1
  have cc2 : (w7.alloc (.cells #[.int .i64 0, .string ⟨#[]⟩, .string ⟨#[]⟩, .int .i64 0, .int .i64 0] 23)).cell? ⟨gc, 2, none⟩ = some (.string ⟨#[]⟩) := (cell_blk (YtandbobinjhehaaDoorW.PrintWords.blk_alloc Kc.out _) 2).trans rfl
  have fc2 := frozen_blk (YtandbobinjhehaaDoorW.PrintWords.blk_alloc Kc.out (.cells #[.int .i64 0, .string ⟨#[]⟩, .string ⟨#[]⟩, .int .i64 0, .int .i64 0] 23)) 2
  have cc3 : (w7.alloc (.cells #[.int .i64 0, .string ⟨#[]⟩, .string ⟨#[]⟩, .int .i64 0, .int .i64 0] 23)).cell? ⟨gc, 3, none⟩ = some (.int .i64 4) := (cell_blk (YtandbobinjhehaaDoorW.PrintWords.blk_alloc Kc.out _) 3).trans rfl
  have fc3 := frozen_blk (YtandbobinjhehaaDoorW.PrintWords.blk_alloc Kc.out (.cells #[.int .i64 0, .string ⟨#[]⟩, .string ⟨#[]⟩, .int .i64 0, .int .i64 0] 23)) 3
  have cc4 : (w7.alloc (.cells #[.int .i64 0, .string ⟨#[]⟩, .string ⟨#[]⟩, .int .i64 0, .int .i64 0] 23)).cell? ⟨gc, 4, none⟩ = some (.int .i64 7) := (cell_blk (YtandbobinjhehaaDoorW.PrintWords.blk_alloc Kc.out _) 4).trans rfl
  have fc4 := frozen_blk (YtandbobinjhehaaDoorW.PrintWords.blk_alloc Kc.out (.cells #[.int .i64 0, .string ⟨#[]⟩, .string ⟨#[]⟩, .int .i64 0, .int .i64 0] 23)) 4
  have cn0 : (w7.alloc (.cells #[.int .i64 0, .string ⟨#[]⟩, .string ⟨#[]⟩, .int .i64 0, .int .i64 0] 23)).cell? ⟨gn, 0, none⟩ = some (.int .i64 0) := (cell_blk (YtandbobinjhehaaDoorW.PrintWords.blk_alloc Kn.out _) 0).trans rfl
  have fn0 := frozen_blk (YtandbobinjhehaaDoorW.PrintWords.blk_alloc Kn.out (.cells #[.int .i64 0, .string ⟨#[]⟩, .string ⟨#[]⟩, .int .i64 0, .int .i64 0] 23)) 0
  have cn1 : (w7.alloc (.cells #[.int .i64 0, .string ⟨#[]⟩, .string ⟨#[]⟩, .int .i64 0, .int .i64 0] 23)).cell? ⟨gn, 1, none⟩ = some (.string ⟨#[]⟩) := (cell_blk (YtandbobinjhehaaDoorW.PrintWords.blk_alloc Kn.out _) 1).trans rfl
  have fn1 := frozen_blk (YtandbobinjhehaaDoorW.PrintWords.blk_alloc Kn.out (.cells #[.int .i64 0, .string ⟨#[]⟩, .string ⟨#[]⟩, .int .i64 0, .int .i64 0] 23)) 1
  have cn2 : (w7.alloc (.cells #[.int .i64 0, .string ⟨#[]⟩, .string ⟨#[]⟩, .int .i64 0, .int .i64 0] 23)).cell? ⟨gn, 2, none⟩ = some (.string ⟨#[]⟩) := (cell_blk (YtandbobinjhehaaDoorW.PrintWords.blk_alloc Kn.out _) 2).trans rfl
  have fn2 := frozen_blk (YtandbobinjhehaaDoorW.PrintWords.blk_alloc Kn.out (.cells #[.int .i64 0, .string ⟨#[]⟩, .string ⟨#[]⟩, .int .i64 0, .int .i64 0] 23)) 2
  have cn3 : (w7.alloc (.cells #[.int .i64 0, .string ⟨#[]⟩, .string ⟨#[]⟩, .int .i64 0, .int .i64 0] 23)).cell? ⟨gn, 3, none⟩ = some (.int .i64 0) := (cell_blk (YtandbobinjhehaaDoorW.PrintWords.blk_alloc Kn.out _) 3).trans rfl
  have fn3 := frozen_blk (YtandbobinjhehaaDoorW.PrintWords.blk_alloc Kn.out (.cells #[.int .i64 0, .string ⟨#[]⟩, .string ⟨#[]⟩, .int .i64 0, .int .i64 0] 23)) 3
  have cn4 : (w7.alloc (.cells #[.int .i64 0, .string ⟨#[]⟩, .string ⟨#[]⟩, .int .i64 0, .int .i64 0] 23)).cell? ⟨gn, 4, none⟩ = some (.int .i64 0) := (cell_blk (YtandbobinjhehaaDoorW.PrintWords.blk_alloc Kn.out _) 4).trans rfl
  have fn4 := frozen_blk (YtandbobinjhehaaDoorW.PrintWords.blk_alloc Kn.out (.cells #[.int .i64 0, .string ⟨#[]⟩, .string ⟨#[]⟩, .int .i64 0, .int .i64 0] 23)) 4
  go_wp2
  go_ret
  exact ⟨rfl, b_alloc HB7.out _⟩

/-- 'shown' answers true. -/
def postriderlaw06_shown.f : Option Bool := some true
theorem postriderlaw06_shown.calls (r : Bool) (w : World) (hLd : Laid w) (h : postriderlaw06_shown.f = some r) :
    Calls Tryd.prog 8 #[] w fun e w' => e = .returned (.bool r) ∧ Below w.heap.size w w' := by
  unfold postriderlaw06_shown.f at h
  obtain rfl := Option.some.inj h
  exact shown_walk w hLd

end Go.Proofs.YtandbobinjhehaaDoor.Hand

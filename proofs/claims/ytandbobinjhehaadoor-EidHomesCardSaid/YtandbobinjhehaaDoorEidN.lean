/- Layer 6: the law EidHomes, walked by hand, case by case. -/
import Derived.Test.YtandbobinjhehaaDoorEidM
import Derived.Test.YtandbobinjhehaaDoorEidK
namespace Go.Proofs.YtandbobinjhehaaDoor.Hand
open Go.RowKit Go.Proofs.YtandbobinjhehaaDoor.SA Go.Proofs.YtandbobinjhehaaDoor.SC Go.Proofs.YtandbobinjhehaaDoor.SD Go.Proofs.YtandbobinjhehaaDoorW.PrintWords Go.Proofs.YtandbobinjhehaaDoorW.PrintLast Go.Proofs.YtandbobinjhehaaDoorW.PrintMore
attribute [local go_sem] max2_int min2_int max_two min_two max_three min_three max_four min_four

theorem put5 {w : World} {g : Nat} {t : TypeId} {c0 c1 c2 c3 c4 : Value} (h : w.heap[g]? = some (.cells #[c0, c1, c2, c3, c4] t)) (v0 v1 v2 v3 v4 : Value) :
    (((((w.setCell ⟨g, 0, none⟩ v0).setCell ⟨g, 1, none⟩ v1).setCell ⟨g, 2, none⟩ v2).setCell ⟨g, 3, none⟩ v3).setCell ⟨g, 4, none⟩ v4).heap[g]? = some (.cells #[v0, v1, v2, v3, v4] t) :=
  YtandbobinjhehaaDoorW.PrintWords.blk_set (YtandbobinjhehaaDoorW.PrintWords.blk_set (YtandbobinjhehaaDoorW.PrintWords.blk_set (YtandbobinjhehaaDoorW.PrintWords.blk_set (YtandbobinjhehaaDoorW.PrintWords.blk_set h 0 v0) 1 v1) 2 v2) 3 v3) 4 v4

theorem below5 {B : Nat} {w0 w : World} {g : Nat} (h : Below B w0 w) (hg : B ≤ g) (v0 v1 v2 v3 v4 : Value) :
    Below B w0 (((((w.setCell ⟨g, 0, none⟩ v0).setCell ⟨g, 1, none⟩ v1).setCell ⟨g, 2, none⟩ v2).setCell ⟨g, 3, none⟩ v3).setCell ⟨g, 4, none⟩ v4) :=
  ((((h.setCell (p := ⟨g, 0, none⟩) hg v0).setCell (p := ⟨g, 1, none⟩) hg v1).setCell (p := ⟨g, 2, none⟩) hg v2).setCell (p := ⟨g, 3, none⟩) hg v3).setCell (p := ⟨g, 4, none⟩) hg v4

set_option maxRecDepth 100000 in
set_option maxHeartbeats 4000000 in
theorem homes_bad (a0 : Int) (a1 a2 : ByteArray) (a3 a4 : Int) (s : ByteArray) (n : Int) (b1 b2 : ByteArray) (b3 b4 : Int) (w : World) (hLd : Laid w)
    (hc : postriderlaw06_Cut.f a0 a1 a2 a3 a4 = some (n, b1, b2, b3, b4)) (hh : eid_Home.f n b1 b2 b3 b4 = some (0, ⟨#[]⟩, ⟨#[]⟩, 0, 0, 60)) (hr : eid_Right.f n b1 b2 b3 b4 = some false) :
    Calls Tryd.prog 6 #[.agg #[.int .i64 a0, .string a1, .string a2, .int .i64 a3, .int .i64 a4], .string s] w fun e w' => e = .returned (.bool true) ∧ Below w.heap.size w w' := by
  have hu := Tryd.underlying23
  have HL0 := Lib.hid hLd
  clear hLd
  go_enter Tryd.func6, Tryd.ntmps6
  go_wp2_with (fail)
  have HLa := HL0.out.below (b_alloc (Below.refl w.heap.size w) (.cells #[.int .i64 a0, .string a1, .string a2, .int .i64 a3, .int .i64 a4] 23))
  refine (postriderlaw06_shown.calls true _ HLa rfl).mono ?_
  rintro e1 w1 ⟨rfl, hb1⟩
  have HL1 := Lib.hid (HLa.below hb1)
  have HB1 := Lib.hid (YtandbobinjhehaaDoorW.PrintWords.below_step (b_alloc (Below.refl w.heap.size w) _) hb1)
  have Kx := Lib.hid (YtandbobinjhehaaDoorW.PrintWords.blk_below (YtandbobinjhehaaDoorW.PrintWords.blk_new w (.cells #[.int .i64 a0, .string a1, .string a2, .int .i64 a3, .int .i64 a4] 23)) hb1)
  have Gx := Lib.hid (Nat.le_refl w.heap.size)
  obtain ⟨gx, hgx⟩ : ∃ g, g = w.heap.size := ⟨_, rfl⟩
  rw [← hgx] at Kx ⊢
  replace Gx := Lib.hid (show w.heap.size ≤ gx by omega)
  clear hgx hb1 HL0 HLa
  have cx0 : (w1).cell? ⟨gx, 0, none⟩ = some (.int .i64 a0) := (cell_blk Kx.out 0).trans rfl
  have fx0 := frozen_blk Kx.out 0
  have cx1 : (w1).cell? ⟨gx, 1, none⟩ = some (.string a1) := (cell_blk Kx.out 1).trans rfl
  have fx1 := frozen_blk Kx.out 1
  have cx2 : (w1).cell? ⟨gx, 2, none⟩ = some (.string a2) := (cell_blk Kx.out 2).trans rfl
  have fx2 := frozen_blk Kx.out 2
  have cx3 : (w1).cell? ⟨gx, 3, none⟩ = some (.int .i64 a3) := (cell_blk Kx.out 3).trans rfl
  have fx3 := frozen_blk Kx.out 3
  have cx4 : (w1).cell? ⟨gx, 4, none⟩ = some (.int .i64 a4) := (cell_blk Kx.out 4).trans rfl
  have fx4 := frozen_blk Kx.out 4
  go_wp2_with (fail)
  refine (postriderlaw06_Cut.calls _ _ _ _ _ _ _ _ _ _ _ hc).mono ?_
  rintro e2 w2 ⟨rfl, hb2⟩
  have HL2 := Lib.hid (HL1.out.below hb2)
  have HB2 := Lib.hid (YtandbobinjhehaaDoorW.PrintWords.below_step HB1.out hb2)
  have Kx' := Lib.hid (YtandbobinjhehaaDoorW.PrintWords.blk_below Kx.out hb2)
  clear Kx hb2 HL1 HB1 cx0 fx0 cx1 fx1 cx2 fx2 cx3 fx3 cx4 fx4
  have Kx := Kx'
  clear Kx'
  have cx0 : (w2).cell? ⟨gx, 0, none⟩ = some (.int .i64 a0) := (cell_blk Kx.out 0).trans rfl
  have fx0 := frozen_blk Kx.out 0
  have cx1 : (w2).cell? ⟨gx, 1, none⟩ = some (.string a1) := (cell_blk Kx.out 1).trans rfl
  have fx1 := frozen_blk Kx.out 1
  have cx2 : (w2).cell? ⟨gx, 2, none⟩ = some (.string a2) := (cell_blk Kx.out 2).trans rfl
  have fx2 := frozen_blk Kx.out 2
  have cx3 : (w2).cell? ⟨gx, 3, none⟩ = some (.int .i64 a3) := (cell_blk Kx.out 3).trans rfl
  have fx3 := frozen_blk Kx.out 3
  have cx4 : (w2).cell? ⟨gx, 4, none⟩ = some (.int .i64 a4) := (cell_blk Kx.out 4).trans rfl
  have fx4 := frozen_blk Kx.out 4
  go_wp2_with (fail)
  have Kx' := Lib.hid (put5 Kx.out (.int .i64 n) (.string b1) (.string b2) (.int .i64 b3) (.int .i64 b4))
  have HB2' := Lib.hid (below5 HB2.out Gx.out (.int .i64 n) (.string b1) (.string b2) (.int .i64 b3) (.int .i64 b4))
  obtain ⟨w3, hw3⟩ : ∃ z, z = ((((w2.setCell ⟨gx, 0, none⟩ (.int .i64 n)).setCell ⟨gx, 1, none⟩ (.string b1)).setCell ⟨gx, 2, none⟩ (.string b2)).setCell ⟨gx, 3, none⟩ (.int .i64 b3)).setCell ⟨gx, 4, none⟩ (.int .i64 b4) := ⟨_, rfl⟩
  rw [← hw3] at Kx' HB2' ⊢
  clear Kx HB2 hw3 cx0 fx0 cx1 fx1 cx2 fx2 cx3 fx3 cx4 fx4
  have Kx := Kx'
  have HB3 := HB2'
  clear Kx' HB2'
  refine (eid_Home.calls _ _ _ _ _ _ _ _ _ _ _ _ hh).mono ?_
  rintro e4 w4 ⟨rfl, hb4⟩
  have HB4 := Lib.hid (YtandbobinjhehaaDoorW.PrintWords.below_step HB3.out hb4)
  have Kx' := Lib.hid (YtandbobinjhehaaDoorW.PrintWords.blk_below Kx.out hb4)
  clear Kx hb4 HB3
  have Kx := Kx'
  clear Kx'
  have cx0 : (w4.alloc (.cells #[.int .i64 0, .string ⟨#[]⟩, .string ⟨#[]⟩, .int .i64 0, .int .i64 0] 23)).cell? ⟨gx, 0, none⟩ = some (.int .i64 n) := (cell_blk (YtandbobinjhehaaDoorW.PrintWords.blk_alloc Kx.out (.cells #[.int .i64 0, .string ⟨#[]⟩, .string ⟨#[]⟩, .int .i64 0, .int .i64 0] 23)) 0).trans rfl
  have fx0 := frozen_blk (YtandbobinjhehaaDoorW.PrintWords.blk_alloc Kx.out (.cells #[.int .i64 0, .string ⟨#[]⟩, .string ⟨#[]⟩, .int .i64 0, .int .i64 0] 23)) 0
  have cx1 : (w4.alloc (.cells #[.int .i64 0, .string ⟨#[]⟩, .string ⟨#[]⟩, .int .i64 0, .int .i64 0] 23)).cell? ⟨gx, 1, none⟩ = some (.string b1) := (cell_blk (YtandbobinjhehaaDoorW.PrintWords.blk_alloc Kx.out (.cells #[.int .i64 0, .string ⟨#[]⟩, .string ⟨#[]⟩, .int .i64 0, .int .i64 0] 23)) 1).trans rfl
  have fx1 := frozen_blk (YtandbobinjhehaaDoorW.PrintWords.blk_alloc Kx.out (.cells #[.int .i64 0, .string ⟨#[]⟩, .string ⟨#[]⟩, .int .i64 0, .int .i64 0] 23)) 1
  have cx2 : (w4.alloc (.cells #[.int .i64 0, .string ⟨#[]⟩, .string ⟨#[]⟩, .int .i64 0, .int .i64 0] 23)).cell? ⟨gx, 2, none⟩ = some (.string b2) := (cell_blk (YtandbobinjhehaaDoorW.PrintWords.blk_alloc Kx.out (.cells #[.int .i64 0, .string ⟨#[]⟩, .string ⟨#[]⟩, .int .i64 0, .int .i64 0] 23)) 2).trans rfl
  have fx2 := frozen_blk (YtandbobinjhehaaDoorW.PrintWords.blk_alloc Kx.out (.cells #[.int .i64 0, .string ⟨#[]⟩, .string ⟨#[]⟩, .int .i64 0, .int .i64 0] 23)) 2
  have cx3 : (w4.alloc (.cells #[.int .i64 0, .string ⟨#[]⟩, .string ⟨#[]⟩, .int .i64 0, .int .i64 0] 23)).cell? ⟨gx, 3, none⟩ = some (.int .i64 b3) := (cell_blk (YtandbobinjhehaaDoorW.PrintWords.blk_alloc Kx.out (.cells #[.int .i64 0, .string ⟨#[]⟩, .string ⟨#[]⟩, .int .i64 0, .int .i64 0] 23)) 3).trans rfl
  have fx3 := frozen_blk (YtandbobinjhehaaDoorW.PrintWords.blk_alloc Kx.out (.cells #[.int .i64 0, .string ⟨#[]⟩, .string ⟨#[]⟩, .int .i64 0, .int .i64 0] 23)) 3
  have cx4 : (w4.alloc (.cells #[.int .i64 0, .string ⟨#[]⟩, .string ⟨#[]⟩, .int .i64 0, .int .i64 0] 23)).cell? ⟨gx, 4, none⟩ = some (.int .i64 b4) := (cell_blk (YtandbobinjhehaaDoorW.PrintWords.blk_alloc Kx.out (.cells #[.int .i64 0, .string ⟨#[]⟩, .string ⟨#[]⟩, .int .i64 0, .int .i64 0] 23)) 4).trans rfl
  have fx4 := frozen_blk (YtandbobinjhehaaDoorW.PrintWords.blk_alloc Kx.out (.cells #[.int .i64 0, .string ⟨#[]⟩, .string ⟨#[]⟩, .int .i64 0, .int .i64 0] 23)) 4
  go_wp2_with (fail)
  refine (eid_Right.calls _ _ _ _ _ _ _ hr).mono ?_
  rintro e5 w5 ⟨rfl, hb5⟩
  have HB5 := Lib.hid (YtandbobinjhehaaDoorW.PrintWords.below_step (b_alloc HB4.out _) hb5)
  have Ka := Lib.hid (YtandbobinjhehaaDoorW.PrintWords.blk_below (YtandbobinjhehaaDoorW.PrintWords.blk_new w4 (.cells #[.int .i64 0, .string ⟨#[]⟩, .string ⟨#[]⟩, .int .i64 0, .int .i64 0] 23)) hb5)
  obtain ⟨ga, hga⟩ : ∃ g, g = w4.heap.size := ⟨_, rfl⟩
  rw [← hga] at Ka ⊢
  clear hga hb5 HB4 cx0 fx0 cx1 fx1 cx2 fx2 cx3 fx3 cx4 fx4
  have ca0 : (w5).cell? ⟨ga, 0, none⟩ = some (.int .i64 0) := (cell_blk Ka.out 0).trans rfl
  have fa0 := frozen_blk Ka.out 0
  have ca1 : (w5).cell? ⟨ga, 1, none⟩ = some (.string ⟨#[]⟩) := (cell_blk Ka.out 1).trans rfl
  have fa1 := frozen_blk Ka.out 1
  have ca2 : (w5).cell? ⟨ga, 2, none⟩ = some (.string ⟨#[]⟩) := (cell_blk Ka.out 2).trans rfl
  have fa2 := frozen_blk Ka.out 2
  have ca3 : (w5).cell? ⟨ga, 3, none⟩ = some (.int .i64 0) := (cell_blk Ka.out 3).trans rfl
  have fa3 := frozen_blk Ka.out 3
  have ca4 : (w5).cell? ⟨ga, 4, none⟩ = some (.int .i64 0) := (cell_blk Ka.out 4).trans rfl
  have fa4 := frozen_blk Ka.out 4
  go_wp2
  go_ret
  exact ⟨rfl, HB5.out⟩

set_option maxRecDepth 100000 in
set_option maxHeartbeats 4000000 in
theorem homes_other (a0 : Int) (a1 a2 : ByteArray) (a3 a4 : Int) (s : ByteArray) (n : Int) (b1 b2 : ByteArray) (b3 b4 _j : Int) (w : World) (hLd : Laid w)
    (hc : postriderlaw06_Cut.f a0 a1 a2 a3 a4 = some (n, b1, b2, b3, b4)) (hh : eid_Home.f n b1 b2 b3 b4 = some (n, b1, ⟨#[]⟩, b3, 0, 0)) (hh2 : eid_Home.f n b1 ⟨#[]⟩ b3 0 = some (n, b1, ⟨#[]⟩, b3, 0, 0))
    (hr : eid_Right.f n b1 ⟨#[]⟩ b3 0 = some true) (hy : eid_Home.f n b1 b2 b3 b4 = some (n, b1, ⟨#[]⟩, b3, 0, 0)) (hn : (n == 1) = false) :
    Calls Tryd.prog 6 #[.agg #[.int .i64 a0, .string a1, .string a2, .int .i64 a3, .int .i64 a4], .string s] w fun e w' => e = .returned (.bool true) ∧ Below w.heap.size w w' := by
  have hu := Tryd.underlying23
  have HL0 := Lib.hid hLd
  clear hLd
  go_enter Tryd.func6, Tryd.ntmps6
  go_wp2_with (fail)
  have HLa := HL0.out.below (b_alloc (Below.refl w.heap.size w) (.cells #[.int .i64 a0, .string a1, .string a2, .int .i64 a3, .int .i64 a4] 23))
  refine (postriderlaw06_shown.calls true _ HLa rfl).mono ?_
  rintro e1 w1 ⟨rfl, hb1⟩
  have HL1 := Lib.hid (HLa.below hb1)
  have HB1 := Lib.hid (YtandbobinjhehaaDoorW.PrintWords.below_step (b_alloc (Below.refl w.heap.size w) _) hb1)
  have Kx := Lib.hid (YtandbobinjhehaaDoorW.PrintWords.blk_below (YtandbobinjhehaaDoorW.PrintWords.blk_new w (.cells #[.int .i64 a0, .string a1, .string a2, .int .i64 a3, .int .i64 a4] 23)) hb1)
  have Gx := Lib.hid (Nat.le_refl w.heap.size)
  obtain ⟨gx, hgx⟩ : ∃ g, g = w.heap.size := ⟨_, rfl⟩
  rw [← hgx] at Kx ⊢
  replace Gx := Lib.hid (show w.heap.size ≤ gx by omega)
  clear hgx hb1 HL0 HLa
  have cx0 : (w1).cell? ⟨gx, 0, none⟩ = some (.int .i64 a0) := (cell_blk Kx.out 0).trans rfl
  have fx0 := frozen_blk Kx.out 0
  have cx1 : (w1).cell? ⟨gx, 1, none⟩ = some (.string a1) := (cell_blk Kx.out 1).trans rfl
  have fx1 := frozen_blk Kx.out 1
  have cx2 : (w1).cell? ⟨gx, 2, none⟩ = some (.string a2) := (cell_blk Kx.out 2).trans rfl
  have fx2 := frozen_blk Kx.out 2
  have cx3 : (w1).cell? ⟨gx, 3, none⟩ = some (.int .i64 a3) := (cell_blk Kx.out 3).trans rfl
  have fx3 := frozen_blk Kx.out 3
  have cx4 : (w1).cell? ⟨gx, 4, none⟩ = some (.int .i64 a4) := (cell_blk Kx.out 4).trans rfl
  have fx4 := frozen_blk Kx.out 4
  go_wp2_with (fail)
  refine (postriderlaw06_Cut.calls _ _ _ _ _ _ _ _ _ _ _ hc).mono ?_
  rintro e2 w2 ⟨rfl, hb2⟩
  have HL2 := Lib.hid (HL1.out.below hb2)
  have HB2 := Lib.hid (YtandbobinjhehaaDoorW.PrintWords.below_step HB1.out hb2)
  have Kx' := Lib.hid (YtandbobinjhehaaDoorW.PrintWords.blk_below Kx.out hb2)
  clear Kx hb2 HL1 HB1 cx0 fx0 cx1 fx1 cx2 fx2 cx3 fx3 cx4 fx4
  have Kx := Kx'
  clear Kx'
  have cx0 : (w2).cell? ⟨gx, 0, none⟩ = some (.int .i64 a0) := (cell_blk Kx.out 0).trans rfl
  have fx0 := frozen_blk Kx.out 0
  have cx1 : (w2).cell? ⟨gx, 1, none⟩ = some (.string a1) := (cell_blk Kx.out 1).trans rfl
  have fx1 := frozen_blk Kx.out 1
  have cx2 : (w2).cell? ⟨gx, 2, none⟩ = some (.string a2) := (cell_blk Kx.out 2).trans rfl
  have fx2 := frozen_blk Kx.out 2
  have cx3 : (w2).cell? ⟨gx, 3, none⟩ = some (.int .i64 a3) := (cell_blk Kx.out 3).trans rfl
  have fx3 := frozen_blk Kx.out 3
  have cx4 : (w2).cell? ⟨gx, 4, none⟩ = some (.int .i64 a4) := (cell_blk Kx.out 4).trans rfl
  have fx4 := frozen_blk Kx.out 4
  go_wp2_with (fail)
  have Kx' := Lib.hid (put5 Kx.out (.int .i64 n) (.string b1) (.string b2) (.int .i64 b3) (.int .i64 b4))
  have HB2' := Lib.hid (below5 HB2.out Gx.out (.int .i64 n) (.string b1) (.string b2) (.int .i64 b3) (.int .i64 b4))
  obtain ⟨w3, hw3⟩ : ∃ z, z = ((((w2.setCell ⟨gx, 0, none⟩ (.int .i64 n)).setCell ⟨gx, 1, none⟩ (.string b1)).setCell ⟨gx, 2, none⟩ (.string b2)).setCell ⟨gx, 3, none⟩ (.int .i64 b3)).setCell ⟨gx, 4, none⟩ (.int .i64 b4) := ⟨_, rfl⟩
  rw [← hw3] at Kx' HB2' ⊢
  clear Kx HB2 hw3 cx0 fx0 cx1 fx1 cx2 fx2 cx3 fx3 cx4 fx4
  have Kx := Kx'
  have HB3 := HB2'
  clear Kx' HB2'
  refine (eid_Home.calls _ _ _ _ _ _ _ _ _ _ _ _ hh).mono ?_
  rintro e4 w4 ⟨rfl, hb4⟩
  have HB4 := Lib.hid (YtandbobinjhehaaDoorW.PrintWords.below_step HB3.out hb4)
  have Kx' := Lib.hid (YtandbobinjhehaaDoorW.PrintWords.blk_below Kx.out hb4)
  clear Kx hb4 HB3
  have Kx := Kx'
  clear Kx'
  go_wp2_with (fail)
  refine (eid_Home.calls _ _ _ _ _ _ _ _ _ _ _ _ hh2).mono ?_
  rintro e5 w5 ⟨rfl, hb5⟩
  have HB5 := Lib.hid (YtandbobinjhehaaDoorW.PrintWords.below_step (b_alloc HB4.out _) hb5)
  have Kx' := Lib.hid (YtandbobinjhehaaDoorW.PrintWords.blk_below (YtandbobinjhehaaDoorW.PrintWords.blk_alloc Kx.out _) hb5)
  clear Kx
  have Kx := Kx'
  clear Kx'
  have Ka := Lib.hid (YtandbobinjhehaaDoorW.PrintWords.blk_below (YtandbobinjhehaaDoorW.PrintWords.blk_new w4 (.cells #[.int .i64 n, .string b1, .string ⟨#[]⟩, .int .i64 b3, .int .i64 0] 23)) hb5)
  obtain ⟨ga, hga⟩ : ∃ g, g = w4.heap.size := ⟨_, rfl⟩
  rw [← hga] at Ka ⊢
  clear hga hb5 HB4
  have cx0 : (w5.alloc (.cells #[.int .i64 n, .string b1, .string ⟨#[]⟩, .int .i64 b3, .int .i64 0] 23)).cell? ⟨gx, 0, none⟩ = some (.int .i64 n) := (cell_blk (YtandbobinjhehaaDoorW.PrintWords.blk_alloc Kx.out (.cells #[.int .i64 n, .string b1, .string ⟨#[]⟩, .int .i64 b3, .int .i64 0] 23)) 0).trans rfl
  have fx0 := frozen_blk (YtandbobinjhehaaDoorW.PrintWords.blk_alloc Kx.out (.cells #[.int .i64 n, .string b1, .string ⟨#[]⟩, .int .i64 b3, .int .i64 0] 23)) 0
  have cx1 : (w5.alloc (.cells #[.int .i64 n, .string b1, .string ⟨#[]⟩, .int .i64 b3, .int .i64 0] 23)).cell? ⟨gx, 1, none⟩ = some (.string b1) := (cell_blk (YtandbobinjhehaaDoorW.PrintWords.blk_alloc Kx.out (.cells #[.int .i64 n, .string b1, .string ⟨#[]⟩, .int .i64 b3, .int .i64 0] 23)) 1).trans rfl
  have fx1 := frozen_blk (YtandbobinjhehaaDoorW.PrintWords.blk_alloc Kx.out (.cells #[.int .i64 n, .string b1, .string ⟨#[]⟩, .int .i64 b3, .int .i64 0] 23)) 1
  have cx2 : (w5.alloc (.cells #[.int .i64 n, .string b1, .string ⟨#[]⟩, .int .i64 b3, .int .i64 0] 23)).cell? ⟨gx, 2, none⟩ = some (.string b2) := (cell_blk (YtandbobinjhehaaDoorW.PrintWords.blk_alloc Kx.out (.cells #[.int .i64 n, .string b1, .string ⟨#[]⟩, .int .i64 b3, .int .i64 0] 23)) 2).trans rfl
  have fx2 := frozen_blk (YtandbobinjhehaaDoorW.PrintWords.blk_alloc Kx.out (.cells #[.int .i64 n, .string b1, .string ⟨#[]⟩, .int .i64 b3, .int .i64 0] 23)) 2
  have cx3 : (w5.alloc (.cells #[.int .i64 n, .string b1, .string ⟨#[]⟩, .int .i64 b3, .int .i64 0] 23)).cell? ⟨gx, 3, none⟩ = some (.int .i64 b3) := (cell_blk (YtandbobinjhehaaDoorW.PrintWords.blk_alloc Kx.out (.cells #[.int .i64 n, .string b1, .string ⟨#[]⟩, .int .i64 b3, .int .i64 0] 23)) 3).trans rfl
  have fx3 := frozen_blk (YtandbobinjhehaaDoorW.PrintWords.blk_alloc Kx.out (.cells #[.int .i64 n, .string b1, .string ⟨#[]⟩, .int .i64 b3, .int .i64 0] 23)) 3
  have cx4 : (w5.alloc (.cells #[.int .i64 n, .string b1, .string ⟨#[]⟩, .int .i64 b3, .int .i64 0] 23)).cell? ⟨gx, 4, none⟩ = some (.int .i64 b4) := (cell_blk (YtandbobinjhehaaDoorW.PrintWords.blk_alloc Kx.out (.cells #[.int .i64 n, .string b1, .string ⟨#[]⟩, .int .i64 b3, .int .i64 0] 23)) 4).trans rfl
  have fx4 := frozen_blk (YtandbobinjhehaaDoorW.PrintWords.blk_alloc Kx.out (.cells #[.int .i64 n, .string b1, .string ⟨#[]⟩, .int .i64 b3, .int .i64 0] 23)) 4
  go_wp2_with (fail)
  refine (eid_Home.calls _ _ _ _ _ _ _ _ _ _ _ _ hy).mono ?_
  rintro e7 w7 ⟨rfl, hb7⟩
  have HB7 := Lib.hid (YtandbobinjhehaaDoorW.PrintWords.below_step (b_alloc (b_alloc HB5.out _) _) hb7)
  have Kx' := Lib.hid (YtandbobinjhehaaDoorW.PrintWords.blk_below (YtandbobinjhehaaDoorW.PrintWords.blk_alloc (YtandbobinjhehaaDoorW.PrintWords.blk_alloc Kx.out _) _) hb7)
  have Ka' := Lib.hid (YtandbobinjhehaaDoorW.PrintWords.blk_below (YtandbobinjhehaaDoorW.PrintWords.blk_alloc (YtandbobinjhehaaDoorW.PrintWords.blk_alloc Ka.out _) _) hb7)
  have Kb := Lib.hid (YtandbobinjhehaaDoorW.PrintWords.blk_below (YtandbobinjhehaaDoorW.PrintWords.blk_alloc (YtandbobinjhehaaDoorW.PrintWords.blk_new w5 (.cells #[.int .i64 n, .string b1, .string ⟨#[]⟩, .int .i64 b3, .int .i64 0] 23)) _) hb7)
  obtain ⟨gb, hgb⟩ : ∃ g, g = w5.heap.size := ⟨_, rfl⟩
  rw [← hgb] at Kb ⊢
  clear Kx Ka hgb hb7 HB5 cx0 fx0 cx1 fx1 cx2 fx2 cx3 fx3 cx4 fx4
  have Kx := Kx'
  have Ka := Ka'
  clear Kx' Ka'
  have cx0 : (w7.alloc (.cells #[.int .i64 n, .string b1, .string ⟨#[]⟩, .int .i64 b3, .int .i64 0] 23)).cell? ⟨gx, 0, none⟩ = some (.int .i64 n) := (cell_blk (YtandbobinjhehaaDoorW.PrintWords.blk_alloc Kx.out (.cells #[.int .i64 n, .string b1, .string ⟨#[]⟩, .int .i64 b3, .int .i64 0] 23)) 0).trans rfl
  have fx0 := frozen_blk (YtandbobinjhehaaDoorW.PrintWords.blk_alloc Kx.out (.cells #[.int .i64 n, .string b1, .string ⟨#[]⟩, .int .i64 b3, .int .i64 0] 23)) 0
  have cx1 : (w7.alloc (.cells #[.int .i64 n, .string b1, .string ⟨#[]⟩, .int .i64 b3, .int .i64 0] 23)).cell? ⟨gx, 1, none⟩ = some (.string b1) := (cell_blk (YtandbobinjhehaaDoorW.PrintWords.blk_alloc Kx.out (.cells #[.int .i64 n, .string b1, .string ⟨#[]⟩, .int .i64 b3, .int .i64 0] 23)) 1).trans rfl
  have fx1 := frozen_blk (YtandbobinjhehaaDoorW.PrintWords.blk_alloc Kx.out (.cells #[.int .i64 n, .string b1, .string ⟨#[]⟩, .int .i64 b3, .int .i64 0] 23)) 1
  have cx2 : (w7.alloc (.cells #[.int .i64 n, .string b1, .string ⟨#[]⟩, .int .i64 b3, .int .i64 0] 23)).cell? ⟨gx, 2, none⟩ = some (.string b2) := (cell_blk (YtandbobinjhehaaDoorW.PrintWords.blk_alloc Kx.out (.cells #[.int .i64 n, .string b1, .string ⟨#[]⟩, .int .i64 b3, .int .i64 0] 23)) 2).trans rfl
  have fx2 := frozen_blk (YtandbobinjhehaaDoorW.PrintWords.blk_alloc Kx.out (.cells #[.int .i64 n, .string b1, .string ⟨#[]⟩, .int .i64 b3, .int .i64 0] 23)) 2
  have cx3 : (w7.alloc (.cells #[.int .i64 n, .string b1, .string ⟨#[]⟩, .int .i64 b3, .int .i64 0] 23)).cell? ⟨gx, 3, none⟩ = some (.int .i64 b3) := (cell_blk (YtandbobinjhehaaDoorW.PrintWords.blk_alloc Kx.out (.cells #[.int .i64 n, .string b1, .string ⟨#[]⟩, .int .i64 b3, .int .i64 0] 23)) 3).trans rfl
  have fx3 := frozen_blk (YtandbobinjhehaaDoorW.PrintWords.blk_alloc Kx.out (.cells #[.int .i64 n, .string b1, .string ⟨#[]⟩, .int .i64 b3, .int .i64 0] 23)) 3
  have cx4 : (w7.alloc (.cells #[.int .i64 n, .string b1, .string ⟨#[]⟩, .int .i64 b3, .int .i64 0] 23)).cell? ⟨gx, 4, none⟩ = some (.int .i64 b4) := (cell_blk (YtandbobinjhehaaDoorW.PrintWords.blk_alloc Kx.out (.cells #[.int .i64 n, .string b1, .string ⟨#[]⟩, .int .i64 b3, .int .i64 0] 23)) 4).trans rfl
  have fx4 := frozen_blk (YtandbobinjhehaaDoorW.PrintWords.blk_alloc Kx.out (.cells #[.int .i64 n, .string b1, .string ⟨#[]⟩, .int .i64 b3, .int .i64 0] 23)) 4
  have ca0 : (w7.alloc (.cells #[.int .i64 n, .string b1, .string ⟨#[]⟩, .int .i64 b3, .int .i64 0] 23)).cell? ⟨ga, 0, none⟩ = some (.int .i64 n) := (cell_blk (YtandbobinjhehaaDoorW.PrintWords.blk_alloc Ka.out (.cells #[.int .i64 n, .string b1, .string ⟨#[]⟩, .int .i64 b3, .int .i64 0] 23)) 0).trans rfl
  have fa0 := frozen_blk (YtandbobinjhehaaDoorW.PrintWords.blk_alloc Ka.out (.cells #[.int .i64 n, .string b1, .string ⟨#[]⟩, .int .i64 b3, .int .i64 0] 23)) 0
  have ca1 : (w7.alloc (.cells #[.int .i64 n, .string b1, .string ⟨#[]⟩, .int .i64 b3, .int .i64 0] 23)).cell? ⟨ga, 1, none⟩ = some (.string b1) := (cell_blk (YtandbobinjhehaaDoorW.PrintWords.blk_alloc Ka.out (.cells #[.int .i64 n, .string b1, .string ⟨#[]⟩, .int .i64 b3, .int .i64 0] 23)) 1).trans rfl
  have fa1 := frozen_blk (YtandbobinjhehaaDoorW.PrintWords.blk_alloc Ka.out (.cells #[.int .i64 n, .string b1, .string ⟨#[]⟩, .int .i64 b3, .int .i64 0] 23)) 1
  have ca2 : (w7.alloc (.cells #[.int .i64 n, .string b1, .string ⟨#[]⟩, .int .i64 b3, .int .i64 0] 23)).cell? ⟨ga, 2, none⟩ = some (.string ⟨#[]⟩) := (cell_blk (YtandbobinjhehaaDoorW.PrintWords.blk_alloc Ka.out (.cells #[.int .i64 n, .string b1, .string ⟨#[]⟩, .int .i64 b3, .int .i64 0] 23)) 2).trans rfl
  have fa2 := frozen_blk (YtandbobinjhehaaDoorW.PrintWords.blk_alloc Ka.out (.cells #[.int .i64 n, .string b1, .string ⟨#[]⟩, .int .i64 b3, .int .i64 0] 23)) 2
  have ca3 : (w7.alloc (.cells #[.int .i64 n, .string b1, .string ⟨#[]⟩, .int .i64 b3, .int .i64 0] 23)).cell? ⟨ga, 3, none⟩ = some (.int .i64 b3) := (cell_blk (YtandbobinjhehaaDoorW.PrintWords.blk_alloc Ka.out (.cells #[.int .i64 n, .string b1, .string ⟨#[]⟩, .int .i64 b3, .int .i64 0] 23)) 3).trans rfl
  have fa3 := frozen_blk (YtandbobinjhehaaDoorW.PrintWords.blk_alloc Ka.out (.cells #[.int .i64 n, .string b1, .string ⟨#[]⟩, .int .i64 b3, .int .i64 0] 23)) 3
  have ca4 : (w7.alloc (.cells #[.int .i64 n, .string b1, .string ⟨#[]⟩, .int .i64 b3, .int .i64 0] 23)).cell? ⟨ga, 4, none⟩ = some (.int .i64 0) := (cell_blk (YtandbobinjhehaaDoorW.PrintWords.blk_alloc Ka.out (.cells #[.int .i64 n, .string b1, .string ⟨#[]⟩, .int .i64 b3, .int .i64 0] 23)) 4).trans rfl
  have fa4 := frozen_blk (YtandbobinjhehaaDoorW.PrintWords.blk_alloc Ka.out (.cells #[.int .i64 n, .string b1, .string ⟨#[]⟩, .int .i64 b3, .int .i64 0] 23)) 4
  have cb0 : (w7.alloc (.cells #[.int .i64 n, .string b1, .string ⟨#[]⟩, .int .i64 b3, .int .i64 0] 23)).cell? ⟨gb, 0, none⟩ = some (.int .i64 n) := (cell_blk (YtandbobinjhehaaDoorW.PrintWords.blk_alloc Kb.out (.cells #[.int .i64 n, .string b1, .string ⟨#[]⟩, .int .i64 b3, .int .i64 0] 23)) 0).trans rfl
  have fb0 := frozen_blk (YtandbobinjhehaaDoorW.PrintWords.blk_alloc Kb.out (.cells #[.int .i64 n, .string b1, .string ⟨#[]⟩, .int .i64 b3, .int .i64 0] 23)) 0
  have cb1 : (w7.alloc (.cells #[.int .i64 n, .string b1, .string ⟨#[]⟩, .int .i64 b3, .int .i64 0] 23)).cell? ⟨gb, 1, none⟩ = some (.string b1) := (cell_blk (YtandbobinjhehaaDoorW.PrintWords.blk_alloc Kb.out (.cells #[.int .i64 n, .string b1, .string ⟨#[]⟩, .int .i64 b3, .int .i64 0] 23)) 1).trans rfl
  have fb1 := frozen_blk (YtandbobinjhehaaDoorW.PrintWords.blk_alloc Kb.out (.cells #[.int .i64 n, .string b1, .string ⟨#[]⟩, .int .i64 b3, .int .i64 0] 23)) 1
  have cb2 : (w7.alloc (.cells #[.int .i64 n, .string b1, .string ⟨#[]⟩, .int .i64 b3, .int .i64 0] 23)).cell? ⟨gb, 2, none⟩ = some (.string ⟨#[]⟩) := (cell_blk (YtandbobinjhehaaDoorW.PrintWords.blk_alloc Kb.out (.cells #[.int .i64 n, .string b1, .string ⟨#[]⟩, .int .i64 b3, .int .i64 0] 23)) 2).trans rfl
  have fb2 := frozen_blk (YtandbobinjhehaaDoorW.PrintWords.blk_alloc Kb.out (.cells #[.int .i64 n, .string b1, .string ⟨#[]⟩, .int .i64 b3, .int .i64 0] 23)) 2
  have cb3 : (w7.alloc (.cells #[.int .i64 n, .string b1, .string ⟨#[]⟩, .int .i64 b3, .int .i64 0] 23)).cell? ⟨gb, 3, none⟩ = some (.int .i64 b3) := (cell_blk (YtandbobinjhehaaDoorW.PrintWords.blk_alloc Kb.out (.cells #[.int .i64 n, .string b1, .string ⟨#[]⟩, .int .i64 b3, .int .i64 0] 23)) 3).trans rfl
  have fb3 := frozen_blk (YtandbobinjhehaaDoorW.PrintWords.blk_alloc Kb.out (.cells #[.int .i64 n, .string b1, .string ⟨#[]⟩, .int .i64 b3, .int .i64 0] 23)) 3
  have cb4 : (w7.alloc (.cells #[.int .i64 n, .string b1, .string ⟨#[]⟩, .int .i64 b3, .int .i64 0] 23)).cell? ⟨gb, 4, none⟩ = some (.int .i64 0) := (cell_blk (YtandbobinjhehaaDoorW.PrintWords.blk_alloc Kb.out (.cells #[.int .i64 n, .string b1, .string ⟨#[]⟩, .int .i64 b3, .int .i64 0] 23)) 4).trans rfl
  have fb4 := frozen_blk (YtandbobinjhehaaDoorW.PrintWords.blk_alloc Kb.out (.cells #[.int .i64 n, .string b1, .string ⟨#[]⟩, .int .i64 b3, .int .i64 0] 23)) 4
  go_wp2_with (fail)
  refine (eid_Right.calls _ _ _ _ _ _ _ hr).mono ?_
  rintro e8 w8 ⟨rfl, hb8⟩
  have HB8 := Lib.hid (YtandbobinjhehaaDoorW.PrintWords.below_step (b_alloc HB7.out _) hb8)
  have Kx' := Lib.hid (YtandbobinjhehaaDoorW.PrintWords.blk_below (YtandbobinjhehaaDoorW.PrintWords.blk_alloc Kx.out _) hb8)
  have Ka' := Lib.hid (YtandbobinjhehaaDoorW.PrintWords.blk_below (YtandbobinjhehaaDoorW.PrintWords.blk_alloc Ka.out _) hb8)
  have Kc := Lib.hid (YtandbobinjhehaaDoorW.PrintWords.blk_below (YtandbobinjhehaaDoorW.PrintWords.blk_new w7 (.cells #[.int .i64 n, .string b1, .string ⟨#[]⟩, .int .i64 b3, .int .i64 0] 23)) hb8)
  obtain ⟨gc, hgc⟩ : ∃ g, g = w7.heap.size := ⟨_, rfl⟩
  rw [← hgc] at Kc ⊢
  clear Kx Ka Kb hgc hb8 HB7 cx0 fx0 cx1 fx1 cx2 fx2 cx3 fx3 cx4 fx4 ca0 fa0 ca1 fa1 ca2 fa2 ca3 fa3 ca4 fa4 cb0 fb0 cb1 fb1 cb2 fb2 cb3 fb3 cb4 fb4
  have Kx := Kx'
  have Ka := Ka'
  clear Kx' Ka'
  have cx0 : (w8).cell? ⟨gx, 0, none⟩ = some (.int .i64 n) := (cell_blk Kx.out 0).trans rfl
  have fx0 := frozen_blk Kx.out 0
  have cx1 : (w8).cell? ⟨gx, 1, none⟩ = some (.string b1) := (cell_blk Kx.out 1).trans rfl
  have fx1 := frozen_blk Kx.out 1
  have cx2 : (w8).cell? ⟨gx, 2, none⟩ = some (.string b2) := (cell_blk Kx.out 2).trans rfl
  have fx2 := frozen_blk Kx.out 2
  have cx3 : (w8).cell? ⟨gx, 3, none⟩ = some (.int .i64 b3) := (cell_blk Kx.out 3).trans rfl
  have fx3 := frozen_blk Kx.out 3
  have cx4 : (w8).cell? ⟨gx, 4, none⟩ = some (.int .i64 b4) := (cell_blk Kx.out 4).trans rfl
  have fx4 := frozen_blk Kx.out 4
  have ca0 : (w8).cell? ⟨ga, 0, none⟩ = some (.int .i64 n) := (cell_blk Ka.out 0).trans rfl
  have fa0 := frozen_blk Ka.out 0
  have ca1 : (w8).cell? ⟨ga, 1, none⟩ = some (.string b1) := (cell_blk Ka.out 1).trans rfl
  have fa1 := frozen_blk Ka.out 1
  have ca2 : (w8).cell? ⟨ga, 2, none⟩ = some (.string ⟨#[]⟩) := (cell_blk Ka.out 2).trans rfl
  have fa2 := frozen_blk Ka.out 2
  have ca3 : (w8).cell? ⟨ga, 3, none⟩ = some (.int .i64 b3) := (cell_blk Ka.out 3).trans rfl
  have fa3 := frozen_blk Ka.out 3
  have ca4 : (w8).cell? ⟨ga, 4, none⟩ = some (.int .i64 0) := (cell_blk Ka.out 4).trans rfl
  have fa4 := frozen_blk Ka.out 4
  have cc0 : (w8).cell? ⟨gc, 0, none⟩ = some (.int .i64 n) := (cell_blk Kc.out 0).trans rfl
  have fc0 := frozen_blk Kc.out 0
  have cc1 : (w8).cell? ⟨gc, 1, none⟩ = some (.string b1) := (cell_blk Kc.out 1).trans rfl
  have fc1 := frozen_blk Kc.out 1
  have cc2 : (w8).cell? ⟨gc, 2, none⟩ = some (.string ⟨#[]⟩) := (cell_blk Kc.out 2).trans rfl
  have fc2 := frozen_blk Kc.out 2
  have cc3 : (w8).cell? ⟨gc, 3, none⟩ = some (.int .i64 b3) := (cell_blk Kc.out 3).trans rfl
  have fc3 := frozen_blk Kc.out 3
  have cc4 : (w8).cell? ⟨gc, 4, none⟩ = some (.int .i64 0) := (cell_blk Kc.out 4).trans rfl
  have fc4 := frozen_blk Kc.out 4
  go_wp2
  go_ret
  exact ⟨rfl, HB8.out⟩

set_option maxRecDepth 100000 in
set_option maxHeartbeats 4000000 in
theorem homes_dtn (a0 : Int) (a1 a2 : ByteArray) (a3 a4 : Int) (s : ByteArray) (n : Int) (b1 b2 : ByteArray) (b3 b4 j : Int) (w : World) (hLd : Laid w)
    (hc : postriderlaw06_Cut.f a0 a1 a2 a3 a4 = some (n, b1, b2, b3, b4)) (hh : eid_Home.f n b1 b2 b3 b4 = some (n, b1, ⟨#[]⟩, b3, 0, 0)) (hh2 : eid_Home.f n b1 ⟨#[]⟩ b3 0 = some (n, b1, ⟨#[]⟩, b3, 0, 0))
    (hr : eid_Right.f n b1 ⟨#[]⟩ b3 0 = some true) (hy : eid_Home.f n b1 (s.extract 0 j.toNat) b3 b4 = some (n, b1, ⟨#[]⟩, b3, 0, 0)) (hn : (n == 1) = true) (hj : (if 21 < (s.size : Int) then 21 else (s.size : Int)) = j) (hj0 : 0 ≤ j) (hj1 : j ≤ (s.size : Int)) :
    Calls Tryd.prog 6 #[.agg #[.int .i64 a0, .string a1, .string a2, .int .i64 a3, .int .i64 a4], .string s] w fun e w' => e = .returned (.bool true) ∧ Below w.heap.size w w' := by
  have j0 := eq_true hj0
  have j1 : decide (0 ≤ j) = true := decide_eq_true hj0
  have j2 := eq_true hj1
  have j3 : decide (j ≤ (s.size : Int)) = true := decide_eq_true hj1
  clear hj0 hj1
  have hu := Tryd.underlying23
  have HL0 := Lib.hid hLd
  clear hLd
  go_enter Tryd.func6, Tryd.ntmps6
  go_wp2_with (fail)
  have HLa := HL0.out.below (b_alloc (Below.refl w.heap.size w) (.cells #[.int .i64 a0, .string a1, .string a2, .int .i64 a3, .int .i64 a4] 23))
  refine (postriderlaw06_shown.calls true _ HLa rfl).mono ?_
  rintro e1 w1 ⟨rfl, hb1⟩
  have HL1 := Lib.hid (HLa.below hb1)
  have HB1 := Lib.hid (YtandbobinjhehaaDoorW.PrintWords.below_step (b_alloc (Below.refl w.heap.size w) _) hb1)
  have Kx := Lib.hid (YtandbobinjhehaaDoorW.PrintWords.blk_below (YtandbobinjhehaaDoorW.PrintWords.blk_new w (.cells #[.int .i64 a0, .string a1, .string a2, .int .i64 a3, .int .i64 a4] 23)) hb1)
  have Gx := Lib.hid (Nat.le_refl w.heap.size)
  obtain ⟨gx, hgx⟩ : ∃ g, g = w.heap.size := ⟨_, rfl⟩
  rw [← hgx] at Kx ⊢
  replace Gx := Lib.hid (show w.heap.size ≤ gx by omega)
  clear hgx hb1 HL0 HLa
  have cx0 : (w1).cell? ⟨gx, 0, none⟩ = some (.int .i64 a0) := (cell_blk Kx.out 0).trans rfl
  have fx0 := frozen_blk Kx.out 0
  have cx1 : (w1).cell? ⟨gx, 1, none⟩ = some (.string a1) := (cell_blk Kx.out 1).trans rfl
  have fx1 := frozen_blk Kx.out 1
  have cx2 : (w1).cell? ⟨gx, 2, none⟩ = some (.string a2) := (cell_blk Kx.out 2).trans rfl
  have fx2 := frozen_blk Kx.out 2
  have cx3 : (w1).cell? ⟨gx, 3, none⟩ = some (.int .i64 a3) := (cell_blk Kx.out 3).trans rfl
  have fx3 := frozen_blk Kx.out 3
  have cx4 : (w1).cell? ⟨gx, 4, none⟩ = some (.int .i64 a4) := (cell_blk Kx.out 4).trans rfl
  have fx4 := frozen_blk Kx.out 4
  go_wp2_with (fail)
  refine (postriderlaw06_Cut.calls _ _ _ _ _ _ _ _ _ _ _ hc).mono ?_
  rintro e2 w2 ⟨rfl, hb2⟩
  have HL2 := Lib.hid (HL1.out.below hb2)
  have HB2 := Lib.hid (YtandbobinjhehaaDoorW.PrintWords.below_step HB1.out hb2)
  have Kx' := Lib.hid (YtandbobinjhehaaDoorW.PrintWords.blk_below Kx.out hb2)
  clear Kx hb2 HL1 HB1 cx0 fx0 cx1 fx1 cx2 fx2 cx3 fx3 cx4 fx4
  have Kx := Kx'
  clear Kx'
  have cx0 : (w2).cell? ⟨gx, 0, none⟩ = some (.int .i64 a0) := (cell_blk Kx.out 0).trans rfl
  have fx0 := frozen_blk Kx.out 0
  have cx1 : (w2).cell? ⟨gx, 1, none⟩ = some (.string a1) := (cell_blk Kx.out 1).trans rfl
  have fx1 := frozen_blk Kx.out 1
  have cx2 : (w2).cell? ⟨gx, 2, none⟩ = some (.string a2) := (cell_blk Kx.out 2).trans rfl
  have fx2 := frozen_blk Kx.out 2
  have cx3 : (w2).cell? ⟨gx, 3, none⟩ = some (.int .i64 a3) := (cell_blk Kx.out 3).trans rfl
  have fx3 := frozen_blk Kx.out 3
  have cx4 : (w2).cell? ⟨gx, 4, none⟩ = some (.int .i64 a4) := (cell_blk Kx.out 4).trans rfl
  have fx4 := frozen_blk Kx.out 4
  go_wp2_with (fail)
  have Kx' := Lib.hid (put5 Kx.out (.int .i64 n) (.string b1) (.string b2) (.int .i64 b3) (.int .i64 b4))
  have HB2' := Lib.hid (below5 HB2.out Gx.out (.int .i64 n) (.string b1) (.string b2) (.int .i64 b3) (.int .i64 b4))
  obtain ⟨w3, hw3⟩ : ∃ z, z = ((((w2.setCell ⟨gx, 0, none⟩ (.int .i64 n)).setCell ⟨gx, 1, none⟩ (.string b1)).setCell ⟨gx, 2, none⟩ (.string b2)).setCell ⟨gx, 3, none⟩ (.int .i64 b3)).setCell ⟨gx, 4, none⟩ (.int .i64 b4) := ⟨_, rfl⟩
  rw [← hw3] at Kx' HB2' ⊢
  clear Kx HB2 hw3 cx0 fx0 cx1 fx1 cx2 fx2 cx3 fx3 cx4 fx4
  have Kx := Kx'
  have HB3 := HB2'
  clear Kx' HB2'
  refine (eid_Home.calls _ _ _ _ _ _ _ _ _ _ _ _ hh).mono ?_
  rintro e4 w4 ⟨rfl, hb4⟩
  have HB4 := Lib.hid (YtandbobinjhehaaDoorW.PrintWords.below_step HB3.out hb4)
  have Kx' := Lib.hid (YtandbobinjhehaaDoorW.PrintWords.blk_below Kx.out hb4)
  clear Kx hb4 HB3
  have Kx := Kx'
  clear Kx'
  go_wp2_with (fail)
  refine (eid_Home.calls _ _ _ _ _ _ _ _ _ _ _ _ hh2).mono ?_
  rintro e5 w5 ⟨rfl, hb5⟩
  have HB5 := Lib.hid (YtandbobinjhehaaDoorW.PrintWords.below_step (b_alloc HB4.out _) hb5)
  have Kx' := Lib.hid (YtandbobinjhehaaDoorW.PrintWords.blk_below (YtandbobinjhehaaDoorW.PrintWords.blk_alloc Kx.out _) hb5)
  clear Kx
  have Kx := Kx'
  clear Kx'
  have Ka := Lib.hid (YtandbobinjhehaaDoorW.PrintWords.blk_below (YtandbobinjhehaaDoorW.PrintWords.blk_new w4 (.cells #[.int .i64 n, .string b1, .string ⟨#[]⟩, .int .i64 b3, .int .i64 0] 23)) hb5)
  obtain ⟨ga, hga⟩ : ∃ g, g = w4.heap.size := ⟨_, rfl⟩
  rw [← hga] at Ka ⊢
  clear hga hb5 HB4
  have cx0 : (w5.alloc (.cells #[.int .i64 n, .string b1, .string ⟨#[]⟩, .int .i64 b3, .int .i64 0] 23)).cell? ⟨gx, 0, none⟩ = some (.int .i64 n) := (cell_blk (YtandbobinjhehaaDoorW.PrintWords.blk_alloc Kx.out (.cells #[.int .i64 n, .string b1, .string ⟨#[]⟩, .int .i64 b3, .int .i64 0] 23)) 0).trans rfl
  have fx0 := frozen_blk (YtandbobinjhehaaDoorW.PrintWords.blk_alloc Kx.out (.cells #[.int .i64 n, .string b1, .string ⟨#[]⟩, .int .i64 b3, .int .i64 0] 23)) 0
  have cx1 : (w5.alloc (.cells #[.int .i64 n, .string b1, .string ⟨#[]⟩, .int .i64 b3, .int .i64 0] 23)).cell? ⟨gx, 1, none⟩ = some (.string b1) := (cell_blk (YtandbobinjhehaaDoorW.PrintWords.blk_alloc Kx.out (.cells #[.int .i64 n, .string b1, .string ⟨#[]⟩, .int .i64 b3, .int .i64 0] 23)) 1).trans rfl
  have fx1 := frozen_blk (YtandbobinjhehaaDoorW.PrintWords.blk_alloc Kx.out (.cells #[.int .i64 n, .string b1, .string ⟨#[]⟩, .int .i64 b3, .int .i64 0] 23)) 1
  have cx2 : (w5.alloc (.cells #[.int .i64 n, .string b1, .string ⟨#[]⟩, .int .i64 b3, .int .i64 0] 23)).cell? ⟨gx, 2, none⟩ = some (.string b2) := (cell_blk (YtandbobinjhehaaDoorW.PrintWords.blk_alloc Kx.out (.cells #[.int .i64 n, .string b1, .string ⟨#[]⟩, .int .i64 b3, .int .i64 0] 23)) 2).trans rfl
  have fx2 := frozen_blk (YtandbobinjhehaaDoorW.PrintWords.blk_alloc Kx.out (.cells #[.int .i64 n, .string b1, .string ⟨#[]⟩, .int .i64 b3, .int .i64 0] 23)) 2
  have cx3 : (w5.alloc (.cells #[.int .i64 n, .string b1, .string ⟨#[]⟩, .int .i64 b3, .int .i64 0] 23)).cell? ⟨gx, 3, none⟩ = some (.int .i64 b3) := (cell_blk (YtandbobinjhehaaDoorW.PrintWords.blk_alloc Kx.out (.cells #[.int .i64 n, .string b1, .string ⟨#[]⟩, .int .i64 b3, .int .i64 0] 23)) 3).trans rfl
  have fx3 := frozen_blk (YtandbobinjhehaaDoorW.PrintWords.blk_alloc Kx.out (.cells #[.int .i64 n, .string b1, .string ⟨#[]⟩, .int .i64 b3, .int .i64 0] 23)) 3
  have cx4 : (w5.alloc (.cells #[.int .i64 n, .string b1, .string ⟨#[]⟩, .int .i64 b3, .int .i64 0] 23)).cell? ⟨gx, 4, none⟩ = some (.int .i64 b4) := (cell_blk (YtandbobinjhehaaDoorW.PrintWords.blk_alloc Kx.out (.cells #[.int .i64 n, .string b1, .string ⟨#[]⟩, .int .i64 b3, .int .i64 0] 23)) 4).trans rfl
  have fx4 := frozen_blk (YtandbobinjhehaaDoorW.PrintWords.blk_alloc Kx.out (.cells #[.int .i64 n, .string b1, .string ⟨#[]⟩, .int .i64 b3, .int .i64 0] 23)) 4
  go_wp2_with (fail)
  refine (eid_Home.calls _ _ _ _ _ _ _ _ _ _ _ _ hy).mono ?_
  rintro e7 w7 ⟨rfl, hb7⟩
  have HB7 := Lib.hid (YtandbobinjhehaaDoorW.PrintWords.below_step (b_alloc (b_alloc HB5.out _) _) hb7)
  have Kx' := Lib.hid (YtandbobinjhehaaDoorW.PrintWords.blk_below (YtandbobinjhehaaDoorW.PrintWords.blk_alloc (YtandbobinjhehaaDoorW.PrintWords.blk_alloc Kx.out _) _) hb7)
  have Ka' := Lib.hid (YtandbobinjhehaaDoorW.PrintWords.blk_below (YtandbobinjhehaaDoorW.PrintWords.blk_alloc (YtandbobinjhehaaDoorW.PrintWords.blk_alloc Ka.out _) _) hb7)
  have Kb := Lib.hid (YtandbobinjhehaaDoorW.PrintWords.blk_below (YtandbobinjhehaaDoorW.PrintWords.blk_alloc (YtandbobinjhehaaDoorW.PrintWords.blk_new w5 (.cells #[.int .i64 n, .string b1, .string ⟨#[]⟩, .int .i64 b3, .int .i64 0] 23)) _) hb7)
  obtain ⟨gb, hgb⟩ : ∃ g, g = w5.heap.size := ⟨_, rfl⟩
  rw [← hgb] at Kb ⊢
  clear Kx Ka hgb hb7 HB5 cx0 fx0 cx1 fx1 cx2 fx2 cx3 fx3 cx4 fx4
  have Kx := Kx'
  have Ka := Ka'
  clear Kx' Ka'
  have cx0 : (w7.alloc (.cells #[.int .i64 n, .string b1, .string ⟨#[]⟩, .int .i64 b3, .int .i64 0] 23)).cell? ⟨gx, 0, none⟩ = some (.int .i64 n) := (cell_blk (YtandbobinjhehaaDoorW.PrintWords.blk_alloc Kx.out (.cells #[.int .i64 n, .string b1, .string ⟨#[]⟩, .int .i64 b3, .int .i64 0] 23)) 0).trans rfl
  have fx0 := frozen_blk (YtandbobinjhehaaDoorW.PrintWords.blk_alloc Kx.out (.cells #[.int .i64 n, .string b1, .string ⟨#[]⟩, .int .i64 b3, .int .i64 0] 23)) 0
  have cx1 : (w7.alloc (.cells #[.int .i64 n, .string b1, .string ⟨#[]⟩, .int .i64 b3, .int .i64 0] 23)).cell? ⟨gx, 1, none⟩ = some (.string b1) := (cell_blk (YtandbobinjhehaaDoorW.PrintWords.blk_alloc Kx.out (.cells #[.int .i64 n, .string b1, .string ⟨#[]⟩, .int .i64 b3, .int .i64 0] 23)) 1).trans rfl
  have fx1 := frozen_blk (YtandbobinjhehaaDoorW.PrintWords.blk_alloc Kx.out (.cells #[.int .i64 n, .string b1, .string ⟨#[]⟩, .int .i64 b3, .int .i64 0] 23)) 1
  have cx2 : (w7.alloc (.cells #[.int .i64 n, .string b1, .string ⟨#[]⟩, .int .i64 b3, .int .i64 0] 23)).cell? ⟨gx, 2, none⟩ = some (.string b2) := (cell_blk (YtandbobinjhehaaDoorW.PrintWords.blk_alloc Kx.out (.cells #[.int .i64 n, .string b1, .string ⟨#[]⟩, .int .i64 b3, .int .i64 0] 23)) 2).trans rfl
  have fx2 := frozen_blk (YtandbobinjhehaaDoorW.PrintWords.blk_alloc Kx.out (.cells #[.int .i64 n, .string b1, .string ⟨#[]⟩, .int .i64 b3, .int .i64 0] 23)) 2
  have cx3 : (w7.alloc (.cells #[.int .i64 n, .string b1, .string ⟨#[]⟩, .int .i64 b3, .int .i64 0] 23)).cell? ⟨gx, 3, none⟩ = some (.int .i64 b3) := (cell_blk (YtandbobinjhehaaDoorW.PrintWords.blk_alloc Kx.out (.cells #[.int .i64 n, .string b1, .string ⟨#[]⟩, .int .i64 b3, .int .i64 0] 23)) 3).trans rfl
  have fx3 := frozen_blk (YtandbobinjhehaaDoorW.PrintWords.blk_alloc Kx.out (.cells #[.int .i64 n, .string b1, .string ⟨#[]⟩, .int .i64 b3, .int .i64 0] 23)) 3
  have cx4 : (w7.alloc (.cells #[.int .i64 n, .string b1, .string ⟨#[]⟩, .int .i64 b3, .int .i64 0] 23)).cell? ⟨gx, 4, none⟩ = some (.int .i64 b4) := (cell_blk (YtandbobinjhehaaDoorW.PrintWords.blk_alloc Kx.out (.cells #[.int .i64 n, .string b1, .string ⟨#[]⟩, .int .i64 b3, .int .i64 0] 23)) 4).trans rfl
  have fx4 := frozen_blk (YtandbobinjhehaaDoorW.PrintWords.blk_alloc Kx.out (.cells #[.int .i64 n, .string b1, .string ⟨#[]⟩, .int .i64 b3, .int .i64 0] 23)) 4
  have ca0 : (w7.alloc (.cells #[.int .i64 n, .string b1, .string ⟨#[]⟩, .int .i64 b3, .int .i64 0] 23)).cell? ⟨ga, 0, none⟩ = some (.int .i64 n) := (cell_blk (YtandbobinjhehaaDoorW.PrintWords.blk_alloc Ka.out (.cells #[.int .i64 n, .string b1, .string ⟨#[]⟩, .int .i64 b3, .int .i64 0] 23)) 0).trans rfl
  have fa0 := frozen_blk (YtandbobinjhehaaDoorW.PrintWords.blk_alloc Ka.out (.cells #[.int .i64 n, .string b1, .string ⟨#[]⟩, .int .i64 b3, .int .i64 0] 23)) 0
  have ca1 : (w7.alloc (.cells #[.int .i64 n, .string b1, .string ⟨#[]⟩, .int .i64 b3, .int .i64 0] 23)).cell? ⟨ga, 1, none⟩ = some (.string b1) := (cell_blk (YtandbobinjhehaaDoorW.PrintWords.blk_alloc Ka.out (.cells #[.int .i64 n, .string b1, .string ⟨#[]⟩, .int .i64 b3, .int .i64 0] 23)) 1).trans rfl
  have fa1 := frozen_blk (YtandbobinjhehaaDoorW.PrintWords.blk_alloc Ka.out (.cells #[.int .i64 n, .string b1, .string ⟨#[]⟩, .int .i64 b3, .int .i64 0] 23)) 1
  have ca2 : (w7.alloc (.cells #[.int .i64 n, .string b1, .string ⟨#[]⟩, .int .i64 b3, .int .i64 0] 23)).cell? ⟨ga, 2, none⟩ = some (.string ⟨#[]⟩) := (cell_blk (YtandbobinjhehaaDoorW.PrintWords.blk_alloc Ka.out (.cells #[.int .i64 n, .string b1, .string ⟨#[]⟩, .int .i64 b3, .int .i64 0] 23)) 2).trans rfl
  have fa2 := frozen_blk (YtandbobinjhehaaDoorW.PrintWords.blk_alloc Ka.out (.cells #[.int .i64 n, .string b1, .string ⟨#[]⟩, .int .i64 b3, .int .i64 0] 23)) 2
  have ca3 : (w7.alloc (.cells #[.int .i64 n, .string b1, .string ⟨#[]⟩, .int .i64 b3, .int .i64 0] 23)).cell? ⟨ga, 3, none⟩ = some (.int .i64 b3) := (cell_blk (YtandbobinjhehaaDoorW.PrintWords.blk_alloc Ka.out (.cells #[.int .i64 n, .string b1, .string ⟨#[]⟩, .int .i64 b3, .int .i64 0] 23)) 3).trans rfl
  have fa3 := frozen_blk (YtandbobinjhehaaDoorW.PrintWords.blk_alloc Ka.out (.cells #[.int .i64 n, .string b1, .string ⟨#[]⟩, .int .i64 b3, .int .i64 0] 23)) 3
  have ca4 : (w7.alloc (.cells #[.int .i64 n, .string b1, .string ⟨#[]⟩, .int .i64 b3, .int .i64 0] 23)).cell? ⟨ga, 4, none⟩ = some (.int .i64 0) := (cell_blk (YtandbobinjhehaaDoorW.PrintWords.blk_alloc Ka.out (.cells #[.int .i64 n, .string b1, .string ⟨#[]⟩, .int .i64 b3, .int .i64 0] 23)) 4).trans rfl
  have fa4 := frozen_blk (YtandbobinjhehaaDoorW.PrintWords.blk_alloc Ka.out (.cells #[.int .i64 n, .string b1, .string ⟨#[]⟩, .int .i64 b3, .int .i64 0] 23)) 4
  have cb0 : (w7.alloc (.cells #[.int .i64 n, .string b1, .string ⟨#[]⟩, .int .i64 b3, .int .i64 0] 23)).cell? ⟨gb, 0, none⟩ = some (.int .i64 n) := (cell_blk (YtandbobinjhehaaDoorW.PrintWords.blk_alloc Kb.out (.cells #[.int .i64 n, .string b1, .string ⟨#[]⟩, .int .i64 b3, .int .i64 0] 23)) 0).trans rfl
  have fb0 := frozen_blk (YtandbobinjhehaaDoorW.PrintWords.blk_alloc Kb.out (.cells #[.int .i64 n, .string b1, .string ⟨#[]⟩, .int .i64 b3, .int .i64 0] 23)) 0
  have cb1 : (w7.alloc (.cells #[.int .i64 n, .string b1, .string ⟨#[]⟩, .int .i64 b3, .int .i64 0] 23)).cell? ⟨gb, 1, none⟩ = some (.string b1) := (cell_blk (YtandbobinjhehaaDoorW.PrintWords.blk_alloc Kb.out (.cells #[.int .i64 n, .string b1, .string ⟨#[]⟩, .int .i64 b3, .int .i64 0] 23)) 1).trans rfl
  have fb1 := frozen_blk (YtandbobinjhehaaDoorW.PrintWords.blk_alloc Kb.out (.cells #[.int .i64 n, .string b1, .string ⟨#[]⟩, .int .i64 b3, .int .i64 0] 23)) 1
  have cb2 : (w7.alloc (.cells #[.int .i64 n, .string b1, .string ⟨#[]⟩, .int .i64 b3, .int .i64 0] 23)).cell? ⟨gb, 2, none⟩ = some (.string ⟨#[]⟩) := (cell_blk (YtandbobinjhehaaDoorW.PrintWords.blk_alloc Kb.out (.cells #[.int .i64 n, .string b1, .string ⟨#[]⟩, .int .i64 b3, .int .i64 0] 23)) 2).trans rfl
  have fb2 := frozen_blk (YtandbobinjhehaaDoorW.PrintWords.blk_alloc Kb.out (.cells #[.int .i64 n, .string b1, .string ⟨#[]⟩, .int .i64 b3, .int .i64 0] 23)) 2
  have cb3 : (w7.alloc (.cells #[.int .i64 n, .string b1, .string ⟨#[]⟩, .int .i64 b3, .int .i64 0] 23)).cell? ⟨gb, 3, none⟩ = some (.int .i64 b3) := (cell_blk (YtandbobinjhehaaDoorW.PrintWords.blk_alloc Kb.out (.cells #[.int .i64 n, .string b1, .string ⟨#[]⟩, .int .i64 b3, .int .i64 0] 23)) 3).trans rfl
  have fb3 := frozen_blk (YtandbobinjhehaaDoorW.PrintWords.blk_alloc Kb.out (.cells #[.int .i64 n, .string b1, .string ⟨#[]⟩, .int .i64 b3, .int .i64 0] 23)) 3
  have cb4 : (w7.alloc (.cells #[.int .i64 n, .string b1, .string ⟨#[]⟩, .int .i64 b3, .int .i64 0] 23)).cell? ⟨gb, 4, none⟩ = some (.int .i64 0) := (cell_blk (YtandbobinjhehaaDoorW.PrintWords.blk_alloc Kb.out (.cells #[.int .i64 n, .string b1, .string ⟨#[]⟩, .int .i64 b3, .int .i64 0] 23)) 4).trans rfl
  have fb4 := frozen_blk (YtandbobinjhehaaDoorW.PrintWords.blk_alloc Kb.out (.cells #[.int .i64 n, .string b1, .string ⟨#[]⟩, .int .i64 b3, .int .i64 0] 23)) 4
  go_wp2_with (fail)
  refine (eid_Right.calls _ _ _ _ _ _ _ hr).mono ?_
  rintro e8 w8 ⟨rfl, hb8⟩
  have HB8 := Lib.hid (YtandbobinjhehaaDoorW.PrintWords.below_step (b_alloc HB7.out _) hb8)
  have Kx' := Lib.hid (YtandbobinjhehaaDoorW.PrintWords.blk_below (YtandbobinjhehaaDoorW.PrintWords.blk_alloc Kx.out _) hb8)
  have Ka' := Lib.hid (YtandbobinjhehaaDoorW.PrintWords.blk_below (YtandbobinjhehaaDoorW.PrintWords.blk_alloc Ka.out _) hb8)
  have Kc := Lib.hid (YtandbobinjhehaaDoorW.PrintWords.blk_below (YtandbobinjhehaaDoorW.PrintWords.blk_new w7 (.cells #[.int .i64 n, .string b1, .string ⟨#[]⟩, .int .i64 b3, .int .i64 0] 23)) hb8)
  obtain ⟨gc, hgc⟩ : ∃ g, g = w7.heap.size := ⟨_, rfl⟩
  rw [← hgc] at Kc ⊢
  clear Kx Ka Kb hgc hb8 HB7 cx0 fx0 cx1 fx1 cx2 fx2 cx3 fx3 cx4 fx4 ca0 fa0 ca1 fa1 ca2 fa2 ca3 fa3 ca4 fa4 cb0 fb0 cb1 fb1 cb2 fb2 cb3 fb3 cb4 fb4
  have Kx := Kx'
  have Ka := Ka'
  clear Kx' Ka'
  have cx0 : (w8).cell? ⟨gx, 0, none⟩ = some (.int .i64 n) := (cell_blk Kx.out 0).trans rfl
  have fx0 := frozen_blk Kx.out 0
  have cx1 : (w8).cell? ⟨gx, 1, none⟩ = some (.string b1) := (cell_blk Kx.out 1).trans rfl
  have fx1 := frozen_blk Kx.out 1
  have cx2 : (w8).cell? ⟨gx, 2, none⟩ = some (.string b2) := (cell_blk Kx.out 2).trans rfl
  have fx2 := frozen_blk Kx.out 2
  have cx3 : (w8).cell? ⟨gx, 3, none⟩ = some (.int .i64 b3) := (cell_blk Kx.out 3).trans rfl
  have fx3 := frozen_blk Kx.out 3
  have cx4 : (w8).cell? ⟨gx, 4, none⟩ = some (.int .i64 b4) := (cell_blk Kx.out 4).trans rfl
  have fx4 := frozen_blk Kx.out 4
  have ca0 : (w8).cell? ⟨ga, 0, none⟩ = some (.int .i64 n) := (cell_blk Ka.out 0).trans rfl
  have fa0 := frozen_blk Ka.out 0
  have ca1 : (w8).cell? ⟨ga, 1, none⟩ = some (.string b1) := (cell_blk Ka.out 1).trans rfl
  have fa1 := frozen_blk Ka.out 1
  have ca2 : (w8).cell? ⟨ga, 2, none⟩ = some (.string ⟨#[]⟩) := (cell_blk Ka.out 2).trans rfl
  have fa2 := frozen_blk Ka.out 2
  have ca3 : (w8).cell? ⟨ga, 3, none⟩ = some (.int .i64 b3) := (cell_blk Ka.out 3).trans rfl
  have fa3 := frozen_blk Ka.out 3
  have ca4 : (w8).cell? ⟨ga, 4, none⟩ = some (.int .i64 0) := (cell_blk Ka.out 4).trans rfl
  have fa4 := frozen_blk Ka.out 4
  have cc0 : (w8).cell? ⟨gc, 0, none⟩ = some (.int .i64 n) := (cell_blk Kc.out 0).trans rfl
  have fc0 := frozen_blk Kc.out 0
  have cc1 : (w8).cell? ⟨gc, 1, none⟩ = some (.string b1) := (cell_blk Kc.out 1).trans rfl
  have fc1 := frozen_blk Kc.out 1
  have cc2 : (w8).cell? ⟨gc, 2, none⟩ = some (.string ⟨#[]⟩) := (cell_blk Kc.out 2).trans rfl
  have fc2 := frozen_blk Kc.out 2
  have cc3 : (w8).cell? ⟨gc, 3, none⟩ = some (.int .i64 b3) := (cell_blk Kc.out 3).trans rfl
  have fc3 := frozen_blk Kc.out 3
  have cc4 : (w8).cell? ⟨gc, 4, none⟩ = some (.int .i64 0) := (cell_blk Kc.out 4).trans rfl
  have fc4 := frozen_blk Kc.out 4
  go_wp2
  go_ret
  exact ⟨rfl, HB8.out⟩

set_option maxRecDepth 100000 in
set_option maxHeartbeats 4000000 in
theorem homes_not (a0 : Int) (a1 a2 : ByteArray) (a3 a4 : Int) (s : ByteArray) (n : Int) (b1 b2 : ByteArray) (b3 b4 j : Int) (w : World) (hLd : Laid w)
    (hc : postriderlaw06_Cut.f a0 a1 a2 a3 a4 = some (n, b1, b2, b3, b4)) (hh : eid_Home.f n b1 b2 b3 b4 = some (n, b1, ⟨#[]⟩, b3, 0, 0)) (hh2 : eid_Home.f n b1 ⟨#[]⟩ b3 0 = some (n, b1, ⟨#[]⟩, b3, 0, 0))
    (hr : eid_Right.f n b1 ⟨#[]⟩ b3 0 = some true) (hy : eid_Home.f n b1 (s.extract 0 j.toNat) b3 b4 = some (0, ⟨#[]⟩, ⟨#[]⟩, 0, 0, 60)) (hn : (n == 1) = true) (hj : (if 21 < (s.size : Int) then 21 else (s.size : Int)) = j) (hj0 : 0 ≤ j) (hj1 : j ≤ (s.size : Int)) :
    Calls Tryd.prog 6 #[.agg #[.int .i64 a0, .string a1, .string a2, .int .i64 a3, .int .i64 a4], .string s] w fun e w' => e = .returned (.bool true) ∧ Below w.heap.size w w' := by
  have j0 := eq_true hj0
  have j1 : decide (0 ≤ j) = true := decide_eq_true hj0
  have j2 := eq_true hj1
  have j3 : decide (j ≤ (s.size : Int)) = true := decide_eq_true hj1
  clear hj0 hj1
  have hu := Tryd.underlying23
  have HL0 := Lib.hid hLd
  clear hLd
  go_enter Tryd.func6, Tryd.ntmps6
  go_wp2_with (fail)
  have HLa := HL0.out.below (b_alloc (Below.refl w.heap.size w) (.cells #[.int .i64 a0, .string a1, .string a2, .int .i64 a3, .int .i64 a4] 23))
  refine (postriderlaw06_shown.calls true _ HLa rfl).mono ?_
  rintro e1 w1 ⟨rfl, hb1⟩
  have HL1 := Lib.hid (HLa.below hb1)
  have HB1 := Lib.hid (YtandbobinjhehaaDoorW.PrintWords.below_step (b_alloc (Below.refl w.heap.size w) _) hb1)
  have Kx := Lib.hid (YtandbobinjhehaaDoorW.PrintWords.blk_below (YtandbobinjhehaaDoorW.PrintWords.blk_new w (.cells #[.int .i64 a0, .string a1, .string a2, .int .i64 a3, .int .i64 a4] 23)) hb1)
  have Gx := Lib.hid (Nat.le_refl w.heap.size)
  obtain ⟨gx, hgx⟩ : ∃ g, g = w.heap.size := ⟨_, rfl⟩
  rw [← hgx] at Kx ⊢
  replace Gx := Lib.hid (show w.heap.size ≤ gx by omega)
  clear hgx hb1 HL0 HLa
  have cx0 : (w1).cell? ⟨gx, 0, none⟩ = some (.int .i64 a0) := (cell_blk Kx.out 0).trans rfl
  have fx0 := frozen_blk Kx.out 0
  have cx1 : (w1).cell? ⟨gx, 1, none⟩ = some (.string a1) := (cell_blk Kx.out 1).trans rfl
  have fx1 := frozen_blk Kx.out 1
  have cx2 : (w1).cell? ⟨gx, 2, none⟩ = some (.string a2) := (cell_blk Kx.out 2).trans rfl
  have fx2 := frozen_blk Kx.out 2
  have cx3 : (w1).cell? ⟨gx, 3, none⟩ = some (.int .i64 a3) := (cell_blk Kx.out 3).trans rfl
  have fx3 := frozen_blk Kx.out 3
  have cx4 : (w1).cell? ⟨gx, 4, none⟩ = some (.int .i64 a4) := (cell_blk Kx.out 4).trans rfl
  have fx4 := frozen_blk Kx.out 4
  go_wp2_with (fail)
  refine (postriderlaw06_Cut.calls _ _ _ _ _ _ _ _ _ _ _ hc).mono ?_
  rintro e2 w2 ⟨rfl, hb2⟩
  have HL2 := Lib.hid (HL1.out.below hb2)
  have HB2 := Lib.hid (YtandbobinjhehaaDoorW.PrintWords.below_step HB1.out hb2)
  have Kx' := Lib.hid (YtandbobinjhehaaDoorW.PrintWords.blk_below Kx.out hb2)
  clear Kx hb2 HL1 HB1 cx0 fx0 cx1 fx1 cx2 fx2 cx3 fx3 cx4 fx4
  have Kx := Kx'
  clear Kx'
  have cx0 : (w2).cell? ⟨gx, 0, none⟩ = some (.int .i64 a0) := (cell_blk Kx.out 0).trans rfl
  have fx0 := frozen_blk Kx.out 0
  have cx1 : (w2).cell? ⟨gx, 1, none⟩ = some (.string a1) := (cell_blk Kx.out 1).trans rfl
  have fx1 := frozen_blk Kx.out 1
  have cx2 : (w2).cell? ⟨gx, 2, none⟩ = some (.string a2) := (cell_blk Kx.out 2).trans rfl
  have fx2 := frozen_blk Kx.out 2
  have cx3 : (w2).cell? ⟨gx, 3, none⟩ = some (.int .i64 a3) := (cell_blk Kx.out 3).trans rfl
  have fx3 := frozen_blk Kx.out 3
  have cx4 : (w2).cell? ⟨gx, 4, none⟩ = some (.int .i64 a4) := (cell_blk Kx.out 4).trans rfl
  have fx4 := frozen_blk Kx.out 4
  go_wp2_with (fail)
  have Kx' := Lib.hid (put5 Kx.out (.int .i64 n) (.string b1) (.string b2) (.int .i64 b3) (.int .i64 b4))
  have HB2' := Lib.hid (below5 HB2.out Gx.out (.int .i64 n) (.string b1) (.string b2) (.int .i64 b3) (.int .i64 b4))
  obtain ⟨w3, hw3⟩ : ∃ z, z = ((((w2.setCell ⟨gx, 0, none⟩ (.int .i64 n)).setCell ⟨gx, 1, none⟩ (.string b1)).setCell ⟨gx, 2, none⟩ (.string b2)).setCell ⟨gx, 3, none⟩ (.int .i64 b3)).setCell ⟨gx, 4, none⟩ (.int .i64 b4) := ⟨_, rfl⟩
  rw [← hw3] at Kx' HB2' ⊢
  clear Kx HB2 hw3 cx0 fx0 cx1 fx1 cx2 fx2 cx3 fx3 cx4 fx4
  have Kx := Kx'
  have HB3 := HB2'
  clear Kx' HB2'
  refine (eid_Home.calls _ _ _ _ _ _ _ _ _ _ _ _ hh).mono ?_
  rintro e4 w4 ⟨rfl, hb4⟩
  have HB4 := Lib.hid (YtandbobinjhehaaDoorW.PrintWords.below_step HB3.out hb4)
  have Kx' := Lib.hid (YtandbobinjhehaaDoorW.PrintWords.blk_below Kx.out hb4)
  clear Kx hb4 HB3
  have Kx := Kx'
  clear Kx'
  go_wp2_with (fail)
  refine (eid_Home.calls _ _ _ _ _ _ _ _ _ _ _ _ hh2).mono ?_
  rintro e5 w5 ⟨rfl, hb5⟩
  have HB5 := Lib.hid (YtandbobinjhehaaDoorW.PrintWords.below_step (b_alloc HB4.out _) hb5)
  have Kx' := Lib.hid (YtandbobinjhehaaDoorW.PrintWords.blk_below (YtandbobinjhehaaDoorW.PrintWords.blk_alloc Kx.out _) hb5)
  clear Kx
  have Kx := Kx'
  clear Kx'
  have Ka := Lib.hid (YtandbobinjhehaaDoorW.PrintWords.blk_below (YtandbobinjhehaaDoorW.PrintWords.blk_new w4 (.cells #[.int .i64 n, .string b1, .string ⟨#[]⟩, .int .i64 b3, .int .i64 0] 23)) hb5)
  obtain ⟨ga, hga⟩ : ∃ g, g = w4.heap.size := ⟨_, rfl⟩
  rw [← hga] at Ka ⊢
  clear hga hb5 HB4
  have cx0 : (w5.alloc (.cells #[.int .i64 n, .string b1, .string ⟨#[]⟩, .int .i64 b3, .int .i64 0] 23)).cell? ⟨gx, 0, none⟩ = some (.int .i64 n) := (cell_blk (YtandbobinjhehaaDoorW.PrintWords.blk_alloc Kx.out (.cells #[.int .i64 n, .string b1, .string ⟨#[]⟩, .int .i64 b3, .int .i64 0] 23)) 0).trans rfl
  have fx0 := frozen_blk (YtandbobinjhehaaDoorW.PrintWords.blk_alloc Kx.out (.cells #[.int .i64 n, .string b1, .string ⟨#[]⟩, .int .i64 b3, .int .i64 0] 23)) 0
  have cx1 : (w5.alloc (.cells #[.int .i64 n, .string b1, .string ⟨#[]⟩, .int .i64 b3, .int .i64 0] 23)).cell? ⟨gx, 1, none⟩ = some (.string b1) := (cell_blk (YtandbobinjhehaaDoorW.PrintWords.blk_alloc Kx.out (.cells #[.int .i64 n, .string b1, .string ⟨#[]⟩, .int .i64 b3, .int .i64 0] 23)) 1).trans rfl
  have fx1 := frozen_blk (YtandbobinjhehaaDoorW.PrintWords.blk_alloc Kx.out (.cells #[.int .i64 n, .string b1, .string ⟨#[]⟩, .int .i64 b3, .int .i64 0] 23)) 1
  have cx2 : (w5.alloc (.cells #[.int .i64 n, .string b1, .string ⟨#[]⟩, .int .i64 b3, .int .i64 0] 23)).cell? ⟨gx, 2, none⟩ = some (.string b2) := (cell_blk (YtandbobinjhehaaDoorW.PrintWords.blk_alloc Kx.out (.cells #[.int .i64 n, .string b1, .string ⟨#[]⟩, .int .i64 b3, .int .i64 0] 23)) 2).trans rfl
  have fx2 := frozen_blk (YtandbobinjhehaaDoorW.PrintWords.blk_alloc Kx.out (.cells #[.int .i64 n, .string b1, .string ⟨#[]⟩, .int .i64 b3, .int .i64 0] 23)) 2
  have cx3 : (w5.alloc (.cells #[.int .i64 n, .string b1, .string ⟨#[]⟩, .int .i64 b3, .int .i64 0] 23)).cell? ⟨gx, 3, none⟩ = some (.int .i64 b3) := (cell_blk (YtandbobinjhehaaDoorW.PrintWords.blk_alloc Kx.out (.cells #[.int .i64 n, .string b1, .string ⟨#[]⟩, .int .i64 b3, .int .i64 0] 23)) 3).trans rfl
  have fx3 := frozen_blk (YtandbobinjhehaaDoorW.PrintWords.blk_alloc Kx.out (.cells #[.int .i64 n, .string b1, .string ⟨#[]⟩, .int .i64 b3, .int .i64 0] 23)) 3
  have cx4 : (w5.alloc (.cells #[.int .i64 n, .string b1, .string ⟨#[]⟩, .int .i64 b3, .int .i64 0] 23)).cell? ⟨gx, 4, none⟩ = some (.int .i64 b4) := (cell_blk (YtandbobinjhehaaDoorW.PrintWords.blk_alloc Kx.out (.cells #[.int .i64 n, .string b1, .string ⟨#[]⟩, .int .i64 b3, .int .i64 0] 23)) 4).trans rfl
  have fx4 := frozen_blk (YtandbobinjhehaaDoorW.PrintWords.blk_alloc Kx.out (.cells #[.int .i64 n, .string b1, .string ⟨#[]⟩, .int .i64 b3, .int .i64 0] 23)) 4
  go_wp2_with (fail)
  refine (eid_Home.calls _ _ _ _ _ _ _ _ _ _ _ _ hy).mono ?_
  rintro e7 w7 ⟨rfl, hb7⟩
  have HB7 := Lib.hid (YtandbobinjhehaaDoorW.PrintWords.below_step (b_alloc (b_alloc HB5.out _) _) hb7)
  have Kx' := Lib.hid (YtandbobinjhehaaDoorW.PrintWords.blk_below (YtandbobinjhehaaDoorW.PrintWords.blk_alloc (YtandbobinjhehaaDoorW.PrintWords.blk_alloc Kx.out _) _) hb7)
  have Ka' := Lib.hid (YtandbobinjhehaaDoorW.PrintWords.blk_below (YtandbobinjhehaaDoorW.PrintWords.blk_alloc (YtandbobinjhehaaDoorW.PrintWords.blk_alloc Ka.out _) _) hb7)
  have Kb := Lib.hid (YtandbobinjhehaaDoorW.PrintWords.blk_below (YtandbobinjhehaaDoorW.PrintWords.blk_alloc (YtandbobinjhehaaDoorW.PrintWords.blk_new w5 (.cells #[.int .i64 n, .string b1, .string ⟨#[]⟩, .int .i64 b3, .int .i64 0] 23)) _) hb7)
  obtain ⟨gb, hgb⟩ : ∃ g, g = w5.heap.size := ⟨_, rfl⟩
  rw [← hgb] at Kb ⊢
  clear Kx Ka hgb hb7 HB5 cx0 fx0 cx1 fx1 cx2 fx2 cx3 fx3 cx4 fx4
  have Kx := Kx'
  have Ka := Ka'
  clear Kx' Ka'
  have cx0 : (w7.alloc (.cells #[.int .i64 0, .string ⟨#[]⟩, .string ⟨#[]⟩, .int .i64 0, .int .i64 0] 23)).cell? ⟨gx, 0, none⟩ = some (.int .i64 n) := (cell_blk (YtandbobinjhehaaDoorW.PrintWords.blk_alloc Kx.out (.cells #[.int .i64 0, .string ⟨#[]⟩, .string ⟨#[]⟩, .int .i64 0, .int .i64 0] 23)) 0).trans rfl
  have fx0 := frozen_blk (YtandbobinjhehaaDoorW.PrintWords.blk_alloc Kx.out (.cells #[.int .i64 0, .string ⟨#[]⟩, .string ⟨#[]⟩, .int .i64 0, .int .i64 0] 23)) 0
  have cx1 : (w7.alloc (.cells #[.int .i64 0, .string ⟨#[]⟩, .string ⟨#[]⟩, .int .i64 0, .int .i64 0] 23)).cell? ⟨gx, 1, none⟩ = some (.string b1) := (cell_blk (YtandbobinjhehaaDoorW.PrintWords.blk_alloc Kx.out (.cells #[.int .i64 0, .string ⟨#[]⟩, .string ⟨#[]⟩, .int .i64 0, .int .i64 0] 23)) 1).trans rfl
  have fx1 := frozen_blk (YtandbobinjhehaaDoorW.PrintWords.blk_alloc Kx.out (.cells #[.int .i64 0, .string ⟨#[]⟩, .string ⟨#[]⟩, .int .i64 0, .int .i64 0] 23)) 1
  have cx2 : (w7.alloc (.cells #[.int .i64 0, .string ⟨#[]⟩, .string ⟨#[]⟩, .int .i64 0, .int .i64 0] 23)).cell? ⟨gx, 2, none⟩ = some (.string b2) := (cell_blk (YtandbobinjhehaaDoorW.PrintWords.blk_alloc Kx.out (.cells #[.int .i64 0, .string ⟨#[]⟩, .string ⟨#[]⟩, .int .i64 0, .int .i64 0] 23)) 2).trans rfl
  have fx2 := frozen_blk (YtandbobinjhehaaDoorW.PrintWords.blk_alloc Kx.out (.cells #[.int .i64 0, .string ⟨#[]⟩, .string ⟨#[]⟩, .int .i64 0, .int .i64 0] 23)) 2
  have cx3 : (w7.alloc (.cells #[.int .i64 0, .string ⟨#[]⟩, .string ⟨#[]⟩, .int .i64 0, .int .i64 0] 23)).cell? ⟨gx, 3, none⟩ = some (.int .i64 b3) := (cell_blk (YtandbobinjhehaaDoorW.PrintWords.blk_alloc Kx.out (.cells #[.int .i64 0, .string ⟨#[]⟩, .string ⟨#[]⟩, .int .i64 0, .int .i64 0] 23)) 3).trans rfl
  have fx3 := frozen_blk (YtandbobinjhehaaDoorW.PrintWords.blk_alloc Kx.out (.cells #[.int .i64 0, .string ⟨#[]⟩, .string ⟨#[]⟩, .int .i64 0, .int .i64 0] 23)) 3
  have cx4 : (w7.alloc (.cells #[.int .i64 0, .string ⟨#[]⟩, .string ⟨#[]⟩, .int .i64 0, .int .i64 0] 23)).cell? ⟨gx, 4, none⟩ = some (.int .i64 b4) := (cell_blk (YtandbobinjhehaaDoorW.PrintWords.blk_alloc Kx.out (.cells #[.int .i64 0, .string ⟨#[]⟩, .string ⟨#[]⟩, .int .i64 0, .int .i64 0] 23)) 4).trans rfl
  have fx4 := frozen_blk (YtandbobinjhehaaDoorW.PrintWords.blk_alloc Kx.out (.cells #[.int .i64 0, .string ⟨#[]⟩, .string ⟨#[]⟩, .int .i64 0, .int .i64 0] 23)) 4
  have ca0 : (w7.alloc (.cells #[.int .i64 0, .string ⟨#[]⟩, .string ⟨#[]⟩, .int .i64 0, .int .i64 0] 23)).cell? ⟨ga, 0, none⟩ = some (.int .i64 n) := (cell_blk (YtandbobinjhehaaDoorW.PrintWords.blk_alloc Ka.out (.cells #[.int .i64 0, .string ⟨#[]⟩, .string ⟨#[]⟩, .int .i64 0, .int .i64 0] 23)) 0).trans rfl
  have fa0 := frozen_blk (YtandbobinjhehaaDoorW.PrintWords.blk_alloc Ka.out (.cells #[.int .i64 0, .string ⟨#[]⟩, .string ⟨#[]⟩, .int .i64 0, .int .i64 0] 23)) 0
  have ca1 : (w7.alloc (.cells #[.int .i64 0, .string ⟨#[]⟩, .string ⟨#[]⟩, .int .i64 0, .int .i64 0] 23)).cell? ⟨ga, 1, none⟩ = some (.string b1) := (cell_blk (YtandbobinjhehaaDoorW.PrintWords.blk_alloc Ka.out (.cells #[.int .i64 0, .string ⟨#[]⟩, .string ⟨#[]⟩, .int .i64 0, .int .i64 0] 23)) 1).trans rfl
  have fa1 := frozen_blk (YtandbobinjhehaaDoorW.PrintWords.blk_alloc Ka.out (.cells #[.int .i64 0, .string ⟨#[]⟩, .string ⟨#[]⟩, .int .i64 0, .int .i64 0] 23)) 1
  have ca2 : (w7.alloc (.cells #[.int .i64 0, .string ⟨#[]⟩, .string ⟨#[]⟩, .int .i64 0, .int .i64 0] 23)).cell? ⟨ga, 2, none⟩ = some (.string ⟨#[]⟩) := (cell_blk (YtandbobinjhehaaDoorW.PrintWords.blk_alloc Ka.out (.cells #[.int .i64 0, .string ⟨#[]⟩, .string ⟨#[]⟩, .int .i64 0, .int .i64 0] 23)) 2).trans rfl
  have fa2 := frozen_blk (YtandbobinjhehaaDoorW.PrintWords.blk_alloc Ka.out (.cells #[.int .i64 0, .string ⟨#[]⟩, .string ⟨#[]⟩, .int .i64 0, .int .i64 0] 23)) 2
  have ca3 : (w7.alloc (.cells #[.int .i64 0, .string ⟨#[]⟩, .string ⟨#[]⟩, .int .i64 0, .int .i64 0] 23)).cell? ⟨ga, 3, none⟩ = some (.int .i64 b3) := (cell_blk (YtandbobinjhehaaDoorW.PrintWords.blk_alloc Ka.out (.cells #[.int .i64 0, .string ⟨#[]⟩, .string ⟨#[]⟩, .int .i64 0, .int .i64 0] 23)) 3).trans rfl
  have fa3 := frozen_blk (YtandbobinjhehaaDoorW.PrintWords.blk_alloc Ka.out (.cells #[.int .i64 0, .string ⟨#[]⟩, .string ⟨#[]⟩, .int .i64 0, .int .i64 0] 23)) 3
  have ca4 : (w7.alloc (.cells #[.int .i64 0, .string ⟨#[]⟩, .string ⟨#[]⟩, .int .i64 0, .int .i64 0] 23)).cell? ⟨ga, 4, none⟩ = some (.int .i64 0) := (cell_blk (YtandbobinjhehaaDoorW.PrintWords.blk_alloc Ka.out (.cells #[.int .i64 0, .string ⟨#[]⟩, .string ⟨#[]⟩, .int .i64 0, .int .i64 0] 23)) 4).trans rfl
  have fa4 := frozen_blk (YtandbobinjhehaaDoorW.PrintWords.blk_alloc Ka.out (.cells #[.int .i64 0, .string ⟨#[]⟩, .string ⟨#[]⟩, .int .i64 0, .int .i64 0] 23)) 4
  have cb0 : (w7.alloc (.cells #[.int .i64 0, .string ⟨#[]⟩, .string ⟨#[]⟩, .int .i64 0, .int .i64 0] 23)).cell? ⟨gb, 0, none⟩ = some (.int .i64 n) := (cell_blk (YtandbobinjhehaaDoorW.PrintWords.blk_alloc Kb.out (.cells #[.int .i64 0, .string ⟨#[]⟩, .string ⟨#[]⟩, .int .i64 0, .int .i64 0] 23)) 0).trans rfl
  have fb0 := frozen_blk (YtandbobinjhehaaDoorW.PrintWords.blk_alloc Kb.out (.cells #[.int .i64 0, .string ⟨#[]⟩, .string ⟨#[]⟩, .int .i64 0, .int .i64 0] 23)) 0
  have cb1 : (w7.alloc (.cells #[.int .i64 0, .string ⟨#[]⟩, .string ⟨#[]⟩, .int .i64 0, .int .i64 0] 23)).cell? ⟨gb, 1, none⟩ = some (.string b1) := (cell_blk (YtandbobinjhehaaDoorW.PrintWords.blk_alloc Kb.out (.cells #[.int .i64 0, .string ⟨#[]⟩, .string ⟨#[]⟩, .int .i64 0, .int .i64 0] 23)) 1).trans rfl
  have fb1 := frozen_blk (YtandbobinjhehaaDoorW.PrintWords.blk_alloc Kb.out (.cells #[.int .i64 0, .string ⟨#[]⟩, .string ⟨#[]⟩, .int .i64 0, .int .i64 0] 23)) 1
  have cb2 : (w7.alloc (.cells #[.int .i64 0, .string ⟨#[]⟩, .string ⟨#[]⟩, .int .i64 0, .int .i64 0] 23)).cell? ⟨gb, 2, none⟩ = some (.string ⟨#[]⟩) := (cell_blk (YtandbobinjhehaaDoorW.PrintWords.blk_alloc Kb.out (.cells #[.int .i64 0, .string ⟨#[]⟩, .string ⟨#[]⟩, .int .i64 0, .int .i64 0] 23)) 2).trans rfl
  have fb2 := frozen_blk (YtandbobinjhehaaDoorW.PrintWords.blk_alloc Kb.out (.cells #[.int .i64 0, .string ⟨#[]⟩, .string ⟨#[]⟩, .int .i64 0, .int .i64 0] 23)) 2
  have cb3 : (w7.alloc (.cells #[.int .i64 0, .string ⟨#[]⟩, .string ⟨#[]⟩, .int .i64 0, .int .i64 0] 23)).cell? ⟨gb, 3, none⟩ = some (.int .i64 b3) := (cell_blk (YtandbobinjhehaaDoorW.PrintWords.blk_alloc Kb.out (.cells #[.int .i64 0, .string ⟨#[]⟩, .string ⟨#[]⟩, .int .i64 0, .int .i64 0] 23)) 3).trans rfl
  have fb3 := frozen_blk (YtandbobinjhehaaDoorW.PrintWords.blk_alloc Kb.out (.cells #[.int .i64 0, .string ⟨#[]⟩, .string ⟨#[]⟩, .int .i64 0, .int .i64 0] 23)) 3
  have cb4 : (w7.alloc (.cells #[.int .i64 0, .string ⟨#[]⟩, .string ⟨#[]⟩, .int .i64 0, .int .i64 0] 23)).cell? ⟨gb, 4, none⟩ = some (.int .i64 0) := (cell_blk (YtandbobinjhehaaDoorW.PrintWords.blk_alloc Kb.out (.cells #[.int .i64 0, .string ⟨#[]⟩, .string ⟨#[]⟩, .int .i64 0, .int .i64 0] 23)) 4).trans rfl
  have fb4 := frozen_blk (YtandbobinjhehaaDoorW.PrintWords.blk_alloc Kb.out (.cells #[.int .i64 0, .string ⟨#[]⟩, .string ⟨#[]⟩, .int .i64 0, .int .i64 0] 23)) 4
  go_wp2_with (fail)
  refine (eid_Right.calls _ _ _ _ _ _ _ hr).mono ?_
  rintro e8 w8 ⟨rfl, hb8⟩
  have HB8 := Lib.hid (YtandbobinjhehaaDoorW.PrintWords.below_step (b_alloc HB7.out _) hb8)
  have Kx' := Lib.hid (YtandbobinjhehaaDoorW.PrintWords.blk_below (YtandbobinjhehaaDoorW.PrintWords.blk_alloc Kx.out _) hb8)
  have Ka' := Lib.hid (YtandbobinjhehaaDoorW.PrintWords.blk_below (YtandbobinjhehaaDoorW.PrintWords.blk_alloc Ka.out _) hb8)
  have Kc := Lib.hid (YtandbobinjhehaaDoorW.PrintWords.blk_below (YtandbobinjhehaaDoorW.PrintWords.blk_new w7 (.cells #[.int .i64 0, .string ⟨#[]⟩, .string ⟨#[]⟩, .int .i64 0, .int .i64 0] 23)) hb8)
  obtain ⟨gc, hgc⟩ : ∃ g, g = w7.heap.size := ⟨_, rfl⟩
  rw [← hgc] at Kc ⊢
  clear Kx Ka Kb hgc hb8 HB7 cx0 fx0 cx1 fx1 cx2 fx2 cx3 fx3 cx4 fx4 ca0 fa0 ca1 fa1 ca2 fa2 ca3 fa3 ca4 fa4 cb0 fb0 cb1 fb1 cb2 fb2 cb3 fb3 cb4 fb4
  have Kx := Kx'
  have Ka := Ka'
  clear Kx' Ka'
  have cx0 : (w8).cell? ⟨gx, 0, none⟩ = some (.int .i64 n) := (cell_blk Kx.out 0).trans rfl
  have fx0 := frozen_blk Kx.out 0
  have cx1 : (w8).cell? ⟨gx, 1, none⟩ = some (.string b1) := (cell_blk Kx.out 1).trans rfl
  have fx1 := frozen_blk Kx.out 1
  have cx2 : (w8).cell? ⟨gx, 2, none⟩ = some (.string b2) := (cell_blk Kx.out 2).trans rfl
  have fx2 := frozen_blk Kx.out 2
  have cx3 : (w8).cell? ⟨gx, 3, none⟩ = some (.int .i64 b3) := (cell_blk Kx.out 3).trans rfl
  have fx3 := frozen_blk Kx.out 3
  have cx4 : (w8).cell? ⟨gx, 4, none⟩ = some (.int .i64 b4) := (cell_blk Kx.out 4).trans rfl
  have fx4 := frozen_blk Kx.out 4
  have ca0 : (w8).cell? ⟨ga, 0, none⟩ = some (.int .i64 n) := (cell_blk Ka.out 0).trans rfl
  have fa0 := frozen_blk Ka.out 0
  have ca1 : (w8).cell? ⟨ga, 1, none⟩ = some (.string b1) := (cell_blk Ka.out 1).trans rfl
  have fa1 := frozen_blk Ka.out 1
  have ca2 : (w8).cell? ⟨ga, 2, none⟩ = some (.string ⟨#[]⟩) := (cell_blk Ka.out 2).trans rfl
  have fa2 := frozen_blk Ka.out 2
  have ca3 : (w8).cell? ⟨ga, 3, none⟩ = some (.int .i64 b3) := (cell_blk Ka.out 3).trans rfl
  have fa3 := frozen_blk Ka.out 3
  have ca4 : (w8).cell? ⟨ga, 4, none⟩ = some (.int .i64 0) := (cell_blk Ka.out 4).trans rfl
  have fa4 := frozen_blk Ka.out 4
  have cc0 : (w8).cell? ⟨gc, 0, none⟩ = some (.int .i64 0) := (cell_blk Kc.out 0).trans rfl
  have fc0 := frozen_blk Kc.out 0
  have cc1 : (w8).cell? ⟨gc, 1, none⟩ = some (.string ⟨#[]⟩) := (cell_blk Kc.out 1).trans rfl
  have fc1 := frozen_blk Kc.out 1
  have cc2 : (w8).cell? ⟨gc, 2, none⟩ = some (.string ⟨#[]⟩) := (cell_blk Kc.out 2).trans rfl
  have fc2 := frozen_blk Kc.out 2
  have cc3 : (w8).cell? ⟨gc, 3, none⟩ = some (.int .i64 0) := (cell_blk Kc.out 3).trans rfl
  have fc3 := frozen_blk Kc.out 3
  have cc4 : (w8).cell? ⟨gc, 4, none⟩ = some (.int .i64 0) := (cell_blk Kc.out 4).trans rfl
  have fc4 := frozen_blk Kc.out 4
  go_wp2
  go_ret
  exact ⟨rfl, HB8.out⟩

end Go.Proofs.YtandbobinjhehaaDoor.Hand

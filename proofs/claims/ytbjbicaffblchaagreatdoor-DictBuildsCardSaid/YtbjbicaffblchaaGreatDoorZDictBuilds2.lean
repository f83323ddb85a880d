import Derived.Test.YtbjbicaffblchaaGreatDoorZDictBuilds1
import Derived.ArgAppend
import Derived.Below
import Derived.BigQuiet
import Derived.Carry
import Derived.ChangeArms
import Derived.ChangeSlices
import Derived.Deep.AppendLies
import Derived.Deep.CutBlock
import Derived.Deep.DeepCutAuto
import Derived.Deep.Draws
import Derived.Deep.LoopGhost
import Derived.Deep.OwnRows
import Derived.Deep.QuietTactic
import Derived.Deep.RegionHeld3
import Derived.Deep.RegionLaw
import Derived.KernelRfl
import Derived.Laws.BitsLemmas
import Derived.Laws.BytesArg
import Derived.Laws.IdiomCopy
import Derived.Laws.MakeOwn
import Derived.Laws.OwnMore
import Derived.Laws.Rows
import Derived.Laws.Slices
import Derived.Lib.AppendStr
import Derived.Lib.ConvBytes
import Derived.Maps.AppendAt
import Derived.Maps.OwnIn
import Derived.Maps.OwnSet
import Derived.OrdersHeld
import Derived.OwnWalk
import Derived.RowKit
import Derived.RowKit3
import Derived.ScopeJumps
import Derived.Tactics
import Derived.Test.YtbjbicaffblchaaGreatDoorProg
import Derived.WalkKit
import Derived.WalkMore
import Derived.WideLaws
section
namespace Go.Proofs.YtbjbicaffblchaaGreatDoor.SK
open Go.Proofs.YtbjbicaffblchaaGreatDoor.Hand
open Go.Proofs.YtbjbicaffblchaaGreatDoor.SA
open Go.RowKit Go.Proofs.YtbjbicaffblchaaGreatDoorW.PrintWords Go.Proofs.YtbjbicaffblchaaGreatDoorW.PrintLast Go.Proofs.YtbjbicaffblchaaGreatDoorW.PrintMore
attribute [local go_sem] max2_int min2_int max_two min_two max_three min_three max_four min_four
set_option linter.unusedVariables false
set_option linter.unusedSimpArgs false
def errW : Option Int → Value
  | none => .nilIface
  | some c => .iface 0 (.int .i64 c)
theorem errW_none : errW none = .nilIface := rfl
theorem errW_some (c : Int) : errW (some c) = .iface 0 (.int .i64 c) := rfl
theorem info3 : (Tryz.prog.info? 3).map (fun i => (i.zero, i.size, i.bytes)) = some (some (.int .i64 0), 1, 8) := by kernel_rfl
theorem info41 : (Tryz.prog.info? 41).map (fun i => (i.zero, i.size, i.bytes)) = some (some (.agg #[(.int .i64 0), (.string ⟨#[]⟩), (.string ⟨#[]⟩), (.int .i64 0), (.int .i64 0)]), 5, 56) := by kernel_rfl
structure S41 where
  f0 : Int
  f1 : ByteArray
  f2 : ByteArray
  f3 : Int
  f4 : Int
def z41 : S41 := ⟨(0 : Int), (⟨#[]⟩ : ByteArray), (⟨#[]⟩ : ByteArray), (0 : Int), (0 : Int)⟩
def k41 : Kd S41 := Kd.iso (Kd.pair (Kd.int .i64) (Kd.pair Kd.string (Kd.pair Kd.string (Kd.pair (Kd.int .i64) (Kd.int .i64))))) (fun x : S41 => (x.f0, x.f1, x.f2, x.f3, x.f4))
theorem k41_open {w : World} {x : S41} {cs : List Value} (h : k41.K w x cs) : cs = [.int .i64 x.f0, .string x.f1, .string x.f2, .int .i64 x.f3, .int .i64 x.f4] := by
  obtain ⟨_, _, rfl, rfl, ⟨_, _, rfl, rfl, ⟨_, _, rfl, rfl, ⟨_, _, rfl, rfl, rfl⟩⟩⟩⟩ := h
  exact rfl
theorem k41_mk (w : World) (x : S41)  : k41.K w x [.int .i64 x.f0, .string x.f1, .string x.f2, .int .i64 x.f3, .int .i64 x.f4] := ⟨[.int .i64 x.f0], [.string x.f1, .string x.f2, .int .i64 x.f3, .int .i64 x.f4], rfl, rfl, ⟨[.string x.f1], [.string x.f2, .int .i64 x.f3, .int .i64 x.f4], rfl, rfl, ⟨[.string x.f2], [.int .i64 x.f3, .int .i64 x.f4], rfl, rfl, ⟨[.int .i64 x.f3], [.int .i64 x.f4], rfl, rfl, rfl⟩⟩⟩⟩
theorem k41_mkM (w : World) (base : Nat) (ok : Nat → Prop) (x : S41)  : k41.M w base ok x [.int .i64 x.f0, .string x.f1, .string x.f2, .int .i64 x.f3, .int .i64 x.f4] := ⟨[.int .i64 x.f0], [.string x.f1, .string x.f2, .int .i64 x.f3, .int .i64 x.f4], rfl, rfl, ⟨[.string x.f1], [.string x.f2, .int .i64 x.f3, .int .i64 x.f4], rfl, rfl, ⟨[.string x.f2], [.int .i64 x.f3, .int .i64 x.f4], rfl, rfl, ⟨[.int .i64 x.f3], [.int .i64 x.f4], rfl, rfl, rfl⟩⟩⟩⟩
def rd_T41 (xs : List S41) (i : Int) : S41 := xs.getD i.toNat z41
theorem at_T41 {w : World} {A : Option Addr} {n : Nat} {xs : List S41} (h : Kd.C k41 w A n xs) (i : Int) (h0 : 0 ≤ i) (h1 : i < n) : ∃ ad , A = some ad ∧ w.cell? (ad.add (i.toNat * 5)) = some (.int .i64 (rd_T41 xs i).f0) ∧ w.cell? ⟨(ad.add (i.toNat * 5)).block, (ad.add (i.toNat * 5)).off + 1, none⟩ = some (.string (rd_T41 xs i).f1) ∧ w.cell? ⟨(ad.add (i.toNat * 5)).block, (ad.add (i.toNat * 5)).off + 2, none⟩ = some (.string (rd_T41 xs i).f2) ∧ w.cell? ⟨(ad.add (i.toNat * 5)).block, (ad.add (i.toNat * 5)).off + 3, none⟩ = some (.int .i64 (rd_T41 xs i).f3) ∧ w.cell? ⟨(ad.add (i.toNat * 5)).block, (ad.add (i.toNat * 5)).off + 4, none⟩ = some (.int .i64 (rd_T41 xs i).f4) := by
  obtain ⟨ad, c, e, _, hK, hc0⟩ := Kd.C_get h z41 i h0 h1
  have hc : ∀ j u, c[j]? = some u → w.cell? (ad.add (i.toNat * 5 + j)) = some u := hc0
  obtain rfl := k41_open hK
  exact ⟨ad, e, hc 0 _ rfl, by rw [← add_field _ _ 1 (by omega)]; exact hc 1 _ rfl, by rw [← add_field _ _ 2 (by omega)]; exact hc 2 _ rfl, by rw [← add_field _ _ 3 (by omega)]; exact hc 3 _ rfl, by rw [← add_field _ _ 4 (by omega)]; exact hc 4 _ rfl⟩
end Go.Proofs.YtbjbicaffblchaaGreatDoor.SK
end
section
namespace Go.Proofs.YtbjbicaffblchaaGreatDoor.SK
open Go.Proofs.YtbjbicaffblchaaGreatDoor.Hand
open Go.Proofs.YtbjbicaffblchaaGreatDoor.SA
open Go.RowKit Go.Proofs.YtbjbicaffblchaaGreatDoorW.PrintWords Go.Proofs.YtbjbicaffblchaaGreatDoorW.PrintLast Go.Proofs.YtbjbicaffblchaaGreatDoorW.PrintMore
attribute [local go_sem] max2_int min2_int max_two min_two max_three min_three max_four min_four
set_option linter.unusedVariables false
set_option linter.unusedSimpArgs false
theorem eqA41 (d : Nat) (w : World) (x0 y0 : Int) (x1 y1 : ByteArray) (x2 y2 : ByteArray) (x3 y3 : Int) (x4 y4 : Int) :
    (Op.equalIn (d + 2) 41 (.agg #[.int .i64 x0, .string x1, .string x2, .int .i64 x3, .int .i64 x4]) (.agg #[.int .i64 y0, .string y1, .string y2, .int .i64 y3, .int .i64 y4])).run Tryz.prog w = .ok (x0 == y0 && (x1.toList == y1.toList && (x2.toList == y2.toList && (x3 == y3 && (x4 == y4))))) w := by
  refine eqA_of Tryz.underlying41 (by kernel_rfl) ?_
  refine eqf_cons (by rfl) (by go_simp; rfl) (by go_simp; rfl) (by go_simp) ?_
  refine eqf_cons (by rfl) (by go_simp; rfl) (by go_simp; rfl) (by go_simp) ?_
  refine eqf_cons (by rfl) (by go_simp; rfl) (by go_simp; rfl) (by go_simp) ?_
  refine eqf_cons (by rfl) (by go_simp; rfl) (by go_simp; rfl) (by go_simp) ?_
  exact eqf_last (by rfl) (by go_simp; rfl) (by go_simp; rfl) (by go_simp)
end Go.Proofs.YtbjbicaffblchaaGreatDoor.SK
end
section
namespace Go.Proofs.YtbjbicaffblchaaGreatDoor.SK
open Go.Proofs.YtbjbicaffblchaaGreatDoor.Hand
open Go.Proofs.YtbjbicaffblchaaGreatDoor.SA
open Go.RowKit Go.Proofs.YtbjbicaffblchaaGreatDoorW.PrintWords Go.Proofs.YtbjbicaffblchaaGreatDoorW.PrintLast Go.Proofs.YtbjbicaffblchaaGreatDoorW.PrintMore
attribute [local go_sem] max2_int min2_int max_two min_two max_three min_three max_four min_four
set_option linter.unusedVariables false
set_option linter.unusedSimpArgs false
attribute [local go_sem high] eqA41
def postriderref06_Same.l0 : Nat → List (S41) → List (S41) → Int → Option (Bool)
  | 0, _, _, _ => none
  | k + 1, x0, x1, x5 => if x5 < (x0.length : Int) then (if 0 ≤ x5 then (if x5 < (x1.length : Int) then (if (!(((rd_T41 x0 x5).f0) == ((rd_T41 x1 x5).f0)) || (!((((rd_T41 x0 x5).f1).toList) == (((rd_T41 x1 x5).f1).toList)) || (!((((rd_T41 x0 x5).f2).toList) == (((rd_T41 x1 x5).f2).toList)) || (!(((rd_T41 x0 x5).f3) == ((rd_T41 x1 x5).f3)) || (!(((rd_T41 x0 x5).f4) == ((rd_T41 x1 x5).f4))))))) = true then (some false) else (postriderref06_Same.l0 k x0 x1 (wrap64 (x5 + 1)))) else (none)) else (none)) else (some true)
def postriderref06_Same.f (k : Nat) (l0 : List (S41)) (l1 : List (S41)) : Option (Bool) := if (l0.length : Int) = (l1.length : Int) then (postriderref06_Same.l0 k l0 l1 0) else (some false)
theorem postriderref06_Same.mono_l : ∀ k, (∀ y0 y1 y2, LeO (postriderref06_Same.l0 k y0 y1 y2) (postriderref06_Same.l0 (k + 1) y0 y1 y2))
  | 0 => fun _ _ _ r h => by simp [postriderref06_Same.l0] at h
  | k + 1 => by
    have ih0 := postriderref06_Same.mono_l k
    · intro y0 y1 y2
      unfold postriderref06_Same.l0
      repeat' first
      | (with_reducible exact ih0 _ _ _)
      | (with_reducible exact LeO.refl _)
      | (with_reducible exact LeO.none _)
      | (with_reducible refine LeO.ite ?_ ?_)
      | (with_reducible refine LeO.bind ?_ (fun _ => ?_))
      | exact ih0 _ _ _
      | exact LeO.none _
      | refine LeO.ite ?_ ?_
      | refine LeO.bind ?_ (fun _ => ?_)
theorem postriderref06_Same.mono : ∀ a0 a1 k, LeO (postriderref06_Same.f k a0 a1) (postriderref06_Same.f (k + 1) a0 a1) := by
  intro a0 a1 k
  have ih0 := postriderref06_Same.mono_l k
  unfold postriderref06_Same.f
  repeat' first
      | (with_reducible exact ih0 _ _ _)
      | (with_reducible exact LeO.refl _)
      | (with_reducible exact LeO.none _)
      | (with_reducible refine LeO.ite ?_ ?_)
      | (with_reducible refine LeO.bind ?_ (fun _ => ?_))
      | exact ih0 _ _ _
      | exact LeO.none _
      | refine LeO.ite ?_ ?_
      | refine LeO.bind ?_ (fun _ => ?_)
set_option maxHeartbeats 8000000 in
set_option maxRecDepth 100000 in
theorem postriderref06_Same.calls (k : Nat) (A0 : Option Addr) (c0 : Nat) (l0 : List (S41)) (A1 : Option Addr) (c1 : Nat) (l1 : List (S41)) (r : Bool) (w : World) (hr0 : Kd.C k41 w A0 l0.length l0) (hc0 : l0.length ≤ c0) (hr1 : Kd.C k41 w A1 l1.length l1) (hc1 : l1.length ≤ c1) (h : postriderref06_Same.f k l0 l1 = some r) :
    Calls Tryz.prog 19 #[.slice A0 l0.length c0, .slice A1 l1.length c1] w fun e w' => e = .returned (.bool r) ∧ Drawn0 w w' := by
  have hu41 := Tryz.underlying41
  have HR0 := Aside0.mk hr0
  have HC0 := Aside0.mk hc0
  clear hr0 hc0
  have HR1 := Aside0.mk hr1
  have HC1 := Aside0.mk hc1
  clear hr1 hc1
  have H : (if (l0.length : Int) = (l1.length : Int) then (postriderref06_Same.l0 k l0 l1 0) else (some false)) = some r := h
  clear h
  by_cases c3 : (l0.length : Int) = (l1.length : Int)
  · rw [if_pos c3] at H
    have c3b0 : ((l0.length : Int) == (l1.length : Int)) = true := beq_iff_eq.mpr c3
    have c3b1 : ((l0.length : Int) != (l1.length : Int)) = false := bne_eq_false_iff_eq.mpr c3
    have c3b2 : (l0.length == l1.length) = true := by first | simpa using c3 | (simp at c3 ⊢; omega)
    clear c3
    have H' := Aside0.mk H
    clear H
    go_enter Tryz.func19, Tryz.ntmps19
    go_wp2
    repeat (go_quiet (fail); try go_wp2)
    go_loopg [5] k (fun kq v5 w' => ∃ (x5_1 : Int), v5 = .int .i64 x5_1 ∧ Aside0 (postriderref06_Same.l0 kq l0 l1 x5_1 = some r) ∧ Aside0 (kq ≤ k) ∧ Drawn0 w w')
    case atStart => exact ⟨(0), (by first | rfl | (simp; done) | (simp [*]; done)), H', ⟨Nat.le_refl _⟩, by repeat (first | exact Drawn0.refl _ | apply Drawn0.step)⟩
    case round =>
      clear H'
      try clear c1
      try clear p2
      try clear c3
      try clear c3b0
      try clear c3b1
      try clear c3b2
      obtain ⟨x5_1, rfl, HA, HK1, ⟨m1, rfl⟩⟩ := hrel
      cases gk with
      | zero => exact absurd HA.out (by simp [postriderref06_Same.l0])
      | succ k1 =>
        have H := HA.out
        clear HA
        simp only [postriderref06_Same.l0] at H
        by_cases c4 : x5_1 < (l0.length : Int)
        · rw [if_pos c4] at H
          have c4b0 : decide (x5_1 < (l0.length : Int)) = true := decide_eq_true c4
          clear c4
          by_cases c5 : 0 ≤ x5_1
          · rw [if_pos c5] at H
            have c5b0 : decide (0 ≤ x5_1) = true := decide_eq_true c5
            clear c5
            by_cases c6 : x5_1 < (l1.length : Int)
            · rw [if_pos c6] at H
              have c6b0 : decide (x5_1 < (l1.length : Int)) = true := decide_eq_true c6
              clear c6
              by_cases c7 : (!(((rd_T41 l0 x5_1).f0) == ((rd_T41 l1 x5_1).f0)) || (!((((rd_T41 l0 x5_1).f1).toList) == (((rd_T41 l1 x5_1).f1).toList)) || (!((((rd_T41 l0 x5_1).f2).toList) == (((rd_T41 l1 x5_1).f2).toList)) || (!(((rd_T41 l0 x5_1).f3) == ((rd_T41 l1 x5_1).f3)) || (!(((rd_T41 l0 x5_1).f4) == ((rd_T41 l1 x5_1).f4))))))) = true
              · rw [if_pos c7] at H
                have c7b0 : (!(((rd_T41 l0 x5_1).f0) == ((rd_T41 l1 x5_1).f0)) || (!((((rd_T41 l0 x5_1).f1).toList) == (((rd_T41 l1 x5_1).f1).toList)) || (!((((rd_T41 l0 x5_1).f2).toList) == (((rd_T41 l1 x5_1).f2).toList)) || (!(((rd_T41 l0 x5_1).f3) == ((rd_T41 l1 x5_1).f3)) || (!(((rd_T41 l0 x5_1).f4) == ((rd_T41 l1 x5_1).f4))))))) = true := c7
                clear c7
                obtain rfl := Option.some.inj H
                have p119 : 0 ≤ (x5_1 : Int) := of_decide_eq_true (by first | (with_reducible assumption) | assumption)
                have q119 : x5_1 < (l0.length : Int) := of_decide_eq_true (by first | (with_reducible assumption) | assumption)
                obtain ⟨ad119, e119, hx119_0, hx119_1, hx119_2, hx119_3, hx119_4⟩ := at_T41 HR0.out x5_1 p119 q119
                cases e119
                replace p119 := eq_true p119
                replace q119 := eq_true q119
                have p120 : 0 ≤ (x5_1 : Int) := of_decide_eq_true (by first | (with_reducible assumption) | assumption)
                have q120 : x5_1 < (l1.length : Int) := of_decide_eq_true (by first | (with_reducible assumption) | assumption)
                obtain ⟨ad120, e120, hx120_0, hx120_1, hx120_2, hx120_3, hx120_4⟩ := at_T41 HR1.out x5_1 p120 q120
                cases e120
                replace p120 := eq_true p120
                replace q120 := eq_true q120
                go_wp2
                repeat (go_quiet (fail); try go_wp2)
                all_goals (first | (go_ret; exact ⟨by first | rfl | (simp; done) | (simp [*]; done) | (simp_all; done), by repeat (first | exact Drawn0.refl _ | apply Drawn0.step)⟩) | (exfalso; simp_all; done))
              · rw [if_neg c7] at H
                have c7b0 : (!(((rd_T41 l0 x5_1).f0) == ((rd_T41 l1 x5_1).f0)) || (!((((rd_T41 l0 x5_1).f1).toList) == (((rd_T41 l1 x5_1).f1).toList)) || (!((((rd_T41 l0 x5_1).f2).toList) == (((rd_T41 l1 x5_1).f2).toList)) || (!(((rd_T41 l0 x5_1).f3) == ((rd_T41 l1 x5_1).f3)) || (!(((rd_T41 l0 x5_1).f4) == ((rd_T41 l1 x5_1).f4))))))) = false := by simpa using c7
                clear c7
                have H' := Aside0.mk H
                clear H
                have p119 : 0 ≤ (x5_1 : Int) := of_decide_eq_true (by first | (with_reducible assumption) | assumption)
                have q119 : x5_1 < (l0.length : Int) := of_decide_eq_true (by first | (with_reducible assumption) | assumption)
                obtain ⟨ad119, e119, hx119_0, hx119_1, hx119_2, hx119_3, hx119_4⟩ := at_T41 HR0.out x5_1 p119 q119
                cases e119
                replace p119 := eq_true p119
                replace q119 := eq_true q119
                have p120 : 0 ≤ (x5_1 : Int) := of_decide_eq_true (by first | (with_reducible assumption) | assumption)
                have q120 : x5_1 < (l1.length : Int) := of_decide_eq_true (by first | (with_reducible assumption) | assumption)
                obtain ⟨ad120, e120, hx120_0, hx120_1, hx120_2, hx120_3, hx120_4⟩ := at_T41 HR1.out x5_1 p120 q120
                cases e120
                replace p120 := eq_true p120
                replace q120 := eq_true q120
                go_wp2
                repeat (go_quiet (fail); try go_wp2)
                go_roundg k1
                case measure => have := HK1.out; omega
                case rel => exact ⟨(wrap64 (x5_1 + 1)), (by first | rfl | (simp; done) | (simp [*]; done)), H', ⟨by have := HK1.out; omega⟩, by repeat (first | exact Drawn0.refl _ | apply Drawn0.step)⟩
            · rw [if_neg c6] at H
              exact absurd H (by simp)
          · rw [if_neg c5] at H
            exact absurd H (by simp)
        · rw [if_neg c4] at H
          have c4b0 : decide (x5_1 < (l0.length : Int)) = false := decide_eq_false c4
          clear c4
          obtain rfl := Option.some.inj H
          go_wp2
          repeat (go_quiet (fail); try go_wp2)
          all_goals (first | (go_ret; exact ⟨by first | rfl | (simp; done) | (simp [*]; done) | (simp_all; done), by repeat (first | exact Drawn0.refl _ | apply Drawn0.step)⟩) | (exfalso; simp_all; done))
  · rw [if_neg c3] at H
    have c3b0 : ((l0.length : Int) == (l1.length : Int)) = false := beq_eq_false_iff_ne.mpr c3
    have c3b1 : ((l0.length : Int) != (l1.length : Int)) = true := bne_iff_ne.mpr c3
    have c3b2 : (l0.length == l1.length) = false := by first | simpa using c3 | (simp at c3 ⊢; omega)
    obtain rfl := Option.some.inj H
    go_enter Tryz.func19, Tryz.ntmps19
    go_wp2
    repeat (go_quiet (fail); try go_wp2)
    all_goals (first | (go_ret; exact ⟨by first | rfl | (simp; done) | (simp [*]; done) | (simp_all; done), by repeat (first | exact Drawn0.refl _ | apply Drawn0.step)⟩) | (exfalso; simp_all; done))
end Go.Proofs.YtbjbicaffblchaaGreatDoor.SK
end
section
namespace Go.Proofs.YtbjbicaffblchaaGreatDoor.Hand
open Go.RowKit Go.Proofs.YtbjbicaffblchaaGreatDoorW Go.Proofs.YtbjbicaffblchaaGreatDoorW.PrintWords Go.Proofs.YtbjbicaffblchaaGreatDoor.SK
abbrev Nm := S41
abbrev kNm : Kd Nm := k41
abbrev Nm.v (x : Nm) : Value := .agg #[.int .i64 x.f0, .string x.f1, .string x.f2, .int .i64 x.f3, .int .i64 x.f4]
def Nm.ok (x : Nm) : Prop := x.f1.size ≤ maxLen ∧ x.f2.size ≤ maxLen
def PredNm (g : Nat) (p : Nm → Bool) (w : World) : Prop := ∀ (W : World) (x : Nm), Below w.heap.size w W → x.ok → Calls Tryz.prog g #[x.v] W fun e w' => e = .returned (.bool (p x)) ∧ Below w.heap.size w w'
theorem isDtn_calls (w : World) : PredNm 38 (fun x => x.f0 == 1) w := fun W x hb _ => by
  go_enter Tryz.func38, Tryz.ntmps38
  go_wp2
  all_goals (go_ret; exact ⟨by simp_all, hb.alloc hb.size _⟩)
theorem isOther_calls (w : World) : PredNm 39 (fun x => !rightS x.f0 x.f1 x.f2 x.f3 x.f4) w := fun W x hb hok => by
  have hR := fun W => eid_Right.calls x.f0 x.f1 x.f2 x.f3 x.f4 (rightS x.f0 x.f1 x.f2 x.f3 x.f4) W (by unfold eid_Right.f; exact if_pos hok)
  have hu := Tryz.underlying41
  go_enter Tryz.func39, Tryz.ntmps39
  go_wp2_with (go_at_call 36; refine (hR _).mono ?_; rintro e w' ⟨rfl, hb'⟩)
  go_ret
  exact ⟨by simp, (hb.alloc hb.size _).trans (hb'.mono (by have := hb.size; simp; omega))⟩
set_option maxHeartbeats 2000000 in
theorem index_nm (g : Nat) (p : Nm → Bool) (eg : ∀ args w, (callFunc g args).run Tryz.prog w = .ok (.enter g args) w) (A : Option Addr) (c : Nat) (l : List Nm) (w : World)
    (hp : PredNm g p w) (hr : Kd.C kNm w A l.length l) (hok : ∀ x ∈ l, x.ok) (hbig : l.length ≤ 9223372036854775807) :
    Calls Tryz.prog 60 #[.slice A l.length c, .func (.func g) #[] #[]] w fun e w' => (∃ i : Int, e = .returned (.int .i64 i) ∧ decide (0 ≤ i) = l.any p) ∧ Below w.heap.size w w' := by
  have hu := Tryz.underlying41
  have HR := Lib.hid hr
  have HP := Lib.hid hp
  have HO := Lib.hid hok
  clear hr hp hok
  go_enter Tryz.func60, Tryz.ntmps60
  go_wp2
  go_loopg [5, 8] l.length (fun gg _ s8 wr => ∃ kk : Nat, kk ≤ l.length ∧ l.length - kk ≤ gg ∧ s8 = .int .i64 kk ∧ Hid (Below w.heap.size w wr) ∧ Hid ((l.take kk).any p = false))
  case atStart => exact ⟨0, Nat.zero_le _, by omega, rfl, Lib.hid (Below.refl _ w), Lib.hid (by simp)⟩
  case round =>
    obtain ⟨kk, hkk, hg, rfl, BW, AA⟩ := hrel
    by_cases hlt : kk < l.length
    · have hltz : (kk : Int) < (l.length : Int) := by omega
      obtain ⟨ad, hA, x0, x1, x2, x3, x4⟩ := at_T41 HR.out (kk : Int) (by omega) hltz
      subst hA
      have hmem : rd_T41 l (kk : Int) ∈ l := by
        unfold rd_T41
        rw [List.getD_eq_getElem?_getD, Int.toNat_natCast, List.getElem?_eq_getElem hlt]
        exact List.getElem_mem _
      have htk : (l.take (kk + 1)).any p = ((l.take kk).any p || p (rd_T41 l (kk : Int))) := by
        unfold rd_T41
        rw [List.getD_eq_getElem?_getD, Int.toNat_natCast, List.getElem?_eq_getElem hlt, List.take_succ_eq_append_getElem hlt, List.any_append]
        simp only [List.any_cons, List.any_nil, Bool.or_false, Option.getD_some]
      have hcall := HP.out wr (rd_T41 l (kk : Int)) BW.out (HO.out _ hmem)
      generalize rd_T41 l (kk : Int) = y at *
      have HT := Lib.hid htk
      clear htk hmem
      simp only [Int.toNat_natCast] at x0 x1 x2 x3 x4
      replace x0 := (BW.out.cell (World.block_lt_of_cell? w _ x0)).trans x0
      replace x1 := (BW.out.cell (World.block_lt_of_cell? w _ x1)).trans x1
      replace x2 := (BW.out.cell (World.block_lt_of_cell? w _ x2)).trans x2
      replace x3 := (BW.out.cell (World.block_lt_of_cell? w _ x3)).trans x3
      replace x4 := (BW.out.cell (World.block_lt_of_cell? w _ x4)).trans x4
      cases hq : p y with
      | true =>
        rw [hq] at hcall
        go_wp2_with (go_at_fn g; refine hcall.mono ?_; rintro e w' ⟨rfl, hb'⟩)
        go_ret
        refine ⟨⟨_, rfl, ?_⟩, hb'⟩
        rw [show l.any p = true from ?_]
        · simp
        · have h1 : (l.take (kk + 1)).any p = true := by rw [HT.out, hq]; simp
          rw [← List.take_append_drop (kk + 1) l, List.any_append, h1]
          rfl
      | false =>
        rw [hq] at hcall
        go_wp2_with (go_at_fn g; refine hcall.mono ?_; rintro e w' ⟨rfl, hb'⟩)
        go_roundg (l.length - (kk + 1))
        case measure => omega
        case rel => exact ⟨kk + 1, by omega, by omega, by go_num, Lib.hid hb', Lib.hid (by rw [HT.out, hq, AA.out]; rfl)⟩
    · have hltz : ¬ (kk : Int) < (l.length : Int) := by omega
      have hk : kk = l.length := by omega
      subst hk
      go_wp2
      go_ret
      refine ⟨⟨_, rfl, ?_⟩, BW.out⟩
      have := AA.out
      rw [List.take_length] at this
      rw [this]
      rfl
theorem contains_nm (g : Nat) (p : Nm → Bool) (eg : ∀ args w, (callFunc g args).run Tryz.prog w = .ok (.enter g args) w) (A : Option Addr) (c : Nat) (l : List Nm) (w : World)
    (hp : PredNm g p w) (hr : Kd.C kNm w A l.length l) (hok : ∀ x ∈ l, x.ok) (hbig : l.length ≤ 9223372036854775807) :
    Calls Tryz.prog 40 #[.slice A l.length c, .func (.func g) #[] #[]] w fun e w' => e = .returned (.bool (l.any p)) ∧ Below w.heap.size w w' := by
  have hI := index_nm g p eg A c l w hp hr hok hbig
  clear hp hr hok
  go_enter Tryz.func40, Tryz.ntmps40
  go_wp2_with (go_at_call 60; refine hI.mono ?_; rintro e w' ⟨⟨i, rfl, hi⟩, hb'⟩)
  all_goals (go_ret; refine ⟨?_, hb'⟩; rw [← hi]; simp_all)
end Go.Proofs.YtbjbicaffblchaaGreatDoor.Hand
end
section
namespace Go.Proofs.YtbjbicaffblchaaGreatDoor.Hand
open Go.ChangeShapes Go.WideShapes Go.ChangeAt Go.RowKit Go.Proofs.YtbjbicaffblchaaGreatDoorW Go.Proofs.YtbjbicaffblchaaGreatDoorW.PrintWords Go.Proofs.YtbjbicaffblchaaGreatDoor.SK
theorem laidOut : laidOutB Tryz.prog = true := by kernel_rfl
section
variable {H : Type} {enc : TypeId × Value → H} {W : World} {base : Nat} {spare : Nat → Bool} {held : Bool}
set_option maxRecDepth 100000 in
theorem eid_cells {fuel : Nat} {cs : List Value} {x : DataW H × List MemPlace} (h : DataW.trod enc Tryz.prog W base spare held fuel 41 cs = some x) :
    ∃ z : Nm, cs = [.int .i64 z.f0, .string z.f1, .string z.f2, .int .i64 z.f3, .int .i64 z.f4] := by
  obtain ⟨xs, n, _, hx, hl, hlen, hg⟩ := DataW.trod_struct Tryz.underlying41 h
  rw [cellsEid] at hl
  match cs, hl with
  | [c0, c1, c2, c3, c4], _ =>
    match xs, hlen with
    | [y0, y1, y2, y3, y4], _ =>
      have g0 : DataW.trod enc Tryz.prog W base spare held n 3 [c0] = some y0 := by have := hg 0 _ rfl; simpa [cellsInt, cellsStr] using this
      have g1 : DataW.trod enc Tryz.prog W base spare held n 9 [c1] = some y1 := by have := hg 1 _ rfl; simpa [cellsInt, cellsStr] using this
      have g2 : DataW.trod enc Tryz.prog W base spare held n 9 [c2] = some y2 := by have := hg 2 _ rfl; simpa [cellsInt, cellsStr] using this
      have g3 : DataW.trod enc Tryz.prog W base spare held n 3 [c3] = some y3 := by have := hg 3 _ rfl; simpa [cellsInt, cellsStr] using this
      have g4 : DataW.trod enc Tryz.prog W base spare held n 3 [c4] = some y4 := by have := hg 4 _ rfl; simpa [cellsInt, cellsStr] using this
      obtain ⟨m0, e0, _, _⟩ := DataW.trod_int Tryz.underlying3 g0
      obtain ⟨m1, e1, _, _⟩ := DataW.trod_string Tryz.underlying9 g1
      obtain ⟨m2, e2, _, _⟩ := DataW.trod_string Tryz.underlying9 g2
      obtain ⟨m3, e3, _, _⟩ := DataW.trod_int Tryz.underlying3 g3
      obtain ⟨m4, e4, _, _⟩ := DataW.trod_int Tryz.underlying3 g4
      simp only [List.cons.injEq, and_true] at e0 e1 e2 e3 e4
      subst e0 e1 e2 e3 e4
      exact ⟨⟨m0, m1, m2, m3, m4⟩, rfl⟩
set_option maxRecDepth 100000 in
theorem open_nms {r : Reach} {b0 : Nat} {v : Value} {d : DataW H} {p : List MemPlace} (hv : Value.okWide Tryz.prog W r b0 22 v) (h : DataW.Trod enc Tryz.prog W base spare held 22 v d p) :
    ∃ (A : Option Addr) (c : Nat) (l : List Nm), v = .slice A l.length c ∧ l.length ≤ c ∧ Kd.C kNm W A l.length l := by
  obtain ⟨A, len, cap, rfl⟩ := okWide_slice Tryz.underlying22 hv
  obtain ⟨fuel, hf⟩ := h
  rcases DataW.trod_slice Tryz.underlying22 hf with ⟨hcs, _⟩ | ⟨a, len', cap', elems, rest, n, _, hcs, _, _, hl, hm, hlen, hel, _, _⟩
  · simp [Value.cells] at hcs
    obtain ⟨rfl, rfl, rfl⟩ := hcs
    exact ⟨none, 0, [], rfl, Nat.le_refl _, rfl, Nat.zero_le _, fun h => absurd h (Nat.lt_irrefl _)⟩
  · simp [Value.cells] at hcs
    obtain ⟨rfl, rfl, rfl⟩ := hcs
    have hx : ∀ i, ∃ z : Nm, i < len → ∀ j u, ([.int .i64 z.f0, .string z.f1, .string z.f2, .int .i64 z.f3, .int .i64 z.f4] : List Value)[j]? = some u → W.cell? (a.add (i * 5 + j)) = some u := by
      intro i
      by_cases hi : i < len
      · have h1 := hel i hi
        rw [List.getElem?_eq_getElem (by omega), cellsEid, Option.bind_eq_some_iff] at h1
        obtain ⟨cs, hc, ht⟩ := h1
        obtain ⟨z, rfl⟩ := eid_cells ht
        obtain ⟨_, _, hcell⟩ := World.cells?_some hc
        refine ⟨z, fun _ j u hu => ?_⟩
        have hj : j < 5 := (List.getElem?_eq_some_iff.1 hu).1
        rw [← Addr.add_add, hcell j hj, hu]
      · exact ⟨⟨0, ⟨#[]⟩, ⟨#[]⟩, 0, 0⟩, fun h => absurd h hi⟩
    obtain ⟨f, hf⟩ := Classical.axiomOfChoice hx
    refine ⟨some a, cap, (List.range len).map f, by simp, by simpa using hl, by simp, ?_, fun _ => ⟨a, rfl, fun j z hj => ?_⟩⟩
    · simp only [List.length_map, List.length_range]
      have : maxLen ≤ 9223372036854775807 := by decide
      omega
    · have hlt : j < len := by
        have := (List.getElem?_eq_some_iff.1 hj).1
        simpa using this
      have hz : f j = z := by
        rw [List.getElem?_map, List.getElem?_range hlt] at hj
        simpa using hj
      subst hz
      exact ⟨_, rfl, k41_mk W (f j), hf j hlt⟩
set_option maxRecDepth 100000 in
theorem open_nums {r : Reach} {b0 : Nat} {v : Value} {d : DataW H} {p : List MemPlace} (hv : Value.okWide Tryz.prog W r b0 23 v) (h : DataW.Trod enc Tryz.prog W base spare held 23 v d p) :
    ∃ (A : Option Addr) (c : Nat) (l : List Int), v = .slice A l.length c ∧ l.length ≤ c ∧ Kd.C (Kd.int .i64) W A l.length l := by
  obtain ⟨A, len, cap, rfl⟩ := okWide_slice Tryz.underlying23 hv
  obtain ⟨fuel, hf⟩ := h
  rcases open_ints Tryz.underlying23 Tryz.underlying3 (by kernel_rfl) hf with ⟨hcs, _⟩ | ⟨x, l, c, zs, hcs, _, hl, hm, hz, _, hcell, _⟩
  · simp [Value.cells] at hcs
    obtain ⟨rfl, rfl, rfl⟩ := hcs
    exact ⟨none, 0, [], rfl, Nat.le_refl _, rfl, Nat.zero_le _, fun h => absurd h (Nat.lt_irrefl _)⟩
  · simp [Value.cells] at hcs
    obtain ⟨rfl, rfl, rfl⟩ := hcs
    have hzl : len ≤ zs.length := by rw [hz]; split <;> omega
    have hl2 : (zs.take len).length = len := by rw [List.length_take]; omega
    refine ⟨some x, cap, zs.take len, by rw [hl2], by omega, ?_⟩
    rw [hl2]
    refine Kd.C_of_reads (d := (0 : Int)) (h1 := fun _ => rfl) ⟨hl2, ?_, fun _ => ⟨x, rfl, fun j hj => ?_⟩⟩
    · have : maxLen ≤ 9223372036854775807 := by decide
      omega
    · rw [hcell j (by omega)]
      simp only [List.getD_eq_getElem?_getD, List.getElem?_take, hj, if_true]
theorem post_args {f : Func} {s : ChangeSpec} {W' : World} {args : Array Value} {v : Value} {ds : List (DataW H)} {before pa : List MemPlace} (hs : s.vars = [])
    (hW : DataW.Whole enc Tryz.prog f.params.toList s.vars false W args.toList ds [] before)
    (hres : DataW.TrodAll enc Tryz.prog W' W.heap.size (fun _ => false) false f.resultTypes.toList (v.resultList f.resultTypes.size) (s.fn H (ds ++ [])).results [])
    (hargs : DataW.TrodAll enc Tryz.prog W' 0 (fun b => decide (b < W.heap.size)) true f.params.toList args.toList (s.fn H (ds ++ [])).args pa)
    (hvars : (s.fn H (ds ++ [])).vars = []) (hb : Below W.heap.size W W') : s.post enc Tryz.prog f false true false false W args v W' := by
  refine ⟨ds, [], before, [], pa, [], hW, hres, hargs, ?_, hb.frame _, fun h => by cases h⟩
  · rw [hvars, hs]
    exact rfl
end
end Go.Proofs.YtbjbicaffblchaaGreatDoor.Hand
end
section
namespace Go.Proofs.YtbjbicaffblchaaGreatDoor.Hand
open Go.RowKit
def flatT (L : List (List UInt8)) : List UInt8 := L.flatMap fun t => t ++ [0]
def placeL : List (List UInt8) → List UInt8 → Nat
  | [], _ => 0
  | x :: r, t => if x = t then 0 else x.length + 1 + placeL r t
def addL (L : List (List UInt8)) (t : List UInt8) : List (List UInt8) := if t ∈ L then L else L ++ [t]
theorem flatT_nil : flatT [] = [] := rfl
theorem flatT_cons (t : List UInt8) (L : List (List UInt8)) : flatT (t :: L) = t ++ 0 :: flatT L := by simp [flatT]
theorem flatT_app (L M : List (List UInt8)) : flatT (L ++ M) = flatT L ++ flatT M := by simp [flatT]
theorem flatT_snoc (L : List (List UInt8)) (t : List UInt8) : flatT (L ++ [t]) = flatT L ++ (t ++ [0]) := by simp [flatT]
theorem placeL_app {L : List (List UInt8)} {t : List UInt8} (M : List (List UInt8)) (h : t ∈ L) : placeL (L ++ M) t = placeL L t := by
  induction L with
  | nil => cases h
  | cons x r ih =>
    simp only [List.cons_append, placeL]
    by_cases e : x = t
    · rw [if_pos e, if_pos e]
    · rw [if_neg e, if_neg e, ih (by rcases List.mem_cons.1 h with h | h; exact absurd h.symm e; exact h)]
theorem placeL_new {L : List (List UInt8)} {t : List UInt8} (h : t ∉ L) : placeL (L ++ [t]) t = (flatT L).length := by
  induction L with
  | nil => simp [placeL, flatT]
  | cons x r ih =>
    simp only [List.cons_append, placeL, flatT_cons, List.length_append, List.length_cons]
    rw [if_neg (fun e => h (by rw [← e]; exact List.mem_cons_self)), ih (fun e => h (List.mem_cons_of_mem _ e))]
    omega
theorem addL_mem (L : List (List UInt8)) (t : List UInt8) : t ∈ addL L t := by
  unfold addL
  split
  · assumption
  · simp
theorem addL_pre (L : List (List UInt8)) (t : List UInt8) : ∃ M, addL L t = L ++ M := by
  unfold addL
  split
  · exact ⟨[], by simp⟩
  · exact ⟨[t], rfl⟩
theorem addL_len (L : List (List UInt8)) (t : List UInt8) : (addL L t).length ≤ L.length + 1 := by
  unfold addL
  split <;> simp
theorem flat_addL (L : List (List UInt8)) (t : List UInt8) : (flatT (addL L t)).length ≤ (flatT L).length + t.length + 1 := by
  unfold addL
  split
  · omega
  · rw [flatT_snoc]; simp; omega
theorem placeL_le {L : List (List UInt8)} {t : List UInt8} (h : t ∈ L) : placeL L t + t.length + 1 ≤ (flatT L).length := by
  induction L with
  | nil => cases h
  | cons x r ih =>
    rw [flatT_cons]
    simp only [placeL, List.length_append, List.length_cons]
    by_cases e : x = t
    · rw [if_pos e, e]; omega
    · rw [if_neg e]
      have := ih (by rcases List.mem_cons.1 h with h | h; exact absurd h.symm e; exact h)
      omega
def MapIs (D : DataW Unit) (L : List (List UInt8)) : Prop := ∀ t, Maps.has D (.string t) = decide (t ∈ L) ∧ (t ∈ L → ∀ z, D.atKey (.string t) z = .lit (.int .i64 (placeL L t)))
theorem mapIs_nil : MapIs (.map []) [] := fun t => ⟨by simp [Maps.has], fun h => by cases h⟩
theorem mapIs_put {D : DataW Unit} {L : List (List UInt8)} (hD : Maps.IsMap D) (h : MapIs D L) {t : List UInt8} (ht : t ∉ L) :
    MapIs (D.put (.string t) (.lit (.int .i64 ((flatT L).length : Nat)))) (L ++ [t]) := by
  intro u
  have hk : WideAt.IsKeyLit (.string t) := by simp [WideAt.IsKeyLit]
  by_cases e : u = t
  · subst e
    refine ⟨by rw [Maps.has_put_same hD hk]; simp, fun _ z => ?_⟩
    rw [Maps.atKey_put_same hD hk, placeL_new ht]
  · have hne : Lit.string u ≠ Lit.string t := fun h => e (by injection h)
    refine ⟨?_, fun hu z => ?_⟩
    · rw [Maps.has_put_other hne, (h u).1]
      simp [e]
    · have hu' : u ∈ L := by
        rcases List.mem_append.1 hu with hu | hu
        · exact hu
        · exact absurd (List.mem_singleton.1 hu) e
      rw [Maps.atKey_put_other hne, (h u).2 hu', placeL_app _ hu']
end Go.Proofs.YtbjbicaffblchaaGreatDoor.Hand
end
section
namespace Go.Proofs.YtbjbicaffblchaaGreatDoor.Hand
open Go.RowKit Go.Proofs.YtbjbicaffblchaaGreatDoorW Go.Proofs.YtbjbicaffblchaaGreatDoorW.PrintWords Go.Proofs.YtbjbicaffblchaaGreatDoor.SK
abbrev tStr : Nat := 9
abbrev tInt : Nat := 3
abbrev tByte : Nat := 5
abbrev tBld : Nat := 61
theorem infoInt : (Tryz.prog.info? tInt).map (fun i => (i.zero, i.size, i.bytes)) = some (some (.int .i64 0), 1, 8) := by kernel_rfl
theorem infoByte : (Tryz.prog.info? tByte).map (fun i => (i.zero, i.size, i.bytes)) = some (some (.int .u8 0), 1, 1) := by kernel_rfl
structure BP (W : World) (B bb mb n : Nat) (D : DataW Unit) (vo vp cm co cp : Value) (out ps : List Int) : Prop where
  blk : W.heap[bb]? = some (.cells #[cm, co, cp] tBld)
  map : W.ownsMap Tryz.prog tStr (plainElem Tryz.prog tInt) mb n D
  row : W.ownsRow B tByte 1 vo out.length (nums .u8 out)
  prs : W.ownsRow B tInt 1 vp ps.length (encs (Value.int .i64) ps)
  hb : B ≤ bb
  hm : B ≤ mb
  hs : B ≤ W.heap.size
section
variable {W w1 : World} {B bb mb n : Nat} {D : DataW Unit} {vo vp cm co cp : Value} {out ps : List Int}
theorem own_block {e : Nat} {v : Value} {m : Nat} {xs : List Value} (h : W.ownsRow B e 1 v m xs) (k : Nat) (hk : v.ownBlock = some k) : B ≤ k ∧ ∃ cs, W.heap[k]? = some (.cells cs e (0, 0)) := ⟨own_base h k hk, own_typed h k hk⟩
theorem map_blk {n mb : Nat} (h : W.ownsMap Tryz.prog tStr (plainElem Tryz.prog tInt) mb n D) : ∃ es c, W.heap[mb]? = some (.map es c) := by
  obtain ⟨es, c, h, _⟩ := h
  exact ⟨es, c, h⟩
theorem BP.move (h : BP W B bb mb n D vo vp cm co cp out ps) (hsz : W.heap.size ≤ w1.heap.size) (h1 : w1.heap[bb]? = W.heap[bb]?) (h2 : w1.heap[mb]? = W.heap[mb]?) (h3 : ∀ k, vo.ownBlock = some k → w1.heap[k]? = W.heap[k]?) (h4 : ∀ k, vp.ownBlock = some k → w1.heap[k]? = W.heap[k]?) :
    BP w1 B bb mb n D vo vp cm co cp out ps := by
  obtain ⟨a1, ⟨es, c, a2, a2'⟩, a3, a4, a5, a6, a7⟩ := h
  exact ⟨h1.trans a1, ⟨es, c, h2.trans a2, a2'⟩, own_move a3 h3, own_move a4 h4, a5, a6, Nat.le_trans a7 hsz⟩
theorem BP.below (h : BP W B bb mb n D vo vp cm co cp out ps) (hb : Below W.heap.size W w1) : BP w1 B bb mb n D vo vp cm co cp out ps := by
  obtain ⟨es, c, hm⟩ := map_blk h.map
  refine h.move hb.size (hb.block _ (Array.getElem?_eq_some_iff.1 h.blk).1) (hb.block _ (Array.getElem?_eq_some_iff.1 hm).1) (fun k hk => ?_) (fun k hk => ?_)
  · obtain ⟨_, cs, hc⟩ := own_block h.row k hk
    exact hb.block _ (Array.getElem?_eq_some_iff.1 hc).1
  · obtain ⟨_, cs, hc⟩ := own_block h.prs k hk
    exact hb.block _ (Array.getElem?_eq_some_iff.1 hc).1
theorem BP.alloc (h : BP W B bb mb n D vo vp cm co cp out ps) (o : Obj) : BP (W.alloc o) B bb mb n D vo vp cm co cp out ps := h.below ((Below.refl _ W).alloc (Nat.le_refl _) o)
theorem BP.drew (h : BP W B bb mb n D vo vp cm co cp out ps) (k : Nat) : BP (W.drewN k) B bb mb n D vo vp cm co cp out ps := h.below (below_drewN W k)
theorem ne_of_obj {k j : Nat} {a b : Obj} (h1 : W.heap[k]? = some a) (h2 : W.heap[j]? = some b) (hne : a ≠ b) : some k ≠ some j := fun e => by
  obtain rfl := Option.some.inj e
  exact hne (Option.some.inj (h1.symm.trans h2))
theorem BP.mapped (h : BP W B bb mb n D vo vp cm co cp out ps) {D' : DataW Unit} (hm : w1.ownsMap Tryz.prog tStr (plainElem Tryz.prog tInt) mb (n + 1) D') (hg : W.grownBy w1 (some mb)) :
    BP w1 B bb mb (n + 1) D' vo vp cm co cp out ps := by
  obtain ⟨es, c, h0⟩ := map_blk h.map
  have keep : ∀ (k : Nat) (cs : Array Value) (t : TypeId), W.heap[k]? = some (.cells cs t (0, 0)) → w1.heap[k]? = W.heap[k]? := fun k cs t hk =>
    hg.block k (Array.getElem?_eq_some_iff.1 hk).1 (ne_of_obj hk h0 (fun e => by cases e))
  refine ⟨(keep _ _ _ h.blk).trans h.blk, hm, own_move h.row (fun k hk => ?_), own_move h.prs (fun k hk => ?_), h.hb, h.hm, Nat.le_trans h.hs hg.size⟩
  · obtain ⟨_, cs, hc⟩ := own_block h.row k hk
    exact keep _ _ _ hc
  · obtain ⟨_, cs, hc⟩ := own_block h.prs k hk
    exact keep _ _ _ hc
theorem BP.outed (h : BP W B bb mb n D vo vp cm co cp out ps) {vo' : Value} {out' : List Int} (ho : w1.ownsRow B tByte 1 vo' out'.length (nums .u8 out')) (hg : W.grownBy w1 vo.ownBlock) :
    BP w1 B bb mb n D vo' vp cm co cp out' ps := by
  obtain ⟨es, c, h0⟩ := map_blk h.map
  have keep : ∀ (k : Nat) (o : Obj), W.heap[k]? = some o → (∀ cs, o ≠ .cells cs tByte (0, 0)) → w1.heap[k]? = W.heap[k]? := fun k o hk hne =>
    hg.block k (Array.getElem?_eq_some_iff.1 hk).1 (fun e => by
      obtain ⟨_, cs, hc⟩ := own_block h.row k e.symm
      exact hne cs (Option.some.inj (hk.symm.trans hc)))
  refine ⟨(keep _ _ h.blk (fun cs e => by injection e with _ e; exact absurd e (by decide))).trans h.blk, ?_, ho, own_move h.prs (fun k hk => ?_), h.hb, h.hm, Nat.le_trans h.hs hg.size⟩
  · obtain ⟨es, c, h1, h2⟩ := h.map
    exact ⟨es, c, (keep _ _ h1 (fun cs e => by cases e)).trans h1, h2⟩
  · obtain ⟨_, cs, hc⟩ := own_block h.prs k hk
    exact keep _ _ hc (fun cs e => by injection e with _ e; exact absurd e (by decide))
theorem BP.prsed (h : BP W B bb mb n D vo vp cm co cp out ps) {vp' : Value} {ps' : List Int} (ho : w1.ownsRow B tInt 1 vp' ps'.length (encs (Value.int .i64) ps')) (hg : W.grownBy w1 vp.ownBlock) :
    BP w1 B bb mb n D vo vp' cm co cp out ps' := by
  have keep : ∀ (k : Nat) (o : Obj), W.heap[k]? = some o → (∀ cs, o ≠ .cells cs tInt (0, 0)) → w1.heap[k]? = W.heap[k]? := fun k o hk hne =>
    hg.block k (Array.getElem?_eq_some_iff.1 hk).1 (fun e => by
      obtain ⟨_, cs, hc⟩ := own_block h.prs k e.symm
      exact hne cs (Option.some.inj (hk.symm.trans hc)))
  refine ⟨(keep _ _ h.blk (fun cs e => by injection e with _ e; exact absurd e (by decide))).trans h.blk, ?_, own_move h.row (fun k hk => ?_), ho, h.hb, h.hm, Nat.le_trans h.hs hg.size⟩
  · obtain ⟨es, c, h1, h2⟩ := h.map
    exact ⟨es, c, (keep _ _ h1 (fun cs e => by cases e)).trans h1, h2⟩
  · obtain ⟨_, cs, hc⟩ := own_block h.row k hk
    exact keep _ _ hc (fun cs e => by injection e with _ e; exact absurd e (by decide))
theorem BP.far (h : BP W B bb mb n D vo vp cm co cp out ps) {cs' : Array Value} (j : Nat) (v : Value) (hb : (W.setCell ⟨bb, j, none⟩ v).heap[bb]? = some (.cells cs' tBld)) {cm' co' cp' : Value} (he : cs' = #[cm', co', cp']) :
    BP (W.setCell ⟨bb, j, none⟩ v) B bb mb n D vo vp cm' co' cp' out ps := by
  subst he
  obtain ⟨es, c, h0⟩ := map_blk h.map
  have keep : ∀ (k : Nat) (o : Obj), W.heap[k]? = some o → (∀ cs, o ≠ .cells cs tBld (0, 0)) → (W.setCell ⟨bb, j, none⟩ v).heap[k]? = W.heap[k]? := fun k o hk hne =>
    Below.heap_setCell W ⟨bb, j, none⟩ v k (fun e => by
      have e' : k = bb := e
      subst e'
      exact hne _ (Option.some.inj (hk.symm.trans h.blk)))
  refine ⟨hb, ?_, own_move h.row (fun k hk => ?_), own_move h.prs (fun k hk => ?_), h.hb, h.hm, by simpa [World.setCell] using h.hs⟩
  · obtain ⟨es, c, h1, h2⟩ := h.map
    exact ⟨es, c, (keep _ _ h1 (fun cs e => by cases e)).trans h1, h2⟩
  · obtain ⟨_, cs, hc⟩ := own_block h.row k hk
    exact keep _ _ hc (fun cs e => by injection e with _ e; exact absurd e (by decide))
  · obtain ⟨_, cs, hc⟩ := own_block h.prs k hk
    exact keep _ _ hc (fun cs e => by injection e with _ e; exact absurd e (by decide))
theorem BP.set1 (h : BP W B bb mb n D vo vp cm co cp out ps) (v : Value) : BP (W.setCell ⟨bb, 1, none⟩ v) B bb mb n D vo vp cm v cp out ps := h.far 1 v (blk_set h.blk 1 v) rfl
theorem BP.set2 (h : BP W B bb mb n D vo vp cm co cp out ps) (v : Value) : BP (W.setCell ⟨bb, 2, none⟩ v) B bb mb n D vo vp cm co v out ps := h.far 2 v (blk_set h.blk 2 v) rfl
end
def BSt (W : World) (B bb : Nat) (L : List (List UInt8)) (ps : List Int) : Prop :=
  ∃ mb n D vo vp, BP W B bb mb n D vo vp (.map (some mb)) vo vp ((flatT L).map fun b => (b.toNat : Int)) ps ∧ n ≤ L.length ∧ MapIs D L
theorem add_old (w : World) (bb mb n : Nat) (D : DataW Unit) (s : ByteArray) (at_ c : Int) (hc : w.cell? ⟨bb, 0, none⟩ = some (.map (some mb))) (hown : w.ownsMap Tryz.prog tStr (plainElem Tryz.prog tInt) mb n D) (hs : s.size ≤ maxLen)
    (hat : ∀ z, D.atKey (.string s.data.toList) z = .lit (.int .i64 c)) (hhas : Maps.has D (.string s.data.toList) = true) :
    Calls Tryz.prog 61 #[.pointer (some ⟨bb, 0, none⟩), .string s, .int .i64 at_] w fun e w' => e = .returned (.tuple #[.int .i64 c, .bool false]) ∧ w' = w := by
  have hu := Tryz.underlying58
  have hkey : keyOf Tryz.prog tStr (.string s) = some (.string s.data.toList) := Go.WideMaps.keyOf_string_mk Tryz.underlying9 hs
  have HAT := Lib.hid hat
  have HOWN := Lib.hid hown
  clear hat hown
  go_enter Tryz.func61, Tryz.ntmps61
  go_wp2_with (at_lookup; refine wpList_lookup_own_ok_int _ rfl _ _ 56 rfl tStr tInt .i64 (Maps.string_keyed Tryz.underlying9) Tryz.underlying56 Tryz.underlying3 (Tryz.zeroValue3 _) mb n D rfl HOWN.out _ _ rfl hkey ?_; intro c' hat' hwc; rw [HAT.out] at hat'; injection hat' with hat'; injection hat' with _ hat'; subst hat'; rw [hhas])
  go_ret2
  exact ⟨rfl, rfl⟩
theorem add_new (w : World) (bb mb n : Nat) (D : DataW Unit) (s : ByteArray) (at_ : Int) (hc : w.cell? ⟨bb, 0, none⟩ = some (.map (some mb))) (hown : w.ownsMap Tryz.prog tStr (plainElem Tryz.prog tInt) mb n D) (hs : s.size ≤ maxLen)
    (hn : n < maxLen) (hw : (Lit.int .i64 at_).wf = true) (hhas : Maps.has D (.string s.data.toList) = false) :
    Calls Tryz.prog 61 #[.pointer (some ⟨bb, 0, none⟩), .string s, .int .i64 at_] w fun e w' => e = .returned (.tuple #[.int .i64 at_, .bool true]) ∧
      w'.ownsMap Tryz.prog tStr (plainElem Tryz.prog tInt) mb (n + 1) (D.put (.string s.data.toList) (.lit (.int .i64 at_))) ∧ w.grownBy w' (some mb) := by
  have hu := Tryz.underlying58
  have hkey : keyOf Tryz.prog tStr (.string s) = some (.string s.data.toList) := Go.WideMaps.keyOf_string_mk Tryz.underlying9 hs
  have hv : plainElem (H := Unit) Tryz.prog tInt (.int .i64 at_) = some (.lit (.int .i64 at_), []) := plainElem_int Tryz.underlying3 hw
  have HOWN := Lib.hid hown
  clear hown
  go_enter Tryz.func61, Tryz.ntmps61
  go_wp2_with (first | (at_lookup; refine wpList_lookup_own_ok_int _ rfl _ _ 56 rfl tStr tInt .i64 (Maps.string_keyed Tryz.underlying9) Tryz.underlying56 Tryz.underlying3 (Tryz.zeroValue3 _) mb n D rfl HOWN.out _ _ rfl hkey ?_; intro c' hat' hwc; rw [hhas]) | (at_mapUpdate; refine wpList_mapUpdate_own _ rfl _ _ _ 56 rfl tStr tInt (Maps.string_keyed Tryz.underlying9) Tryz.underlying56 _ mb n D rfl HOWN.out hn _ _ _ rfl rfl hkey _ [] hv ?_; intro w1 hown1 hgrow1))
  go_ret2
  exact ⟨rfl, hown1, hgrow1⟩
end Go.Proofs.YtbjbicaffblchaaGreatDoor.Hand
end
section
namespace Go.Proofs.YtbjbicaffblchaaGreatDoor.Hand
open Go.RowKit Go.Proofs.YtbjbicaffblchaaGreatDoorW Go.Proofs.YtbjbicaffblchaaGreatDoorW.PrintWords Go.Proofs.YtbjbicaffblchaaGreatDoor.SK
abbrev bytesI (l : List UInt8) : List Int := l.map fun b => (b.toNat : Int)
def textF (st : List (List UInt8) × List Int) (t : ByteArray) : List (List UInt8) × List Int := (addL st.1 t.data.toList, st.2 ++ [((placeL (addL st.1 t.data.toList) t.data.toList : Nat) : Int)])
theorem wf_small (m : Nat) (h : m ≤ 9000000000) : (Lit.int .i64 (m : Int)).wf = true := by
  have e : (m : Int) = wrap64 (m : Int) := by unfold wrap64; omega
  rw [e]
  exact wrap64_wf _
theorem row_slice {W : World} {B e m : Nat} {v : Value} {xs : List Value} (h : W.ownsRow B e 1 v m xs) : ∃ A m' c, v = .slice A m' c ∧ Hid (m' = m) := by
  rcases h.2 with ⟨rfl, rfl⟩ | ⟨g, cap, cur, rfl, _⟩
  · exact ⟨_, _, _, rfl, Lib.hid rfl⟩
  · exact ⟨_, _, _, rfl, Lib.hid rfl⟩
section
variable {W w1 : World} {B bb mb n : Nat} {D : DataW Unit} {vo vp cm co cp : Value} {out ps : List Int} {k : Nat} {cs : Array Value} {fr : Nat × Nat}
theorem BP.otherP (h : BP W B bb mb n D vo vp cm co cp out ps) (hk : W.heap[k]? = some (.cells cs tStr fr)) (hg : W.grownBy w1 vp.ownBlock) : w1.heap[k]? = some (.cells cs tStr fr) :=
  (hg.block k (Array.getElem?_eq_some_iff.1 hk).1 (fun e => by
    obtain ⟨_, cs', hc⟩ := own_block h.prs k e.symm
    rw [hk] at hc
    injection hc with hc
    injection hc with _ hc
    exact absurd hc (by decide))).trans hk
theorem BP.otherO (h : BP W B bb mb n D vo vp cm co cp out ps) (hk : W.heap[k]? = some (.cells cs tStr fr)) (hg : W.grownBy w1 vo.ownBlock) : w1.heap[k]? = some (.cells cs tStr fr) :=
  (hg.block k (Array.getElem?_eq_some_iff.1 hk).1 (fun e => by
    obtain ⟨_, cs', hc⟩ := own_block h.row k e.symm
    rw [hk] at hc
    injection hc with hc
    injection hc with _ hc
    exact absurd hc (by decide))).trans hk
theorem BP.otherM (h : BP W B bb mb n D vo vp cm co cp out ps) (hk : W.heap[k]? = some (.cells cs tStr fr)) (hg : W.grownBy w1 (some mb)) : w1.heap[k]? = some (.cells cs tStr fr) :=
  (hg.block k (Array.getElem?_eq_some_iff.1 hk).1 (fun e => by
    obtain ⟨es, c, hc⟩ := map_blk h.map
    obtain rfl := Option.some.inj e
    rw [hk] at hc
    injection hc with hc
    cases hc)).trans hk
theorem BP.otherS (h : BP W B bb mb n D vo vp cm co cp out ps) (hk : W.heap[k]? = some (.cells cs tStr fr)) (j : Nat) (v : Value) : (W.setCell ⟨bb, j, none⟩ v).heap[k]? = some (.cells cs tStr fr) :=
  (Below.heap_setCell W ⟨bb, j, none⟩ v k (fun e => by
    have e' : k = bb := e
    subst e'
    have := h.blk
    rw [hk] at this
    injection this with this
    injection this with _ this
    exact absurd this (by decide))).trans hk
end
theorem textF_bounds (ts : List ByteArray) : ∀ (st : List (List UInt8) × List Int), (∀ t ∈ ts, t.size ≤ 1000) →
    (ts.foldl textF st).1.length ≤ st.1.length + ts.length ∧ (flatT (ts.foldl textF st).1).length ≤ (flatT st.1).length + 1001 * ts.length ∧ (ts.foldl textF st).2.length = st.2.length + ts.length := by
  induction ts with
  | nil => intro st _; simp
  | cons t r ih =>
    intro st h
    obtain ⟨h1, h2, h3⟩ := ih (textF st t) (fun x hx => h x (List.mem_cons_of_mem _ hx))
    have a1 := addL_len st.1 t.data.toList
    have a2 := flat_addL st.1 t.data.toList
    have a3 : t.data.toList.length ≤ 1000 := by rw [Array.length_toList]; exact h t List.mem_cons_self
    simp only [List.foldl_cons, List.length_cons]
    have b1 : (textF st t).1 = addL st.1 t.data.toList := rfl
    have b2 : (textF st t).2.length = st.2.length + 1 := by simp [textF]
    rw [b1] at h1 h2
    rw [b2] at h3
    omega
set_option maxHeartbeats 4000000 in
set_option maxRecDepth 100000 in
theorem text_calls (w : World) (B bb : Nat) (L : List (List UInt8)) (ps : List Int) (g : Nat) (ts : List ByteArray) (c : Nat) (cs : Array Value) (fr : Nat × Nat) (hblk : w.heap[g]? = some (.cells cs tStr fr))
    (hrd : ∀ j, j < ts.length → w.cell? ⟨g, j, none⟩ = some (.string (ts.getD j ByteArray.empty))) (hB : BSt w B bb L ps) (hsz : ∀ t ∈ ts, t.size ≤ 1000) (hlen : ts.length ≤ 2)
    (hL : (flatT L).length ≤ 1000000) (hLn : L.length ≤ 1000) (hps : ps.length ≤ 1000) :
    Calls Tryz.prog 41 #[.pointer (some ⟨bb, 0, none⟩), .slice (some ⟨g, 0, none⟩) ts.length c] w fun e w' => (∃ v, e = .returned v) ∧ BSt w' B bb (ts.foldl textF (L, ps)).1 (ts.foldl textF (L, ps)).2 ∧ Below B w w' := by
  have hu := Tryz.underlying61
  have HR := Lib.hid hrd
  have HSZ := Lib.hid hsz
  have H0 := Lib.hid hblk
  have HB0 := Lib.hid hB
  clear hrd hsz hblk hB
  go_enter Tryz.func41, Tryz.ntmps41
  go_wp2
  go_loopg [10] ts.length (fun gg s10 wr => ∃ kk : Nat, kk ≤ ts.length ∧ ts.length - kk ≤ gg ∧ s10 = .int .i64 kk ∧ Hid (Below B w wr) ∧ Hid (wr.heap[g]? = some (.cells cs tStr fr)) ∧ Hid (BSt wr B bb ((ts.take kk).foldl textF (L, ps)).1 ((ts.take kk).foldl textF (L, ps)).2))
  case atStart => exact ⟨0, Nat.zero_le _, by omega, rfl, Lib.hid (Below.refl _ w), H0, HB0⟩
  case round =>
    obtain ⟨kk, hkk, hg, rfl, BW, BK, BS⟩ := hrel
    by_cases hlt : kk < ts.length
    · have hltz : (kk : Int) < (ts.length : Int) := by omega
      have hx : wr.cell? ⟨g, kk, none⟩ = some (.string (ts.getD kk ByteArray.empty)) := (cell_blk BK.out kk).trans ((cell_blk H0.out kk).symm.trans (HR.out kk hlt))
      have htk : (ts.take (kk + 1)).foldl textF (L, ps) = textF ((ts.take kk).foldl textF (L, ps)) (ts.getD kk ByteArray.empty) := by
        rw [List.take_succ_eq_append_getElem hlt, List.foldl_append, List.getD_eq_getElem?_getD, List.getElem?_eq_getElem hlt]
        rfl
      have hel : (ts.getD kk ByteArray.empty).size ≤ 1000 := by
        rw [List.getD_eq_getElem?_getD, List.getElem?_eq_getElem hlt]
        exact HSZ.out _ (List.getElem_mem _)
      obtain ⟨q1, q2, q3⟩ := textF_bounds (ts.take kk) (L, ps) (fun t ht => HSZ.out t (List.mem_of_mem_take ht))
      have htl : (ts.take kk).length ≤ 2 := by rw [List.length_take]; omega
      generalize (ts.take kk).foldl textF (L, ps) = st at *
      obtain ⟨Lk, pk⟩ := st
      generalize ts.getD kk ByteArray.empty = el at *
      simp only at q1 q2 q3
      have Q1 : Lk.length ≤ 1002 := by omega
      have Q2 : (flatT Lk).length ≤ 1002002 := by omega
      have Q3 : pk.length ≤ 1002 := by omega
      clear q1 q2 q3 htl
      have HT := Lib.hid htk
      clear htk
      obtain ⟨mb, n, D, vo, vp, hbp, hn, hmap⟩ := BS.out
      clear BS
      obtain ⟨Ao, mo, co, rfl, hmo⟩ := row_slice hbp.row
      obtain ⟨Ap, mp, cp, rfl, hmp⟩ := row_slice hbp.prs
      have c0 := cell_blk hbp.blk 0
      have c1 := cell_blk hbp.blk 1
      have c2 := cell_blk hbp.blk 2
      simp at c0 c1 c2
      have HBP := Lib.hid hbp
      clear hbp
      have els : el.size ≤ maxLen := Nat.le_trans hel (by decide)
      have HB1 := Lib.hid (BW.out.trans ((below_drewN wr 1).mono HBP.out.hs))
      have HBP1 := Lib.hid (HBP.out.drew 1)
      have HK1 : Hid ((wr.drewN 1).heap[g]? = some (.cells cs tStr fr)) := Lib.hid BK.out
      by_cases hin : el.data.toList ∈ Lk
      · have hhas := (hmap el.data.toList).1
        rw [decide_eq_true hin] at hhas
        have hat := (hmap el.data.toList).2 hin
        have HMM := Lib.hid hmap
        have HTF : Hid (textF (Lk, pk) el = (Lk, pk ++ [((placeL Lk el.data.toList : Nat) : Int)])) := Lib.hid (by simp only [textF, addL, if_pos hin])
        generalize placeL Lk el.data.toList = pl at *
        clear hmap
        have hcall := add_old wr.drew bb mb n D el mo pl (by simpa using c0) HBP1.out.map els hat hhas
        clear hat hhas hin
        go_wp2
        go_region_with (go_at_call 61; refine hcall.mono ?_; rintro e w' ⟨rfl, rfl⟩)
        clear hcall c0 c1 c2 hx HBP BW BK
        change Hid (BP wr.drew _ _ _ _ _ _ _ _ _ _ _ _) at HBP1
        change Hid (Below B w wr.drew) at HB1
        change Hid (wr.drew.heap[g]? = _) at HK1
        generalize wr.drew = w1 at *
        have d2 := cell_blk HBP1.out.blk 2
        simp at d2
        go_wp2_with ((with_reducible refine gate_builtin (b := .append) (xs := #[.tmp 43, .tmp 45]) rfl ?_); at_builtin; go_loud (refine print_append_of (w0 := w) (Value.int .i64) B rfl (.tmp 43) (.tmp 45) 23 tInt (.int .i64 0) 8 rfl Tryz.underlying23 infoInt rfl (by decide) (.slice Ap mp cp) pk (pl : Int) rfl rfl rfl HBP1.out.prs HB1.out HBP1.out.hs (by omega) ?_); intro vp1 w9 hown9 hb9 hg9 hat9; clear hat9; obtain ⟨Ap1, mp1, cp1, rfl, hmp1⟩ := row_slice hown9; have HBP9 := Lib.hid (HBP1.out.prsed hown9 hg9); have HB9 := Lib.hid hb9; have HK9 := Lib.hid (HBP1.out.otherP HK1.out hg9); clear hown9 hb9 hg9; have d2 := cell_blk HBP9.out.blk 2; have e2 := frozen_blk HBP9.out.blk 2; simp at d2)
        go_roundg (ts.length - (kk + 1))
        case measure => omega
        case rel =>
          refine ⟨kk + 1, by omega, by omega, by go_num, Lib.hid (HB9.out.setCell (p := ⟨bb, 2, none⟩) HBP9.out.hb _), Lib.hid (HBP9.out.otherS HK9.out 2 _), Lib.hid ?_⟩
          rw [HT.out, HTF.out]
          exact ⟨mb, _, _, _, _, HBP9.out.set2 (.slice Ap1 mp1 cp1), by exact hn, HMM.out⟩
      · have hhas := (hmap el.data.toList).1
        rw [decide_eq_false hin] at hhas
        have hmo' : mo = (flatT Lk).length := hmo.out.trans (by simp)
        have HMM : Hid (MapIs (D.put (.string el.data.toList) (.lit (.int .i64 (mo : Int)))) (Lk ++ [el.data.toList])) := Lib.hid (by rw [hmo']; exact mapIs_put HBP.out.map.isMap hmap hin)
        have HTF : Hid (textF (Lk, pk) el = (Lk ++ [el.data.toList], pk ++ [(mo : Int)])) := Lib.hid (by simp only [textF, addL, if_neg hin, placeL_new hin, hmo'])
        have HFL : Hid (bytesI (flatT Lk) ++ bytesOf el ++ [0] = bytesI (flatT (Lk ++ [el.data.toList]))) := Lib.hid (by rw [flatT_snoc]; simp [bytesOf])
        have hbnd : (bytesI (flatT Lk)).length ≤ 1002002 := by simpa using Q2
        have hbnd2 : (bytesI (flatT Lk) ++ bytesOf el).length ≤ 1003002 := by rw [List.length_append, bytesOf_length]; omega
        have hcall := add_new wr.drew bb mb n D el mo (by simpa using c0) HBP1.out.map els (Nat.lt_of_le_of_lt (Nat.le_trans hn Q1) (by decide)) (wf_small mo (by omega)) hhas
        have HNB := Lib.hid hbnd
        have HNB2 := Lib.hid hbnd2
        clear hmap hhas hin hmo' hbnd hbnd2
        go_wp2
        go_region_with (go_at_call 61; refine hcall.mono ?_; rintro e w2 ⟨rfl, hown2, hg2⟩)
        have HBP2 := Lib.hid (HBP1.out.mapped hown2 hg2)
        have HB2 := Lib.hid (HB1.out.grown hg2 HBP1.out.hs (fun k e => by cases e; exact HBP1.out.hm))
        have HK2 := Lib.hid (HBP1.out.otherM HK1.out hg2)
        clear hcall c0 c1 c2 hx HBP BW BK HBP1 HB1 HK1 hown2 hg2
        have d1 := cell_blk HBP2.out.blk 1
        simp at d1
        go_wp2_with (first | ((with_reducible refine gate_builtin (b := .append) (xs := #[.tmp 32, .tmp 33]) rfl ?_); at_builtin; go_loud (refine print_append_str (w0 := w) B rfl (.tmp 32) (.tmp 33) 59 tStr tByte rfl Tryz.underlying59 Tryz.underlying9 infoByte (.slice Ao mo co) (bytesI (flatT Lk)) el rfl rfl HBP2.out.row HB2.out HBP2.out.hs (by have := HNB.out; omega) ?_); intro vo3 w3 hown3 hb3 hg3; obtain ⟨Ao3, mo3, co3, rfl, hmo3⟩ := row_slice hown3; have HBP3 := Lib.hid (HBP2.out.outed hown3 hg3); have HB3 := Lib.hid hb3; have HK3 := Lib.hid (HBP2.out.otherO HK2.out hg3); clear hown3 hb3 hg3) | ((with_reducible refine gate_builtin (b := .append) (xs := #[.tmp 34, .tmp 35]) rfl ?_); at_builtin; go_loud (refine print_append_num (w0 := w) B rfl (.tmp 34) (.tmp 35) 59 tByte .u8 1 rfl Tryz.underlying59 infoByte (by decide) (.slice Ao3 mo3 co3) (bytesI (flatT Lk) ++ bytesOf el) 0 rfl rfl HBP3.out.row HB3.out HBP3.out.hs (by have := HNB2.out; omega) ?_); intro vo4 w4 hown4 hb4 hg4 hat4; clear hat4; obtain ⟨Ao4, mo4, co4, rfl, hmo4⟩ := row_slice hown4; have HBP4 := Lib.hid (HBP3.out.outed hown4 hg4); have HB4 := Lib.hid (hb4.setCell (p := ⟨bb, 1, none⟩) HBP4.out.hb (.slice Ao4 mo4 co4)); have HK4 := Lib.hid (HBP4.out.otherS (HBP3.out.otherO HK3.out hg4) 1 (.slice Ao4 mo4 co4)); clear hown4 hb4 hg4; have d1 := cell_blk HBP4.out.blk 1; have e1 := frozen_blk HBP4.out.blk 1; simp at d1; have HBP5 := Lib.hid (HBP4.out.set1 (.slice Ao4 mo4 co4)); have d2 := cell_blk HBP5.out.blk 2; simp at d2; rw [HFL.out] at HBP5) | ((with_reducible refine gate_builtin (b := .append) (xs := #[.tmp 43, .tmp 45]) rfl ?_); at_builtin; go_loud (refine print_append_of (w0 := w) (Value.int .i64) B rfl (.tmp 43) (.tmp 45) 23 tInt (.int .i64 0) 8 rfl Tryz.underlying23 infoInt rfl (by decide) (.slice Ap mp cp) pk (mo : Int) rfl (by show Value.slice (some ⟨w4.heap.size, 0, none⟩) 1 1 = _; simp [World.setCell]) rfl HBP5.out.prs HB4.out HBP5.out.hs (by omega) ?_); intro vp1 w9 hown9 hb9 hg9 hat9; clear hat9; obtain ⟨Ap1, mp1, cp1, rfl, hmp1⟩ := row_slice hown9; have HBP9 := Lib.hid (HBP5.out.prsed hown9 hg9); have HB9 := Lib.hid hb9; have HK9 := Lib.hid (HBP5.out.otherP HK4.out hg9); clear hown9 hb9 hg9; have d2 := cell_blk HBP9.out.blk 2; have e2 := frozen_blk HBP9.out.blk 2; simp at d2))
        go_roundg (ts.length - (kk + 1))
        case measure => omega
        case rel =>
          refine ⟨kk + 1, by omega, by omega, by go_num, Lib.hid (HB9.out.setCell (p := ⟨bb, 2, none⟩) HBP9.out.hb _), Lib.hid (HBP9.out.otherS HK9.out 2 _), Lib.hid ?_⟩
          rw [HT.out, HTF.out]
          exact ⟨mb, _, _, _, _, HBP9.out.set2 (.slice Ap1 mp1 cp1), by simpa using hn, HMM.out⟩
    · have hltz : ¬ (kk : Int) < (ts.length : Int) := by omega
      have hk : kk = ts.length := by omega
      subst hk
      have HS := BS.out
      rw [List.take_length] at HS
      have HS' := Lib.hid HS
      clear HS BS
      go_wp2
      go_end0
      exact ⟨⟨_, rfl⟩, HS'.out, BW.out⟩
end Go.Proofs.YtbjbicaffblchaaGreatDoor.Hand
end
section
namespace Go.Proofs.YtbjbicaffblchaaGreatDoor.Hand
open Go.RowKit Go.Proofs.YtbjbicaffblchaaGreatDoorW Go.Proofs.YtbjbicaffblchaaGreatDoorW.PrintWords Go.Proofs.YtbjbicaffblchaaGreatDoor.SK
def Nm.right (x : Nm) : Bool := rightS x.f0 x.f1 x.f2 x.f3 x.f4
def Nm.dtn (x : Nm) : Bool := x.f0 == 1
def Nm.word (x : Nm) : ByteArray := (halvesS x.f0 x.f1 x.f2 x.f3 x.f4).1
def Nm.rest (x : Nm) : ByteArray := (halvesS x.f0 x.f1 x.f2 x.f3 x.f4).2.1
def buildF (dtn : Bool) (st : List (List UInt8) × List Int) (x : Nm) : List (List UInt8) × List Int := if dtn then textF (textF st x.word) x.rest else (st.1, st.2 ++ [x.f3, x.f4])
def builtS (l : List Nm) : List (List UInt8) × List Int := l.foldl (buildF (l.any Nm.dtn)) ([], [])
theorem Nm.halves {x : Nm} (h : x.right = true) : halvesS x.f0 x.f1 x.f2 x.f3 x.f4 = (x.word, x.rest, 0) := by
  unfold Nm.right at h
  unfold Nm.word Nm.rest halvesS
  rw [if_pos h]
theorem Nm.word_is {x : Nm} (h : x.right = true) : x.word = wordS x.f0 := by unfold Nm.right at h; unfold Nm.word halvesS; rw [if_pos h]
theorem Nm.rest_is {x : Nm} (h : x.right = true) : x.rest = restS x.f0 x.f1 x.f2 x.f3 x.f4 := by unfold Nm.right at h; unfold Nm.rest halvesS; rw [if_pos h]
theorem Nm.sizes {x : Nm} (h : x.right = true) : ∀ t ∈ [x.word, x.rest], t.size ≤ 43 := by
  intro t ht
  simp only [List.mem_cons, List.not_mem_nil, or_false] at ht
  rcases ht with rfl | rfl
  · rw [Nm.word_is h, word_size]; decide
  · rw [Nm.rest_is h]; exact rest_size h
theorem buildF_true (st : List (List UInt8) × List Int) (x : Nm) : buildF true st x = [x.word, x.rest].foldl textF st := rfl
theorem buildF_bounds (dtn : Bool) (l : List Nm) : ∀ (st : List (List UInt8) × List Int), (∀ x ∈ l, x.right = true) →
    (l.foldl (buildF dtn) st).1.length ≤ st.1.length + 2 * l.length ∧ (flatT (l.foldl (buildF dtn) st).1).length ≤ (flatT st.1).length + 2002 * l.length ∧ (l.foldl (buildF dtn) st).2.length = st.2.length + 2 * l.length := by
  induction l with
  | nil => intro st _; simp
  | cons x r ih =>
    intro st h
    obtain ⟨h1, h2, h3⟩ := ih (buildF dtn st x) (fun y hy => h y (List.mem_cons_of_mem _ hy))
    have hx := h x List.mem_cons_self
    have key : (buildF dtn st x).1.length ≤ st.1.length + 2 ∧ (flatT (buildF dtn st x).1).length ≤ (flatT st.1).length + 2002 ∧ (buildF dtn st x).2.length = st.2.length + 2 := by
      cases dtn with
      | true =>
        rw [buildF_true]
        have := textF_bounds [x.word, x.rest] st (fun t ht => Nat.le_trans (Nm.sizes hx t ht) (by decide))
        simp only [List.length_cons, List.length_nil] at this
        omega
      | false => simp [buildF]
    simp only [List.foldl_cons, List.length_cons]
    omega
theorem step_append_ints {P : Program} {ops : Array Oper} {o : Oper} {a : Act} {K : Act → World → Prop} {Q : Exit → Act → World → Prop} {w0 : World} (W : World) (base : Nat) (hgd : o.guard = none) (s x : Operand) (t e : TypeId) (k : IntKind) (bytes : Nat)
    (ho : o.op = .call { callee := .builtin .append, args := #[s, x], argTypes := #[t, t] })
    (ht : P.underlying t = some (.slice e)) (hinfo : (P.info? e).map (fun i => (i.zero, i.size, i.bytes)) = some (some (.int k 0), 1, bytes)) (hb0 : 0 < bytes)
    (v : Value) (xs ys : List Int) (hs : a.eval s = v) (hx : a.eval x = .slice (some ⟨W.heap.size, 0, none⟩) ys.length ys.length)
    (HO : W.ownsRow base e 1 v xs.length (encs (Value.int k) xs)) (HB : Below base w0 W) (hbase : base ≤ W.heap.size) (hl : (xs.length + ys.length) * bytes ≤ 140737488355328)
    (h : ∀ v1 w1, w1.ownsRow base e 1 v1 (xs ++ ys).length (encs (Value.int k) (xs ++ ys)) → Below base w0 w1 → W.grownBy w1 v.ownBlock → K (a.put o.dst v1) w1) :
    if Region.wanted o (yielded ops a.tmps) = true then Oper.wp P o a (W.alloc (.cells (encs (Value.int k) ys).toArray e)) K Q else K (a.put o.dst undef) (W.alloc (.cells (encs (Value.int k) ys).toArray e)) := by
  obtain ⟨i0, hi, hzz⟩ := Option.map_eq_some_iff.1 hinfo
  simp only [Prod.mk.injEq] at hzz
  obtain ⟨hz0, hz1, hz2⟩ := hzz
  have hlen : xs.length + ys.length ≤ 140737488355328 := Nat.le_trans (Nat.le_mul_of_pos_right _ hb0) hl
  have hw : Region.wanted o (yielded ops a.tmps) = true := by simp [Region.wanted, hgd]
  rw [if_pos hw]
  obtain ⟨v1, w1, hr, hown, hg, _, hat⟩ := run_append_own_at (P := P) (W.alloc (.cells (encs (Value.int k) ys).toArray e)) base t o.type e i0 (.int k 0) 1 bytes ht hi hz0 hz1 hz2 rfl (by decide) v xs.length (encs (Value.int k) xs) (HO.alloc _) ⟨W.heap.size, 0, none⟩ ys.length ys.length (encs (Value.int k) ys) (by simp [encs])
    (by simpa using World.news_of_block (cs := (encs (Value.int k) ys).toArray) (t := e) (fr := (0, 0)) (heap_alloc_new W (.cells (encs (Value.int k) ys).toArray e))) (by simp [encs]; intro y _; rfl) (by simp only [maxLen]; omega) hl (by simp; omega)
  unfold Oper.wp execOp
  simp only [ho, resolve, invoke, builtin, Sem.run_bind, Sem.run_pure, Result.andThen_ok, List.map_toArray, List.map_cons, List.map_nil, hs, hx, hr]
  exact h v1 w1 (by simpa [encs] using hown) ((HB.alloc hbase _).grown hg (by simp; omega) (own_base HO)) (World.grownBy.trans (World.grownBy_alloc W _ _) hg)
theorem wp_scope_fwd {P : Program} {a : Act} {w : World} {Q : Exit → Act → World → Prop} {c rest : Code} (l : Nat) (hf : findLabel c l = some rest)
    (h : c.wp P (Exit.jump l (fun a' w' => rest.wp P (Exit.noGoto Q) a' w') Q) a w) : (Code.scope c).wp P Q a w :=
  wp_scope_jumps l (fun a' w' => rest.wp P (Exit.noGoto Q) a' w') (fun _ _ => 0) hf h fun a' w' hJ => wp_mono hJ fun e a1 w1 hq => by
    cases e <;> first | exact hq | exact hq.elim
set_option maxHeartbeats 4000000 in
set_option maxRecDepth 100000 in
theorem built_calls (A : Option Addr) (c : Nat) (l : List Nm) (w : World) (am ae ad : Addr) (hL : LaidAt w am ae ad) (hLd : Laid w) (hr : Kd.C kNm w A l.length l) (hok : ∀ x ∈ l, x.ok) (hbig : l.length ≤ 9223372036854775807) :
    Calls Tryz.prog 24 #[.slice A l.length c] w fun e w' => Below w.heap.size w w' ∧
      (if 30 < l.length then e = .returned (.tuple #[.pointer none, errV am]) else if l.any (fun x => !x.right) = true then e = .returned (.tuple #[.pointer none, errV ae])
       else ∃ bb, e = .returned (.tuple #[.pointer (some ⟨bb, 0, none⟩), .nilIface]) ∧ BSt w' w.heap.size bb (builtS l).1 (builtS l).2) := by
  have hu := Tryz.underlying41
  have hu2 := Tryz.underlying61
  have hmm := @run_makeMap Tryz.prog
  have hcon : ∀ W, Below w.heap.size w W → Calls Tryz.prog 40 #[.slice A l.length c, .func (.func 38) #[] #[]] W fun e w' => e = .returned (.bool (l.any Nm.dtn)) ∧ Below W.heap.size W w' := fun W hb =>
    contains_nm _ _ (enters_of Tryz.func38 (by kernel_rfl) rfl) A c l W (isDtn_calls W) (ReadsRow.imp_ hr hb (fun _ _ hp => hp)) hok hbig
  have hoth : ∀ W, Below w.heap.size w W → Calls Tryz.prog 40 #[.slice A l.length c, .func (.func 39) #[] #[]] W fun e w' => e = .returned (.bool (l.any fun x => !x.right)) ∧ Below W.heap.size W w' := fun W hb =>
    contains_nm _ _ (enters_of Tryz.func39 (by kernel_rfl) rfl) A c l W (isOther_calls W) (ReadsRow.imp_ hr hb (fun _ _ hp => hp)) hok hbig
  obtain ⟨⟨gm, _⟩, ⟨ge, _⟩, _⟩ := hL
  have HCON := Lib.hid hcon
  have HOTH := Lib.hid hoth
  have HR := Lib.hid hr
  have HOK := Lib.hid hok
  have HLD := Lib.hid hLd
  clear hcon hoth hr hok hLd
  have hB1 : Below w.heap.size w ((w.alloc (.map #[] 0)).alloc (.cells #[.map (some w.heap.size), .slice none 0 0, .slice none 0 0] tBld)) := b_alloc (b_alloc (Below.refl _ _) _) _
  have gm1 := (hB1.cell (World.block_lt_of_cell? w _ gm)).trans gm
  have ge1 := (hB1.cell (World.block_lt_of_cell? w _ ge)).trans ge
  have HB1 := Lib.hid hB1
  clear gm ge hB1
  have hbnd : ∀ kk, (l.any fun x => !x.right) = false → l.length ≤ 30 → ((l.take kk).foldl (buildF (l.any Nm.dtn)) ([], [])).1.length ≤ 1000 ∧ (flatT ((l.take kk).foldl (buildF (l.any Nm.dtn)) ([], [])).1).length ≤ 1000000 ∧ ((l.take kk).foldl (buildF (l.any Nm.dtn)) ([], [])).2.length ≤ 1000 := fun kk hq hl => by
    have hall : ∀ x ∈ l, x.right = true := fun x hx => by
      have := (List.any_eq_false.1 hq) x hx
      simpa using this
    obtain ⟨h1, h2, h3⟩ := buildF_bounds (l.any Nm.dtn) (l.take kk) ([], []) (fun x hx => hall x (List.mem_of_mem_take hx))
    have : (l.take kk).length ≤ 30 := by rw [List.length_take]; omega
    simp only [flatT_nil, List.length_nil] at h1 h2 h3
    omega
  have hrt : (l.any fun x => !x.right) = false → ∀ x ∈ l, x.right = true := fun hq x hx => by
    have := (List.any_eq_false.1 hq) x hx
    simpa using this
  have HBND := Lib.hid hbnd
  have HRT := Lib.hid hrt
  clear hbnd hrt
  by_cases h30 : 30 < l.length
  · have h30z : (30 : Int) < (l.length : Int) := by omega
    go_enter Tryz.func24, Tryz.ntmps24
    go_wp2
    refine wp_scope_fwd 0 rfl ?_
    go_wp2
    go_step3
    refine ⟨rfl, ?_⟩
    show Code.wp _ _ _ _ _
    go_wp2
    rw [Exit.noGoto_ret]
    go_ret2
    simp only [if_pos h30]
    exact ⟨HB1.out, rfl⟩
  · have h30z : ¬ (30 : Int) < (l.length : Int) := by omega
    simp only [if_neg h30]
    cases hq : l.any (fun x => !x.right) with
    | true =>
      have hcall := HOTH.out _ HB1.out
      simp only [hq] at hcall
      go_enter Tryz.func24, Tryz.ntmps24
      go_wp2
      refine wp_scope_fwd 0 rfl ?_
      go_wp2_with (go_at_call 40; refine hcall.mono ?_; rintro e w2 ⟨rfl, hb2⟩)
      go_step3
      refine ⟨rfl, ?_⟩
      show Code.wp _ _ _ _ _
      go_wp2
      rw [Exit.noGoto_ret]
      go_ret2
      exact ⟨HB1.out.trans (hb2.mono (by simp; omega)), rfl⟩
    | false =>
      have hcall := HOTH.out _ HB1.out
      simp only [hq] at hcall
      go_enter Tryz.func24, Tryz.ntmps24
      go_wp2
      go_step3
      go_wp2_with (go_at_call 40; refine hcall.mono ?_; rintro e w2 ⟨rfl, hb2⟩)
      have hS0 : BSt w2 w.heap.size (w.heap.size + 1) [] [] := by
        refine ⟨w.heap.size, 0, .map [], .slice none 0 0, .slice none 0 0, BP.below ⟨?_, ?_, World.ownsRow_nil _ _ _ _, World.ownsRow_nil _ _ _ _, by omega, Nat.le_refl _, by simp; omega⟩ hb2, Nat.le_refl _, mapIs_nil⟩
        · have := World.alloc_heap_new (w.alloc (.map #[] 0)) (.cells #[.map (some w.heap.size), .slice none 0 0, .slice none 0 0] tBld)
          rwa [World.size_alloc] at this
        · exact (World.ownsMap_made w _ _ _).alloc _
      have HS0 := Lib.hid hS0
      have HB2 := Lib.hid (HB1.out.trans (hb2.mono (by simp; omega)))
      clear hcall hS0 hb2 HB1 gm1 ge1 HOTH
      have hn30 : l.length ≤ 30 := by omega
      go_loopg [27] l.length (fun gg s27 wr => ∃ kk : Nat, kk ≤ l.length ∧ l.length - kk ≤ gg ∧ s27 = .int .i64 kk ∧ Hid (Below w.heap.size w wr) ∧ Hid (BSt wr w.heap.size (w.heap.size + 1) ((l.take kk).foldl (buildF (l.any Nm.dtn)) ([], [])).1 ((l.take kk).foldl (buildF (l.any Nm.dtn)) ([], [])).2))
      case atStart => exact ⟨0, Nat.zero_le _, by omega, rfl, HB2, HS0⟩
      case round =>
        obtain ⟨kk, hkk, hg, rfl, BW, BS⟩ := hrel
        by_cases hlt : kk < l.length
        · have hltz : (kk : Int) < (l.length : Int) := by omega
          obtain ⟨ad, hA, x0, x1, x2, x3, x4⟩ := at_T41 HR.out (kk : Int) (by omega) hltz
          subst hA
          have hx : l[kk]? = some (rd_T41 l (kk : Int)) := by
            unfold rd_T41
            rw [List.getD_eq_getElem?_getD, Int.toNat_natCast, List.getElem?_eq_getElem hlt]
            rfl
          generalize rd_T41 l (kk : Int) = x at *
          simp only [Int.toNat_natCast] at x0 x1 x2 x3 x4
          replace x0 := (BW.out.cell (World.block_lt_of_cell? w _ x0)).trans x0
          replace x1 := (BW.out.cell (World.block_lt_of_cell? w _ x1)).trans x1
          replace x2 := (BW.out.cell (World.block_lt_of_cell? w _ x2)).trans x2
          replace x3 := (BW.out.cell (World.block_lt_of_cell? w _ x3)).trans x3
          replace x4 := (BW.out.cell (World.block_lt_of_cell? w _ x4)).trans x4
          have htk : (l.take (kk + 1)).foldl (buildF (l.any Nm.dtn)) ([], []) = buildF (l.any Nm.dtn) ((l.take kk).foldl (buildF (l.any Nm.dtn)) ([], [])) x := by
            rw [List.take_add_one, hx, List.foldl_append]
            rfl
          have HX := Lib.hid (HOK.out x (List.mem_of_getElem? hx))
          have HXR := Lib.hid (HRT.out hq x (List.mem_of_getElem? hx))
          obtain ⟨b1, b2, b3⟩ := HBND.out kk hq hn30
          have HT := Lib.hid htk
          clear hx htk
          have hcall := HCON.out (wr.alloc (.cells #[.int .i64 x.f0, .string x.f1, .string x.f2, .int .i64 x.f3, .int .i64 x.f4] 41)) (BW.out.alloc (by have := BW.out.size; omega) _)
          have heb := World.alloc_heap_new wr (.cells #[.int .i64 x.f0, .string x.f1, .string x.f2, .int .i64 x.f3, .int .i64 x.f4] 41)
          have HBa := Lib.hid (BW.out.alloc (by have := BW.out.size; omega) (.cells #[.int .i64 x.f0, .string x.f1, .string x.f2, .int .i64 x.f3, .int .i64 x.f4] 41))
          generalize hst : (l.take kk).foldl (buildF (l.any Nm.dtn)) ([], []) = st at *
          obtain ⟨Lk, pk⟩ := st
          obtain ⟨mb, n, D, vo, vp, hbp, hn, hmap⟩ := BS.out
          have HBPa := Lib.hid (hbp.alloc (.cells #[.int .i64 x.f0, .string x.f1, .string x.f2, .int .i64 x.f3, .int .i64 x.f4] 41))
          have HEB := Lib.hid heb
          clear heb hbp BS BW
          cases hd : l.any Nm.dtn with
          | false =>
            simp only [hd] at hcall
            have hpk : pk.length ≤ 1000 := b3
            clear b1 b2 b3
            have HST := Lib.hid hst
            clear hst
            go_wp2_with (go_at_call 40; refine hcall.mono ?_; rintro e w4 ⟨rfl, hb4⟩)
            have HBP4 := Lib.hid ((HBPa.out.below hb4).drew 1)
            have HB4 := Lib.hid ((HBa.out.trans (hb4.mono HBPa.out.hs)).trans ((below_drewN w4 1).mono (HBPa.out.below hb4).hs))
            have hE4 := (hb4.block _ (by simp)).trans HEB.out
            change Hid (BP w4.drew _ _ _ _ _ _ _ _ _ _ _ _) at HBP4
            change Hid (Below w.heap.size w w4.drew) at HB4
            obtain ⟨Ap, mp, cp, rfl, hmp⟩ := row_slice HBP4.out.prs
            have d2 := cell_blk HBP4.out.blk 2
            simp at d2
            have d2a : ∀ o, (w4.alloc o).cell? ⟨w.heap.size + 1, 2, none⟩ = some (.slice Ap mp cp) := fun o => by
              have := cell_blk ((HBPa.out.below hb4).alloc o).blk 2
              simpa using this
            have e3 := cell_blk hE4 3
            have e4 := cell_blk hE4 4
            simp at e3 e4
            clear hcall hb4 hE4 HBPa HEB HBa x0 x1 x2 x3 x4
            go_region_law (refine step_append_ints (w0 := w) w4.drew w.heap.size rfl (.tmp 39) (.tmp 44) 23 tInt .i64 8 rfl Tryz.underlying23 infoInt (by decide) (.slice Ap mp cp) pk [x.f3, x.f4] rfl rfl HBP4.out.prs HB4.out HBP4.out.hs (by simp; omega) ?_; intro vp1 w9 hown9 hb9 hg9; obtain ⟨Ap1, mp1, cp1, rfl, hmp1⟩ := row_slice hown9; have HBP9 := Lib.hid (HBP4.out.prsed hown9 hg9); have HB9 := Lib.hid hb9; clear hown9 hb9 hg9; have d2 := cell_blk HBP9.out.blk 2; have e2 := frozen_blk HBP9.out.blk 2; simp at d2)
            all_goals (try go_wp2)
            all_goals (go_roundg (l.length - (kk + 1)))
            all_goals (first | (show _ < _; omega) | skip)
            all_goals (refine ⟨kk + 1, by omega, by omega, by go_num, Lib.hid (HB9.out.setCell (p := ⟨w.heap.size + 1, 2, none⟩) HBP9.out.hb _), Lib.hid ?_⟩; rw [HT.out, hd]; exact ⟨mb, _, _, _, _, HBP9.out.set2 (.slice Ap1 mp1 cp1), hn, hmap⟩)
          | true =>
            simp only [hd] at hcall
            have hH := fun W hL => eid_Halves.calls x.f0 x.f1 x.f2 x.f3 x.f4 (Nm.word x) (Nm.rest x) 0 W hL (by unfold eid_Halves.f; rw [← Nm.halves HXR.out]; exact if_pos HX.out)
            have HST := Lib.hid hst
            have HMAP := Lib.hid hmap
            have HN := Lib.hid hn
            have HS := Lib.hid (Nm.sizes HXR.out)
            have B1 := Lib.hid b1
            have B2 := Lib.hid b2
            have B3 := Lib.hid b3
            clear hst hmap hn b1 b2 b3
            go_wp2_with (first | (go_at_call 40; refine hcall.mono ?_; rintro e w4 ⟨rfl, hb4⟩; have HBP4 := Lib.hid (HBPa.out.below hb4); have HB4 := Lib.hid (HBa.out.trans (hb4.mono HBPa.out.hs)); have hE4 := (hb4.block _ (by simp)).trans HEB.out; have e0 := cell_blk hE4 0; have e1 := cell_blk hE4 1; have e2 := cell_blk hE4 2; have e3 := cell_blk hE4 3; have e4 := cell_blk hE4 4; simp at e0 e1 e2 e3 e4; clear hE4 hb4) | (go_at_call 22; refine (hH _ (Laid.below HLD.out HB4.out)).mono ?_; rintro e w5 ⟨rfl, hb5⟩; have HBP5 := Lib.hid ((HBP4.out.below hb5).alloc (.cells #[.string (Nm.word x), .string (Nm.rest x)] tStr)); have HB5 := Lib.hid ((HB4.out.trans (hb5.mono HBP4.out.hs)).alloc (HBP4.out.below hb5).hs (.cells #[.string (Nm.word x), .string (Nm.rest x)] tStr)); have HG5 := Lib.hid (World.alloc_heap_new w5 (.cells #[.string (Nm.word x), .string (Nm.rest x)] tStr))) | (go_at_call 41; refine (text_calls _ w.heap.size (w.heap.size + 1) Lk pk w5.heap.size [(Nm.word x), (Nm.rest x)] 2 _ _ HG5.out (fun j hj => (cell_blk HG5.out j).trans (match j, hj with | 0, _ => rfl | 1, _ => rfl)) ⟨mb, n, D, vo, vp, HBP5.out, HN.out, HMAP.out⟩ (fun t ht => Nat.le_trans (HS.out t ht) (by decide)) (Nat.le_refl _) B2.out B1.out B3.out).mono ?_; rintro e w6 ⟨⟨v, rfl⟩, hS6, hb6⟩))
            go_roundg (l.length - (kk + 1))
            case measure => omega
            case rel => exact ⟨kk + 1, by omega, by omega, by go_num, Lib.hid (HB5.out.trans hb6), Lib.hid (by rw [HT.out, hd, buildF_true]; exact hS6)⟩
        · have hltz : ¬ (kk : Int) < (l.length : Int) := by omega
          have hk : kk = l.length := by omega
          subst hk
          have HS := BS.out
          rw [List.take_length] at HS
          have HS' := Lib.hid HS
          clear HS BS
          go_wp2
          go_ret2
          exact ⟨BW.out, _, rfl, HS'.out⟩
end Go.Proofs.YtbjbicaffblchaaGreatDoor.Hand
end
section
namespace Go.Proofs.YtbjbicaffblchaaGreatDoor.Hand
open Go.RowKit Go.Proofs.YtbjbicaffblchaaGreatDoorW Go.Proofs.YtbjbicaffblchaaGreatDoorW.PrintWords Go.Proofs.YtbjbicaffblchaaGreatDoor.SK
theorem str_txt (l : List UInt8) : strOfNums (bytesI l) = txt l := by
  unfold strOfNums txt
  congr 1
  simp [Function.comp_def]
def okB (l : List Nm) : Bool := l.all fun x => decide (x.f1.size ≤ maxLen) && decide (x.f2.size ≤ maxLen)
theorem okB_ok {l : List Nm} (h : okB l = true) : ∀ x ∈ l, x.ok := fun x hx => by
  have := (List.all_eq_true.1 h) x hx
  simpa [Nm.ok] using this
def buildT (l : List Nm) : ByteArray × List Int × Int :=
  if 30 < l.length then (⟨#[]⟩, [], 71) else if l.any (fun x => !x.right) = true then (⟨#[]⟩, [], 60) else (txt (flatT (builtS l).1), (builtS l).2, 0)
def dict_Build.f (l : List Nm) : Option (ByteArray × List Int × Int) := if okB l = true then some (buildT l) else none
set_option maxHeartbeats 2000000 in
set_option maxRecDepth 100000 in
theorem dict_Build.calls (A0 : Option Addr) (c0 : Nat) (l0 : List Nm) (r1 : ByteArray) (r2 : List Int) (r3 : Int) (w : World) (hr0 : Kd.C kNm w A0 l0.length l0) (_hc0 : l0.length ≤ c0) (hLd : LaidD w) (h : dict_Build.f l0 = some (r1, r2, r3)) :
    Calls Tryz.prog 12 #[.slice A0 l0.length c0] w fun e w' => ∃ v1_ : Value, e = .returned (.tuple #[.string r1, v1_, .int .i64 r3]) ∧ Kd.R (Kd.int .i64) 3 w' w.heap.size (fun _ => True) v1_ r2 ∧ Below w.heap.size w w' := by
  unfold dict_Build.f at h
  split at h
  case isFalse => cases h
  rename_i hok
  replace h := Option.some.inj h
  obtain ⟨hLd, am, ae, ad, hE⟩ := hLd
  have hb := built_calls A0 c0 l0 w am ae ad hE hLd hr0 (okB_ok hok) hr0.2.1
  have HE := Lib.hid hE
  have hu2 := Tryz.underlying61
  clear hr0 hok hLd hE _hc0
  unfold buildT at h
  by_cases h30 : 30 < l0.length
  · simp only [if_pos h30] at hb h
    simp only [Prod.mk.injEq] at h
    obtain ⟨rfl, rfl, rfl⟩ := h
    unfold errV at hb
    have h1 := fun W hW => either_int_many 0 W am ae ad hW
    unfold errV at h1
    go_enter Tryz.func12, Tryz.ntmps12
    go_wp2_with (first | (go_at_call 24; refine hb.mono ?_; rintro e w1 ⟨hb1, rfl⟩) | (go_at_call 25; refine (h1 _ (HE.out.below hb1)).mono ?_; rintro e w2 ⟨rfl, rfl⟩))
    go_ret3
    exact ⟨_, rfl, Kd.R_nil _ _ _ _ _, hb1⟩
  · simp only [if_neg h30] at hb h
    by_cases hr : l0.any (fun x => !x.right) = true
    · simp only [if_pos hr] at hb h
      simp only [Prod.mk.injEq] at h
      obtain ⟨rfl, rfl, rfl⟩ := h
      unfold errV at hb
      have h1 := fun W hW => either_int_eid 0 W am ae ad hW
      unfold errV at h1
      go_enter Tryz.func12, Tryz.ntmps12
      go_wp2_with (first | (go_at_call 24; refine hb.mono ?_; rintro e w1 ⟨hb1, rfl⟩) | (go_at_call 25; refine (h1 _ (HE.out.below hb1)).mono ?_; rintro e w2 ⟨rfl, rfl⟩))
      go_ret3
      exact ⟨_, rfl, Kd.R_nil _ _ _ _ _, hb1⟩
    · simp only [if_neg hr] at hb h
      simp only [Prod.mk.injEq] at h
      obtain ⟨rfl, rfl, rfl⟩ := h
      go_enter Tryz.func12, Tryz.ntmps12
      go_wp2_with (go_at_call 24; refine hb.mono ?_; rintro e w1 ⟨hb1, bb, rfl, hS⟩; obtain ⟨mb, n, D, vo, vp, hbp, hn, hmap⟩ := hS; obtain ⟨Ao, mo, co, rfl, hmo⟩ := row_slice hbp.row; obtain ⟨Ap, mp, cp, rfl, hmp⟩ := row_slice hbp.prs; have c1 := cell_blk hbp.blk 1; have c2 := cell_blk hbp.blk 2; have hcv : (convert 59 9 (.slice Ao mo co)).run Tryz.prog w1.drew = .ok (.string (strOfNums (bytesI (flatT (builtS l0).1)))) w1.drew := own_string Tryz.underlying59 Tryz.underlying5 Tryz.underlying9 (hbp.drew 1).row; simp at c1 c2; have HBP := Lib.hid (hbp.drew 1); clear hmap hbp)
      go_region_with (fail)
      all_goals (try go_wp2)
      all_goals go_ret3
      all_goals exact ⟨.slice Ap mp cp, by rw [str_txt]; rfl, Kd.R_of_own HBP.out.prs (fun _ _ => trivial), hb1.trans ((below_drewN w1 1).mono (by have := hb1.size; omega))⟩
end Go.Proofs.YtbjbicaffblchaaGreatDoor.Hand
end
section
namespace Go.Proofs.YtbjbicaffblchaaGreatDoor.Hand
open Go.RowKit Go.Proofs.YtbjbicaffblchaaGreatDoorW Go.Proofs.YtbjbicaffblchaaGreatDoorW.PrintWords Go.Proofs.YtbjbicaffblchaaGreatDoor.SK
def cutp (r : List UInt8) : List UInt8 := (Lib.cut r [0]).1
def itemsF : Nat → Nat → List UInt8 → List (Int × ByteArray)
  | 0, _, _ => []
  | k + 1, at_, r => if r = [] then [] else ((at_ : Int), txt (cutp r)) :: itemsF k (at_ + (cutp r).length + 1) (r.drop ((cutp r).length + 1))
def items (s : List UInt8) : List (Int × ByteArray) := itemsF (s.length + 1) 0 s
abbrev encItem (x : Int × ByteArray) : Array Value := #[.int .i64 x.1, .string x.2]
theorem texts_make (s : ByteArray) (w : World) :
    Calls Tryz.prog 35 #[.string s] w fun e w' => e = .returned (.func (.func 48) #[] #[.pointer (some ⟨w.heap.size, 0, none⟩)]) ∧ w.alloc (.cells #[.string s] 9) = w' := by
  go_enter Tryz.func35, Tryz.ntmps35
  go_wp2
  go_ret
  exact ⟨rfl, rfl⟩
theorem extract_drop (s : ByteArray) (a : Nat) : (s.extract a s.size).data.toList = s.data.toList.drop a := by
  have h : s.data.toList.length = s.size := Array.length_toList ..
  rw [ByteArray.data_extract, Array.toList_extract, List.extract_eq_take_drop, List.take_of_length_le]
  rw [List.length_drop, h]
  exact Nat.le_refl _
theorem cutp_len (r : List UInt8) : (cutp r).length ≤ r.length := by
  have := (cut_sizes r [0]).1
  exact this
theorem wrap_at (a m : Nat) (h : a + m ≤ 5000000000) : wrap64 ((a : Int) + wrap64 ((m : Int) + 1)) = ((a + m + 1 : Nat) : Int) := by
  unfold wrap64
  omega
attribute [local go_sem] Oper.semAt_some
set_option maxRecDepth 100000 in
set_option maxHeartbeats 4000000 in
theorem texts_iter (s : ByteArray) (b : Nat) (w0 : World) (hL : Laid w0) (hs : s.size < 4294967281) (h1 : w0.heap[b]? = some (.cells #[.string s] 9)) :
    IterX Tryz.prog 48 #[.pointer (some ⟨b, 0, none⟩)] encItem (fun _ => False) (fun k => k = b ∨ k < NG) (items s.data.toList) w0 := by
  intro l J Jx W hW hJ hJx hY h0
  have hlt1 : b < w0.heap.size := (Array.getElem?_eq_some_iff.1 h1).1
  have hbW1 := (hW.block _ hlt1).trans h1
  have HJ := Lib.hid hJ
  have HJx := Lib.hid hJx
  have HY := Lib.hid hY
  have HLW := Lib.hid (hL.below hW)
  have HB1 := Lib.hid hbW1
  have H0 := Lib.hid h0
  have hlen : s.data.toList.length = s.size := Array.length_toList ..
  clear hL h1 hW hJ hJx hY hbW1 h0 hlt1
  refine (callsIn_wide (n := 10)).2 ?_
  simp only [List.append_toArray, List.cons_append, List.nil_append]
  go_enter Tryz.func48, Tryz.ntmps48
  go_wp2
  go_step3
  go_wp2_with (fail)
  go_step3
  go_wp2_with (fail)
  have hb0 := cell_blk HB1.out 0
  simp at hb0
  go_loopw [3] (fun i wr => ∃ (pre : List (Int × ByteArray)) (at_ k : Nat), i = .int .i64 at_ ∧ at_ ≤ s.size + 1 ∧ s.size + 1 ≤ at_ + k ∧ Hid (pre ++ itemsF k at_ (s.data.toList.drop at_) = items s.data.toList) ∧ Hid (J pre wr) ∧ Hid (wr.heap[b]? = some (.cells #[.string s] 9)) ∧ Hid (Laid wr)) (fun i _ => s.size + 2 - (intOf i).toNat)
  case atStart => exact ⟨[], 0, s.size + 1, rfl, Nat.zero_le _, by omega, Lib.hid (by rw [items, hlen]; rfl), H0, HB1, HLW⟩
  case round =>
    obtain ⟨pre, at_, k, rfl, ha, hk, HI, HJr, HBr, HLr⟩ := hrel
    clear HB1 HLW H0 hb0
    have q1 : wr.cell? ⟨b, 0, none⟩ = some (.string s) := (cell_blk HBr.out 0).trans rfl
    by_cases hlt : at_ < s.size
    · obtain ⟨k, rfl⟩ : ∃ j, k = j + 1 := ⟨k - 1, by omega⟩
      have hltz : (at_ : Int) < (s.size : Int) := by omega
      have hge : (0 : Int) ≤ (at_ : Int) := by omega
      have hlez : (at_ : Int) ≤ (s.size : Int) := by omega
      have hne : s.data.toList.drop at_ ≠ [] := fun e => by
        have := congrArg List.length e
        rw [List.length_drop, hlen] at this
        simp at this
        omega
      have hit : itemsF (k + 1) at_ (s.data.toList.drop at_) = ((at_ : Int), txt (cutp (s.data.toList.drop at_))) :: itemsF k (at_ + (cutp (s.data.toList.drop at_)).length + 1) (s.data.toList.drop (at_ + (cutp (s.data.toList.drop at_)).length + 1)) := by
        rw [itemsF, if_neg hne, List.drop_drop]
        rfl
      have hpl : (cutp (s.data.toList.drop at_)).length ≤ s.size - at_ := by
        have := cutp_len (s.data.toList.drop at_)
        rwa [List.length_drop, hlen] at this
      have hcut := strings_Cut.calls (s.extract at_ s.size) ⟨#[0]⟩ (txt (cutp (s.data.toList.drop at_))) (txt (Lib.cut (s.data.toList.drop at_) [0]).2.1) (Lib.cut (s.data.toList.drop at_) [0]).2.2 wr HLr.out (by
        unfold strings_Cut.f
        rw [if_pos (by rw [ByteArray.size_extract]; omega), extract_drop]
        rfl)
      have hqs : (txt (cutp (s.data.toList.drop at_))).size = (cutp (s.data.toList.drop at_)).length := txt_size _
      have HP : Hid ((pre ++ [((at_ : Int), txt (cutp (s.data.toList.drop at_)))]) <+: items s.data.toList) := Lib.hid (by rw [← HI.out, hit]; exact ⟨itemsF k (at_ + (cutp (s.data.toList.drop at_)).length + 1) (s.data.toList.drop (at_ + (cutp (s.data.toList.drop at_)).length + 1)), by simp⟩)
      have HI2 : Hid (pre ++ [((at_ : Int), txt (cutp (s.data.toList.drop at_)))] ++ itemsF k (at_ + (cutp (s.data.toList.drop at_)).length + 1) (s.data.toList.drop (at_ + (cutp (s.data.toList.drop at_)).length + 1)) = items s.data.toList) := Lib.hid (by rw [← HI.out, hit]; simp)
      generalize (cutp (s.data.toList.drop at_)).length = m at *
      generalize txt (cutp (s.data.toList.drop at_)) = q at *
      generalize txt (Lib.cut (s.data.toList.drop at_) [0]).2.1 = q2 at *
      generalize (Lib.cut (s.data.toList.drop at_) [0]).2.2 = q3 at *
      have HQ := Lib.hid hqs
      have HW : Hid (wrap64 ((at_ : Int) + wrap64 ((m : Int) + 1)) = ((at_ + m + 1 : Nat) : Int)) := Lib.hid (wrap_at at_ m (by omega))
      clear hit hne hqs hlen
      go_wp2_with (fail)
      refine hcut.mono ?_
      rintro e w3 ⟨rfl, hb3⟩
      have HJ3 := Lib.hid (HJ.out _ _ _ HJr.out (KeptA.of_below hb3))
      have HL3 := Lib.hid (HLr.out.below hb3)
      have HB3 := Lib.hid ((hb3.block _ (Array.getElem?_eq_some_iff.1 HBr.out).1).trans HBr.out)
      obtain ⟨fn, tmps, assign, body, hy, hR⟩ := HY.out _ _ _ HJ3.out HP.out
      try dsimp only at hy
      have HR := Lib.hid hR
      have HYY := Lib.hid hy
      clear hy hR hcut q1 hb3
      go_upto_region 3 with (fail)
      refine (wpIn_wide (n := 10)).1 ?_
      have hy := HYY.out
      clear HYY
      gi_wp2
      refine HR.out.mono ?_
      rintro e W' (⟨rfl, hJ', hsame, hkf⟩ | ⟨rfl, hJx'⟩)
      · have HJ' := Lib.hid hJ'
        have HSame := Lib.hid hsame
        clear hJ' hsame hkf hy
        gi_wp2
        go_wp2
        go_roundw
        case rel => exact ⟨_, at_ + m + 1, k, by rw [HQ.out, HW.out], by omega, by omega, HI2, HJ', Lib.hid ((HSame.out _ (.inl rfl)).trans HB3.out), Lib.hid (HL3.out.same fun k hk => HSame.out _ (.inr hk))⟩
        case measure => rw [HQ.out, HW.out]; simp only [intOf]; omega
      · have HJx' := Lib.hid hJx'
        clear hJx' hy
        gi_wp2
        go_wp2
        try rw [show ∀ Q a w, Exit.noGoto Q .normal a w = Q .normal a w from fun _ _ _ => rfl]
        go_end0
        exact ⟨⟨_, rfl⟩, .inr ⟨_, HP.out, HJx'.out⟩⟩
    · have hltz : ¬ (at_ : Int) < (s.size : Int) := by omega
      have hnil : s.data.toList.drop at_ = [] := List.drop_eq_nil_of_le (by rw [hlen]; omega)
      have HI2 : Hid (pre = items s.data.toList) := Lib.hid (by
        have := HI.out
        rw [hnil] at this
        rw [← this]
        cases k <;> simp [itemsF])
      clear hnil hlen
      go_wp2
      try rw [show ∀ Q a w, Exit.noGoto Q .normal a w = Q .normal a w from fun _ _ _ => rfl]
      go_end0
      exact ⟨⟨_, rfl⟩, .inl (by rw [← HI2.out]; exact HJr.out)⟩
end Go.Proofs.YtbjbicaffblchaaGreatDoor.Hand
end
section
namespace Go.Proofs.YtbjbicaffblchaaGreatDoor.Hand
open Go.RowKit Go.Proofs.YtbjbicaffblchaaGreatDoorW Go.Proofs.YtbjbicaffblchaaGreatDoorW.PrintWords Go.Proofs.YtbjbicaffblchaaGreatDoor.SK
def openT (l : List UInt8) : Bool := l != [] && l.getLast? != some 0
def textsT (s : ByteArray) : List ByteArray × Int := if openT s.data.toList = true then ([], 70) else ((items s.data.toList).map (·.2), 0)
def dict_Texts.f (s : ByteArray) : Option (List ByteArray × Int) := if s.size < 4294967281 then some (textsT s) else none
theorem ne_nil_size {a : ByteArray} (h : ¬ a.toList = []) : 1 ≤ a.size := by
  have h2 : a.data.toList.length = a.size := Array.length_toList ..
  rw [ByteArray.toList_eq] at h
  have := List.length_pos_iff.2 h
  omega
theorem last_is {a : ByteArray} (h : 1 ≤ a.size) : a.data.toList.getLast? = some (a[a.size - 1]'(by omega)) := by
  have h2 : a.data.toList.length = a.size := Array.length_toList ..
  rw [List.getLast?_eq_getElem?, h2, List.getElem?_eq_getElem (by rw [h2]; omega)]
  rfl
theorem open_is (a : ByteArray) (h : ¬ a.toList = []) (hp : a.size - 1 < a.size) : openT a.data.toList = ((((a[a.size - 1]'hp).toNat : Int)) != 0) := by
  have h1 := ne_nil_size h
  unfold openT
  rw [last_is h1]
  rw [ByteArray.toList_eq] at h
  rw [show (a.data.toList != []) = true by simpa using h, Bool.true_and]
  generalize (a[a.size - 1]'hp) = c
  rw [Bool.eq_iff_iff]
  simp only [bne_iff_ne, ne_eq, Option.some.injEq]
  refine not_congr ⟨fun e => by rw [e]; rfl, fun e => ?_⟩
  apply UInt8.toNat_inj.1
  show c.toNat = 0
  omega
def txI (base B0 : Nat) (w : World) (pre : List (Int × ByteArray)) (W : World) : Prop :=
  Below w.heap.size w W ∧ ∃ v, W.heap[B0]? = some (.cells #[v] 33) ∧ W.ownsRow base tStr 1 v pre.length (encs Value.string (pre.map (·.2)))
theorem txI_keep {base B0 B1 : Nat} {w A B : World} {pre : List (Int × ByteArray)} (h : txI base B0 w pre A) (hk : KeptX (fun _ => False) B1 A B) (h0 : w.heap.size ≤ B1) : txI base B0 w pre B := by
  obtain ⟨hb, v, h1, h2⟩ := h
  refine ⟨hk.below hb h0 (Nat.le_refl _) (fun _ _ => id), v, hk.blk h1 id, own_move h2 (fun k hk2 => ?_)⟩
  obtain ⟨cs, hc⟩ := own_typed h2 k hk2
  exact (hk.blk hc id).trans hc.symm
theorem infoStr : (Tryz.prog.info? tStr).map (fun i => (i.zero, i.size, i.bytes)) = some (some (.string ⟨#[]⟩), 1, 16) := by kernel_rfl
theorem itemsF_len : ∀ (k a : Nat) (r : List UInt8), (itemsF k a r).length ≤ k := by
  intro k
  induction k with
  | zero => intro a r; simp [itemsF]
  | succ k ih =>
    intro a r
    rw [itemsF]
    split
    · simp
    · have := ih (a + (cutp r).length + 1) (r.drop ((cutp r).length + 1))
      simp only [List.length_cons]
      omega
attribute [local go_sem] Oper.semAt_some
set_option maxRecDepth 100000 in
set_option maxHeartbeats 4000000 in
theorem dict_Texts.calls (a0 : ByteArray) (r1 : List ByteArray) (r2 : Int) (w : World) (hLd : LaidD w) (h : dict_Texts.f a0 = some (r1, r2)) :
    Calls Tryz.prog 16 #[.string a0] w fun e w' => ∃ v1_ : Value, e = .returned (.tuple #[v1_, .int .i64 r2]) ∧ Kd.R Kd.string 9 w' w.heap.size (fun _ => True) v1_ r1 ∧ Below w.heap.size w w' := by
  unfold dict_Texts.f at h
  split at h
  case isFalse => cases h
  rename_i hs
  replace h := Option.some.inj h
  obtain ⟨hLd, am, ae, ad, hE⟩ := hLd
  have HL := Lib.hid hLd
  have HE := Lib.hid hE
  obtain ⟨_, _, ⟨gd, _⟩, _⟩ := hE
  have hB1 : Below w.heap.size w (w.alloc (.cells #[.slice none 0 0] 33)) := b_alloc (Below.refl _ _) _
  have gd1 := (hB1.cell (World.block_lt_of_cell? w _ gd)).trans gd
  have HB1 := Lib.hid hB1
  clear hLd gd hB1
  unfold textsT at h
  by_cases ho : openT a0.data.toList = true
  · rw [if_pos ho] at h
    simp only [Prod.mk.injEq] at h
    obtain ⟨rfl, rfl⟩ := h
    have hne : ¬ a0.toList = [] := fun e => by
      rw [ByteArray.toList_eq] at e
      rw [openT, e] at ho
      exact absurd ho (by decide)
    have h1 := ne_nil_size hne
    have hlast := (open_is a0 hne (by omega)).symm.trans ho
    have z1 : (1 : Int) ≤ (a0.size : Int) := by omega
    have z2 : (a0.size : Int) - 1 < (a0.size : Int) := by omega
    have he := either_strs_dict none 0 0 (w.alloc (.cells #[.slice none 0 0] 33)) am ae ad (HE.out.below HB1.out)
    unfold errV at he
    clear ho
    go_enter Tryz.func16, Tryz.ntmps16
    go_wp2_with (go_at_call 34; refine he.mono ?_; rintro e w2 ⟨rfl, rfl⟩)
    all_goals first | (go_ret2; exact ⟨_, rfl, Kd.R_nil _ _ _ _ _, HB1.out⟩) | (exfalso; simp_all; done)
  · rw [if_neg ho] at h
    simp only [Prod.mk.injEq] at h
    obtain ⟨rfl, rfl⟩ := h
    have hcase : a0.toList = [] ∨ ∃ (_ : ¬ a0.toList = []) (hp : a0.size - 1 < a0.size), ((((a0[a0.size - 1]'hp).toNat : Int)) != 0) = false := by
      by_cases e : a0.toList = []
      · exact .inl e
      · have h1 := ne_nil_size e
        refine .inr ⟨e, by omega, ?_⟩
        rw [← open_is a0 e (by omega)]
        exact Bool.eq_false_iff.2 ho
    clear ho
    refine (callsIn_wide (n := 11)).1 (callsIn_of_wp_marks Tryz.func16 rfl trivial (wpIn_wide.2 ?_) rfl)
    simp only [Tryz.ntmps16, List.size_toArray, List.length_cons, List.length_nil, Nat.reduceAdd, Nat.reduceSub, Array.replicate_succ, Array.replicate_zero, List.push_toArray, List.append_toArray, List.nil_append, List.cons_append]
    obtain ⟨w1, hw1⟩ : ∃ w1, w1 = w.alloc (.cells #[.slice none 0 0] 33) := ⟨_, rfl⟩
    have hz0 : w1.heap[w.heap.size]? = some (.cells #[.slice none 0 0] 33) := by rw [hw1]; exact World.alloc_heap_new _ _
    have hs1 : w1.heap.size = w.heap.size + 1 := by rw [hw1]; simp
    rw [← hw1] at HB1
    rcases hcase with hnil | ⟨hne, hp, hz⟩
    rotate_left
    · have z1 : (1 : Int) ≤ (a0.size : Int) := by omega
      have z2 : (a0.size : Int) - 1 < (a0.size : Int) := by omega
      go_wp2_with (fail)
      rw [← hw1]
      refine (texts_make a0 w1).mono ?_
      rintro e w2' ⟨rfl, hw2⟩
      have hb2 : Below w1.heap.size w1 w2' := by rw [← hw2]; exact b_alloc (Below.refl _ _) _
      have hy0 : w2'.heap[w1.heap.size]? = some (.cells #[.string a0] tStr) := by rw [← hw2]; exact World.alloc_heap_new _ _
      have hs2 : w2'.heap.size = w.heap.size + 2 := by rw [← hw2, World.size_alloc, hs1]
      clear hw2
      obtain ⟨w2, rfl⟩ : ∃ w2, w2 = w2' := ⟨_, rfl⟩
      have HZ0 := Lib.hid ((hb2.block _ (Array.getElem?_eq_some_iff.1 hz0).1).trans hz0)
      have HB := Lib.hid (HB1.out.trans (hb2.mono HB1.out.size))
      have HL2 := Lib.hid (HL.out.below HB.out)
      have HS1 := Lib.hid hs1
      have HS2 := Lib.hid hs2
      have HY0 := Lib.hid hy0
      have HEE := Lib.hid (fun W hb => HE.out.below (w' := W) hb)
      clear hz0 hs1 hs2 hy0 hb2 hw1 gd1
      go_wp2_with (fail)
      refine rangeFuncW (gf := 48) (lb := #[.pointer (some ⟨w1.heap.size, 0, none⟩)]) rfl (Go.Proofs.enters_of Tryz.func48 (by kernel_rfl) rfl)
        (texts_iter a0 w1.heap.size w2 HL2.out hs HY0.out) (fun _ h => h.elim) ?hR (Below.refl _ _) (fun _ => rfl)
        (txI w2.heap.size w.heap.size w) (fun _ _ _ => False) ?hI ?hIx ?h0 ?hround ?hdone ?hstop
      case hR =>
        have e1 := HS1.out
        have e2 := HS2.out
        have e3 := HL.out.size
        rintro k (rfl | h)
        · omega
        · have : k < 6 + 1 := h
          omega
      case hI => exact fun s A B hs hk => txI_keep hs hk (by have := HS2.out; omega)
      case hIx => exact fun c s A B hs _ => hs.elim
      case h0 => exact ⟨HB.out, _, HZ0.out, World.ownsRow_nil _ _ _ _⟩
      case hstop => exact fun _ _ _ _ _ _ h _ => h.elim
      case hround =>
        intro l pre x W K hlw hloop hi hpre hK
        have HK := Lib.hid hK
        have HI := Lib.hid hi
        have hpl : pre.length + 1 ≤ 4294967300 := by
          have h1 := hpre.length_le
          have h2 := itemsF_len (a0.data.toList.length + 1) 0 a0.data.toList
          have h3 : a0.data.toList.length = a0.size := Array.length_toList ..
          simp only [items, List.length_append, List.length_cons, List.length_nil] at h1
          omega
        clear hK hi hpre
        gi_wp2
        refine HK.out _ _ ((KeepsOthers.refl _).from _) (fun _ _ => rfl) ?_
        intro W1 hkx hl1 hsz1
        obtain ⟨hb1, v1, hc1, ho1⟩ := txI_keep HI.out hkx (by have := HS2.out; omega)
        obtain ⟨A1, m1, c1, rfl, hm1⟩ := row_slice ho1
        have c0 := cell_blk hc1 0
        have f0 := frozen_blk hc1 0
        simp at c0
        have HB1' := Lib.hid hb1
        have HC1 := Lib.hid hc1
        have HO1 := Lib.hid ho1
        have HSZ := Lib.hid hsz1
        have HPL := Lib.hid hpl
        obtain ⟨i0, hi0, hii⟩ := Option.map_eq_some_iff.1 infoStr
        simp only [Prod.mk.injEq] at hii
        obtain ⟨hi1, hi2, hi3⟩ := hii
        clear hb1 hc1 ho1 hkx hl1 hsz1 hpl
        gi_wp2_with (gi_at_builtin; refine wpListIn_append_own_at _ rfl _ _ 33 rfl w2.heap.size tStr i0 (.string ⟨#[]⟩) 1 16 Tryz.underlying33 hi0 hi1 hi2 hi3 rfl (by decide) (.slice A1 m1 c1) pre.length _ rfl (HO1.out.alloc _) ⟨W1.heap.size, 0, none⟩ 1 1 [.string x.2] rfl rfl (cell_one_new _ _ _) (by simp [Value.oneCell']) (by have := HPL.out; unfold maxLen; omega) (by have := HPL.out; omega) (by have := HSZ.out; simp; omega) ?_; intro v3 w3 hown3 hgrow3 _ hat3; clear hat3; obtain ⟨A3, m3, c3, rfl, hm3⟩ := row_slice hown3; have hg13 := World.grownBy.trans (World.grownBy_alloc W1 (.cells #[.string x.2] tStr) _) hgrow3; have hbase := fun k hk => own_base (HO1.out.alloc (.cells #[.string x.2] tStr)) k hk; have hk3 := (hg13.block _ (Array.getElem?_eq_some_iff.1 HC1.out).1 (fun e => by have := hbase _ e.symm; have := HS2.out; omega)).trans HC1.out; have d0 := cell_blk hk3 0; have g0 := frozen_blk hk3 0; simp at d0)
        have hrow3 : ∀ k, (Value.slice A3 m3 c3).ownBlock = some k → w2.heap.size ≤ k := fun k hk => own_base hown3 k hk
        refine ⟨?_, ?_, ?_, .slice A3 m3 c3, blk_set hk3 0 _, ?_⟩
        · refine KeepsFrom.trans ((KeepsOthers.of_grownBy hg13 (fun j o e ho => ?_)).from _) ((KeepsOthers.setCell _ _ _).from _)
          obtain ⟨cs, hcs⟩ := own_typed HO1.out j e
          rw [hcs] at ho
          cases ho
          rfl
        · intro k hk
          have e1 := HS1.out
          have e2 := HS2.out
          have e3 := HL.out.size
          have hk2 : k < w2.heap.size ∧ k ≠ w.heap.size := by
            rcases hk with rfl | hk
            · omega
            · have : k < 6 + 1 := hk
              omega
          have hk4 : k < W1.heap.size := Nat.lt_of_lt_of_le hk2.1 HSZ.out
          exact (Below.heap_setCell _ _ _ k hk2.2).trans (hg13.block k hk4 (fun e => by have := own_base HO1.out k e.symm; omega))
        · exact Below.setCell (HB1'.out.grown hg13 HB1'.out.size (fun k e => by have := own_base HO1.out k e; have := HS2.out; omega)) (Nat.le_refl _) _
        · refine own_move (w := w3) (by simpa [encs] using hown3) (fun k hk => Below.heap_setCell _ _ _ k (fun e => ?_))
          have := hrow3 k hk
          have := HS2.out
          have e' : k = w.heap.size := e
          omega
      case hdone =>
        intro D W hD hi hd
        obtain ⟨hb, v, hc, ho⟩ := hi
        obtain ⟨A1, m1, c1, rfl, hm1⟩ := row_slice ho
        have c0 := cell_blk hc 0
        simp at c0
        have he := either_strs_nil A1 m1 c1 W am ae ad (HEE.out W hb)
        have HB5 := Lib.hid hb
        have HO5 := Lib.hid ho
        have HDD := Lib.hid hd
        clear hb ho hd hc
        go_wp2_with (go_at_call 34; refine he.mono ?_; rintro e w5 ⟨rfl, rfl⟩)
        show LeavesInM Fence.wide 11 Tryz.prog Tryz.f16 _ _ _ .returning _
        refine ⟨by simp, .inl ⟨_, _, rfl, run_takeDeferred HDD.out, ?_⟩⟩
        refine ⟨_, results_tmp2 rfl _ _ _, .slice A1 m1 c1, rfl, Kd.R_of_own ?_ (fun _ _ => trivial), ?_⟩
        · have ho2 := own_weaken HO5.out (show w.heap.size ≤ w2.heap.size by have := HS2.out; omega)
          refine own_move (w := w5) (by simpa using ho2) (fun k hk => World.putObj_heap_other (fun e => ?_))
          obtain ⟨cs, hcs⟩ := own_typed HO5.out k hk
          rw [e, HDD.out] at hcs
          cases hcs
        · exact HB5.out.trans ⟨rfl, rfl, rfl, by simp, fun k hk => World.putObj_heap_other (by have := HS2.out; omega)⟩
    · go_wp2_with (fail)
      rw [← hw1]
      refine (texts_make a0 w1).mono ?_
      rintro e w2' ⟨rfl, hw2⟩
      have hb2 : Below w1.heap.size w1 w2' := by rw [← hw2]; exact b_alloc (Below.refl _ _) _
      have hy0 : w2'.heap[w1.heap.size]? = some (.cells #[.string a0] tStr) := by rw [← hw2]; exact World.alloc_heap_new _ _
      have hs2 : w2'.heap.size = w.heap.size + 2 := by rw [← hw2, World.size_alloc, hs1]
      clear hw2
      obtain ⟨w2, rfl⟩ : ∃ w2, w2 = w2' := ⟨_, rfl⟩
      have HZ0 := Lib.hid ((hb2.block _ (Array.getElem?_eq_some_iff.1 hz0).1).trans hz0)
      have HB := Lib.hid (HB1.out.trans (hb2.mono HB1.out.size))
      have HL2 := Lib.hid (HL.out.below HB.out)
      have HS1 := Lib.hid hs1
      have HS2 := Lib.hid hs2
      have HY0 := Lib.hid hy0
      have HEE := Lib.hid (fun W hb => HE.out.below (w' := W) hb)
      clear hz0 hs1 hs2 hy0 hb2 hw1 gd1
      go_wp2_with (fail)
      refine rangeFuncW (gf := 48) (lb := #[.pointer (some ⟨w1.heap.size, 0, none⟩)]) rfl (Go.Proofs.enters_of Tryz.func48 (by kernel_rfl) rfl)
        (texts_iter a0 w1.heap.size w2 HL2.out hs HY0.out) (fun _ h => h.elim) ?hR (Below.refl _ _) (fun _ => rfl)
        (txI w2.heap.size w.heap.size w) (fun _ _ _ => False) ?hI ?hIx ?h0 ?hround ?hdone ?hstop
      case hR =>
        have e1 := HS1.out
        have e2 := HS2.out
        have e3 := HL.out.size
        rintro k (rfl | h)
        · omega
        · have : k < 6 + 1 := h
          omega
      case hI => exact fun s A B hs hk => txI_keep hs hk (by have := HS2.out; omega)
      case hIx => exact fun c s A B hs _ => hs.elim
      case h0 => exact ⟨HB.out, _, HZ0.out, World.ownsRow_nil _ _ _ _⟩
      case hstop => exact fun _ _ _ _ _ _ h _ => h.elim
      case hround =>
        intro l pre x W K hlw hloop hi hpre hK
        have HK := Lib.hid hK
        have HI := Lib.hid hi
        have hpl : pre.length + 1 ≤ 4294967300 := by
          have h1 := hpre.length_le
          have h2 := itemsF_len (a0.data.toList.length + 1) 0 a0.data.toList
          have h3 : a0.data.toList.length = a0.size := Array.length_toList ..
          simp only [items, List.length_append, List.length_cons, List.length_nil] at h1
          omega
        clear hK hi hpre
        gi_wp2
        refine HK.out _ _ ((KeepsOthers.refl _).from _) (fun _ _ => rfl) ?_
        intro W1 hkx hl1 hsz1
        obtain ⟨hb1, v1, hc1, ho1⟩ := txI_keep HI.out hkx (by have := HS2.out; omega)
        obtain ⟨A1, m1, c1, rfl, hm1⟩ := row_slice ho1
        have c0 := cell_blk hc1 0
        have f0 := frozen_blk hc1 0
        simp at c0
        have HB1' := Lib.hid hb1
        have HC1 := Lib.hid hc1
        have HO1 := Lib.hid ho1
        have HSZ := Lib.hid hsz1
        have HPL := Lib.hid hpl
        obtain ⟨i0, hi0, hii⟩ := Option.map_eq_some_iff.1 infoStr
        simp only [Prod.mk.injEq] at hii
        obtain ⟨hi1, hi2, hi3⟩ := hii
        clear hb1 hc1 ho1 hkx hl1 hsz1 hpl
        gi_wp2_with (gi_at_builtin; refine wpListIn_append_own_at _ rfl _ _ 33 rfl w2.heap.size tStr i0 (.string ⟨#[]⟩) 1 16 Tryz.underlying33 hi0 hi1 hi2 hi3 rfl (by decide) (.slice A1 m1 c1) pre.length _ rfl (HO1.out.alloc _) ⟨W1.heap.size, 0, none⟩ 1 1 [.string x.2] rfl rfl (cell_one_new _ _ _) (by simp [Value.oneCell']) (by have := HPL.out; unfold maxLen; omega) (by have := HPL.out; omega) (by have := HSZ.out; simp; omega) ?_; intro v3 w3 hown3 hgrow3 _ hat3; clear hat3; obtain ⟨A3, m3, c3, rfl, hm3⟩ := row_slice hown3; have hg13 := World.grownBy.trans (World.grownBy_alloc W1 (.cells #[.string x.2] tStr) _) hgrow3; have hbase := fun k hk => own_base (HO1.out.alloc (.cells #[.string x.2] tStr)) k hk; have hk3 := (hg13.block _ (Array.getElem?_eq_some_iff.1 HC1.out).1 (fun e => by have := hbase _ e.symm; have := HS2.out; omega)).trans HC1.out; have d0 := cell_blk hk3 0; have g0 := frozen_blk hk3 0; simp at d0)
        have hrow3 : ∀ k, (Value.slice A3 m3 c3).ownBlock = some k → w2.heap.size ≤ k := fun k hk => own_base hown3 k hk
        refine ⟨?_, ?_, ?_, .slice A3 m3 c3, blk_set hk3 0 _, ?_⟩
        · refine KeepsFrom.trans ((KeepsOthers.of_grownBy hg13 (fun j o e ho => ?_)).from _) ((KeepsOthers.setCell _ _ _).from _)
          obtain ⟨cs, hcs⟩ := own_typed HO1.out j e
          rw [hcs] at ho
          cases ho
          rfl
        · intro k hk
          have e1 := HS1.out
          have e2 := HS2.out
          have e3 := HL.out.size
          have hk2 : k < w2.heap.size ∧ k ≠ w.heap.size := by
            rcases hk with rfl | hk
            · omega
            · have : k < 6 + 1 := hk
              omega
          have hk4 : k < W1.heap.size := Nat.lt_of_lt_of_le hk2.1 HSZ.out
          exact (Below.heap_setCell _ _ _ k hk2.2).trans (hg13.block k hk4 (fun e => by have := own_base HO1.out k e.symm; omega))
        · exact Below.setCell (HB1'.out.grown hg13 HB1'.out.size (fun k e => by have := own_base HO1.out k e; have := HS2.out; omega)) (Nat.le_refl _) _
        · refine own_move (w := w3) (by simpa [encs] using hown3) (fun k hk => Below.heap_setCell _ _ _ k (fun e => ?_))
          have := hrow3 k hk
          have := HS2.out
          have e' : k = w.heap.size := e
          omega
      case hdone =>
        intro D W hD hi hd
        obtain ⟨hb, v, hc, ho⟩ := hi
        obtain ⟨A1, m1, c1, rfl, hm1⟩ := row_slice ho
        have c0 := cell_blk hc 0
        simp at c0
        have he := either_strs_nil A1 m1 c1 W am ae ad (HEE.out W hb)
        have HB5 := Lib.hid hb
        have HO5 := Lib.hid ho
        have HDD := Lib.hid hd
        clear hb ho hd hc
        go_wp2_with (go_at_call 34; refine he.mono ?_; rintro e w5 ⟨rfl, rfl⟩)
        show LeavesInM Fence.wide 11 Tryz.prog Tryz.f16 _ _ _ .returning _
        refine ⟨by simp, .inl ⟨_, _, rfl, run_takeDeferred HDD.out, ?_⟩⟩
        refine ⟨_, results_tmp2 rfl _ _ _, .slice A1 m1 c1, rfl, Kd.R_of_own ?_ (fun _ _ => trivial), ?_⟩
        · have ho2 := own_weaken HO5.out (show w.heap.size ≤ w2.heap.size by have := HS2.out; omega)
          refine own_move (w := w5) (by simpa using ho2) (fun k hk => World.putObj_heap_other (fun e => ?_))
          obtain ⟨cs, hcs⟩ := own_typed HO5.out k hk
          rw [e, HDD.out] at hcs
          cases hcs
        · exact HB5.out.trans ⟨rfl, rfl, rfl, by simp, fun k hk => World.putObj_heap_other (by have := HS2.out; omega)⟩
end Go.Proofs.YtbjbicaffblchaaGreatDoor.Hand
end
section
namespace Go.Proofs.YtbjbicaffblchaaGreatDoor.Hand
open Go.RowKit Go.Proofs.YtbjbicaffblchaaGreatDoorW Go.Proofs.YtbjbicaffblchaaGreatDoorW.PrintWords Go.Proofs.YtbjbicaffblchaaGreatDoor.SK
def halfOf (l : List (Int × ByteArray)) (a : Int) : ByteArray := l.foldl (fun h x => if x.1 = a then x.2 else h) ⟨#[]⟩
theorem halfOf_snoc (l : List (Int × ByteArray)) (x : Int × ByteArray) (a : Int) : halfOf (l ++ [x]) a = if x.1 = a then x.2 else halfOf l a := by simp [halfOf]
def eidNm (x : Int × ByteArray × ByteArray × Int × Int × Int) : Nm := ⟨x.1, x.2.1, x.2.2.1, x.2.2.2.1, x.2.2.2.2.1⟩
def nameT (s : ByteArray) (a b : Int) : Nm × Bool :=
  if s.toList = [] then (if a = 0 ∧ b = 0 then ⟨0, ⟨#[]⟩, ⟨#[]⟩, 0, 0⟩ else ⟨2, ⟨#[]⟩, ⟨#[]⟩, a, b⟩, true)
  else (eidNm (joinT (halfOf (items s.data.toList) a) (halfOf (items s.data.toList) b)), (joinT (halfOf (items s.data.toList) a) (halfOf (items s.data.toList) b)).2.2.2.2.2 == 0)
def nameE (ok : Bool) (ad : Addr) : Value := if ok then .nilIface else errV ad
def Nm.cells (x : Nm) : Array Value := #[.int .i64 x.f0, .string x.f1, .string x.f2, .int .i64 x.f3, .int .i64 x.f4]
def zeroNm : Nm := ⟨0, ⟨#[]⟩, ⟨#[]⟩, 0, 0⟩
theorem setNm {W : World} {g : Nat} {t : TypeId} {y x : Nm} (h : W.heap[g]? = some (.cells (Nm.cells y) t)) :
    (((((W.setCell ⟨g, 0, none⟩ (.int .i64 x.f0)).setCell ⟨g, 1, none⟩ (.string x.f1)).setCell ⟨g, 2, none⟩ (.string x.f2)).setCell ⟨g, 3, none⟩ (.int .i64 x.f3)).setCell ⟨g, 4, none⟩ (.int .i64 x.f4)).heap[g]? = some (.cells (Nm.cells x) t) :=
  blk_set (blk_set (blk_set (blk_set (blk_set h 0 _) 1 _) 2 _) 3 _) 4 _
theorem name_results {W : World} {g : Nat} {x : Nm} {ev : Value} {tmps : Array Value} (h6 : tmps[6]? = some (.pointer (some ⟨g, 0, none⟩))) (h7 : tmps[7]? = some ev) (hg : W.heap[g]? = some (.cells (Nm.cells x) 41)) :
    (results Tryz.f30 tmps).run Tryz.prog W = .ok (.tuple #[x.v, ev]) W := by
  have hu := Tryz.underlying41
  have c0 := cell_blk hg 0
  have c1 := cell_blk hg 1
  have c2 := cell_blk hg 2
  have c3 := cell_blk hg 3
  have c4 := cell_blk hg 4
  simp [Nm.cells] at c0 c1 c2 c3 c4
  simp [results, Tryz.f30, go_sem, Array.getD_eq_getD_getElem?, h6, h7, c0, c1, c2, c3, c4]
theorem alloc3 (w : World) (o0 o1 o2 : Obj) : (((w.alloc o0).alloc o1).alloc o2).heap[w.heap.size + 1 + 1]? = some o2 := by
  have h2 := World.alloc_heap_new ((w.alloc o0).alloc o1) o2
  simpa only [World.size_alloc] using h2
set_option maxHeartbeats 4000000 in
set_option maxRecDepth 100000 in
theorem name_empty (s : ByteArray) (a b : Int) (w : World) (ad : Addr) (hs : s.toList = []) :
    Calls Tryz.prog 30 #[.string s, .int .i64 a, .int .i64 b] w fun e w' => e = .returned (.tuple #[(nameT s a b).1.v, nameE (nameT s a b).2 ad]) ∧ Below w.heap.size w w' := by
  have hu := Tryz.underlying41
  unfold nameT
  rw [if_pos hs]
  by_cases h : a = 0 ∧ b = 0
  · rw [if_pos h]
    obtain ⟨rfl, rfl⟩ := h
    go_enter Tryz.func30, Tryz.ntmps30
    go_wp2_with (fail)
    exact bodyPost_ret (name_results (x := zeroNm) rfl rfl (alloc3 _ _ _ _)) rfl ⟨rfl, b_alloc (b_alloc (b_alloc (Below.refl _ _) _) _) _⟩
  · rw [if_neg h]
    by_cases ha : a = 0
    · have hb : ¬ b = 0 := fun e => h ⟨ha, e⟩
      subst ha
      clear h
      go_enter Tryz.func30, Tryz.ntmps30
      go_wp2_with (fail)
      exact bodyPost_ret (name_results (x := ⟨2, ⟨#[]⟩, ⟨#[]⟩, 0, b⟩) rfl rfl (alloc3 _ _ _ _)) rfl ⟨rfl, b_alloc (b_alloc (b_alloc (Below.refl _ _) _) _) _⟩
    · clear h
      go_enter Tryz.func30, Tryz.ntmps30
      go_wp2_with (fail)
      exact bodyPost_ret (name_results (x := ⟨2, ⟨#[]⟩, ⟨#[]⟩, a, b⟩) rfl rfl (alloc3 _ _ _ _)) rfl ⟨rfl, b_alloc (b_alloc (b_alloc (Below.refl _ _) _) _) _⟩
def nmI (a b : Int) (w : World) (pre : List (Int × ByteArray)) (W : World) : Prop :=
  Below w.heap.size w W ∧ W.heap[w.heap.size]? = some (.cells #[.int .i64 a] tInt) ∧ W.heap[w.heap.size + 1]? = some (.cells #[.int .i64 b] tInt) ∧
    W.heap[w.heap.size + 1 + 1]? = some (.cells (Nm.cells zeroNm) 41) ∧ W.heap[w.heap.size + 1 + 1 + 1]? = some (.cells #[.string (halfOf pre a), .string (halfOf pre b)] 85)
theorem nmI_keep {a b : Int} {w A B : World} {pre : List (Int × ByteArray)} {B1 : Nat} (h : nmI a b w pre A) (hk : KeptX (fun _ => False) B1 A B) (h0 : w.heap.size ≤ B1) : nmI a b w pre B := by
  obtain ⟨hb, h1, h2, h3, h4⟩ := h
  exact ⟨hk.below hb h0 (Nat.le_refl _) (fun _ _ => id), hk.blk h1 id, hk.blk h2 id, hk.blk h3 id, hk.blk h4 id⟩
theorem name_end (w W : World) (D : Nat) (x : Nm) (ev : Value) (a : Act) (hd : a.defers = [{ target := .collected D, args := #[] }]) (h6 : a.tmps[6]? = some (.pointer (some ⟨w.heap.size + 1 + 1, 0, none⟩))) (h7 : a.tmps[7]? = some ev)
    (h2 : W.heap[w.heap.size + 1 + 1]? = some (.cells (Nm.cells x) 41)) (hD : W.heap[D]? = some (.deferred (some []))) (hDn : w.heap.size + 3 < D) (hb : Below w.heap.size w W) (v : Value) (hv : v = .tuple #[x.v, ev]) :
    bodyPostM Fence.wide 11 Tryz.prog Tryz.f30 (fun e w' => e = .returned v ∧ Below w.heap.size w w') .ret a W := by
  subst hv
  show LeavesInM Fence.wide 11 Tryz.prog Tryz.f30 a.tmps _ a.defers .returning W
  rw [hd]
  have hb' : Below w.heap.size w (W.putObj D (.deferred none)) := hb.trans ⟨rfl, rfl, rfl, by simp, fun k hk => World.putObj_heap_other (by omega)⟩
  have g2 : (W.putObj D (.deferred none)).heap[w.heap.size + 1 + 1]? = some (.cells (Nm.cells x) 41) := (World.putObj_heap_other (by omega)).trans h2
  exact ⟨by simp, .inl ⟨_, _, rfl, run_takeDeferred hD, _, name_results h6 h7 g2, rfl, hb'⟩⟩
theorem itemsF_size : ∀ (k a : Nat) (r : List UInt8), ∀ x ∈ itemsF k a r, x.2.size ≤ r.length := by
  intro k
  induction k with
  | zero => intro a r x hx; simp [itemsF] at hx
  | succ k ih =>
    intro a r x hx
    rw [itemsF] at hx
    split at hx
    · cases hx
    · rcases List.mem_cons.1 hx with rfl | hx
      · rw [txt_size]; exact cutp_len r
      · have := ih _ _ x hx
        rw [List.length_drop] at this
        omega
theorem halfOf_size (l : List (Int × ByteArray)) (a : Int) (n : Nat) (h : ∀ x ∈ l, x.2.size ≤ n) : (halfOf l a).size ≤ n := by
  have key : ∀ (l : List (Int × ByteArray)) (b : ByteArray), b.size ≤ n → (∀ x ∈ l, x.2.size ≤ n) → (l.foldl (fun h x => if x.1 = a then x.2 else h) b).size ≤ n := by
    intro l
    induction l with
    | nil => intro b hb _; exact hb
    | cons x r ih =>
      intro b hb hx
      refine ih _ ?_ (fun y hy => hx y (List.mem_cons_of_mem _ hy))
      show (if x.1 = a then x.2 else b).size ≤ n
      split
      · exact hx x List.mem_cons_self
      · exact hb
  exact key l ⟨#[]⟩ (Nat.zero_le _) h
attribute [local go_sem] Oper.semAt_some
set_option maxRecDepth 100000 in
set_option maxHeartbeats 4000000 in
theorem name_full (s : ByteArray) (a b : Int) (w : World) (am ae ad : Addr) (hE : LaidAt w am ae ad) (hLd : Laid w) (hne : ¬ s.toList = []) (hs : s.size < 4294967281) :
    Calls Tryz.prog 30 #[.string s, .int .i64 a, .int .i64 b] w fun e w' => e = .returned (.tuple #[(nameT s a b).1.v, nameE (nameT s a b).2 ad]) ∧ Below w.heap.size w w' := by
  have hu := Tryz.underlying41
  have hu2 := Tryz.underlying85
  have HE := Lib.hid hE
  have HL := Lib.hid hLd
  clear hE hLd
  unfold nameT
  rw [if_neg hne]
  have hemp : s.toList.isEmpty = false := by simpa using hne
  refine (callsIn_wide (n := 11)).1 (callsIn_of_wp_marks Tryz.func30 rfl trivial (wpIn_wide.2 ?_) rfl)
  simp only [Tryz.ntmps30, List.size_toArray, List.length_cons, List.length_nil, Nat.reduceAdd, Nat.reduceSub, Array.replicate_succ, Array.replicate_zero, List.push_toArray, List.append_toArray, List.nil_append, List.cons_append]
  go_wp2_with (fail)
  obtain ⟨w1, hw1⟩ : ∃ w1, w1 = (((w.alloc (.cells #[.int .i64 a] tInt)).alloc (.cells #[.int .i64 b] tInt)).alloc (.cells #[.int .i64 0, .string ⟨#[]⟩, .string ⟨#[]⟩, .int .i64 0, .int .i64 0] 41)).alloc (.cells #[.string ⟨#[]⟩, .string ⟨#[]⟩] 85) := ⟨_, rfl⟩
  have hb1 : Below w.heap.size w w1 := by rw [hw1]; exact b_alloc (b_alloc (b_alloc (b_alloc (Below.refl _ _) _) _) _) _
  obtain ⟨hs1, hz0, hz1, hz2, hz3⟩ := alloc4 w (.cells #[.int .i64 a] tInt) (.cells #[.int .i64 b] tInt) (.cells #[.int .i64 0, .string ⟨#[]⟩, .string ⟨#[]⟩, .int .i64 0, .int .i64 0] 41) (.cells #[.string ⟨#[]⟩, .string ⟨#[]⟩] 85)
  rw [← hw1] at hs1 hz0 hz1 hz2 hz3
  rw [← hw1]
  clear hw1
  refine (texts_make s w1).mono ?_
  rintro e w2' ⟨rfl, hw2⟩
  have hb2 : Below w1.heap.size w1 w2' := by rw [← hw2]; exact b_alloc (Below.refl _ _) _
  have hy0 : w2'.heap[w1.heap.size]? = some (.cells #[.string s] tStr) := by rw [← hw2]; exact World.alloc_heap_new _ _
  have hs2 : w2'.heap.size = w.heap.size + 5 := by rw [← hw2, World.size_alloc, hs1]
  clear hw2
  obtain ⟨w2, rfl⟩ : ∃ w2, w2 = w2' := ⟨_, rfl⟩
  have keep : ∀ (k : Nat) (o : Obj), w1.heap[k]? = some o → w2.heap[k]? = some o := fun k o h => (hb2.block _ (Array.getElem?_eq_some_iff.1 h).1).trans h
  have HI0 : Hid (nmI a b w [] w2) := Lib.hid ⟨hb1.trans (hb2.mono hb1.size), keep _ _ hz0, keep _ _ hz1, keep _ _ hz2, keep _ _ hz3⟩
  have HL2 := Lib.hid (HL.out.below (hb1.trans (hb2.mono hb1.size)))
  have HS1 := Lib.hid hs1
  have HS2 := Lib.hid hs2
  have HY0 := Lib.hid hy0
  clear hz0 hz1 hz2 hz3 hs1 hs2 hy0 hb1 hb2 keep
  go_wp2_with (fail)
  refine rangeFuncW (gf := 48) (lb := #[.pointer (some ⟨w1.heap.size, 0, none⟩)]) rfl (Go.Proofs.enters_of Tryz.func48 (by kernel_rfl) rfl)
    (texts_iter s w1.heap.size w2 HL2.out hs HY0.out) (fun _ h => h.elim) ?hR (Below.refl _ _) (fun _ => rfl)
    (nmI a b w) (fun _ _ _ => False) ?hI ?hIx ?h0 ?hround ?hdone ?hstop
  case hR =>
    have e1 := HS1.out
    have e2 := HS2.out
    have e3 := HL.out.size
    rintro k (rfl | h)
    · omega
    · have : k < 6 + 1 := h
      omega
  case hI => exact fun s A B hs hk => nmI_keep hs hk (by have := HS2.out; omega)
  case hIx => exact fun c s A B hs _ => hs.elim
  case h0 => exact HI0.out
  case hstop => exact fun _ _ _ _ _ _ h _ => h.elim
  case hround =>
    intro l pre x W K hlw hloop hi hpre hK
    have HK := Lib.hid hK
    have HI := Lib.hid hi
    clear hK hi hpre
    gi_wp2
    refine HK.out _ _ ((KeepsOthers.refl _).from _) (fun _ _ => rfl) ?_
    intro W1 hkx hl1 hsz1
    obtain ⟨hb1, hz0, hz1, hz2, hz3⟩ := nmI_keep HI.out hkx (by have := HS2.out; omega)
    have c0 := cell_blk hz0 0
    have c1 := cell_blk hz1 0
    have c3 := cell_blk hz3 0
    have c4 := cell_blk hz3 1
    have f3 := frozen_blk hz3 0
    have f4 := frozen_blk hz3 1
    simp at c0 c1 c3 c4
    have HB := Lib.hid hb1
    have HZ0 := Lib.hid hz0
    have HZ1 := Lib.hid hz1
    have HZ2 := Lib.hid hz2
    have HZ3 := Lib.hid hz3
    have HH := Lib.hid (fun c => halfOf_snoc pre x c)
    clear hb1 hz0 hz1 hz2 hz3 hkx hl1 hsz1
    have fin : ∀ W', (W' = W1 ∨ W' = W1.setCell ⟨w.heap.size + 1 + 1 + 1, 0, none⟩ (.string x.2) ∨ W' = W1.setCell ⟨w.heap.size + 1 + 1 + 1, 1, none⟩ (.string x.2) ∨ W' = (W1.setCell ⟨w.heap.size + 1 + 1 + 1, 0, none⟩ (.string x.2)).setCell ⟨w.heap.size + 1 + 1 + 1, 1, none⟩ (.string x.2)) →
        W'.heap[w.heap.size + 1 + 1 + 1]? = some (.cells #[.string (halfOf (pre ++ [x]) a), .string (halfOf (pre ++ [x]) b)] 85) →
        KeepsFrom w2.heap.size W1 W' ∧ SameX (fun k => k = w1.heap.size ∨ k < NG) W1 W' ∧ nmI a b w (pre ++ [x]) W' := by
      intro W' hW' h3
      have e1 := HS1.out
      have e2 := HS2.out
      have e3 := HL.out.size
      have far : ∀ k, k ≠ w.heap.size + 1 + 1 + 1 → W'.heap[k]? = W1.heap[k]? := fun k hk => by
        rcases hW' with rfl | rfl | rfl | rfl
        · rfl
        · exact Below.heap_setCell _ _ _ k hk
        · exact Below.heap_setCell _ _ _ k hk
        · exact (Below.heap_setCell _ _ _ k hk).trans (Below.heap_setCell _ _ _ k hk)
      refine ⟨?_, fun k hk => far k ?_, ?_, (far _ (by omega)).trans HZ0.out, (far _ (by omega)).trans HZ1.out, (far _ (by omega)).trans HZ2.out, h3⟩
      · rcases hW' with rfl | rfl | rfl | rfl
        · exact (KeepsOthers.refl _).from _
        · exact (KeepsOthers.setCell _ _ _).from _
        · exact (KeepsOthers.setCell _ _ _).from _
        · exact ((KeepsOthers.setCell _ _ _).trans (KeepsOthers.setCell _ _ _)).from _
      · rcases hk with rfl | hk
        · omega
        · have : k < 6 + 1 := hk
          omega
      · rcases hW' with rfl | rfl | rfl | rfl
        · exact HB.out
        · exact HB.out.setCell (p := ⟨w.heap.size + 1 + 1 + 1, 0, none⟩) (by show w.heap.size ≤ w.heap.size + 1 + 1 + 1; omega) _
        · exact HB.out.setCell (p := ⟨w.heap.size + 1 + 1 + 1, 1, none⟩) (by show w.heap.size ≤ w.heap.size + 1 + 1 + 1; omega) _
        · exact (HB.out.setCell (p := ⟨w.heap.size + 1 + 1 + 1, 0, none⟩) (by show w.heap.size ≤ w.heap.size + 1 + 1 + 1; omega) _).setCell (p := ⟨w.heap.size + 1 + 1 + 1, 1, none⟩) (by show w.heap.size ≤ w.heap.size + 1 + 1 + 1; omega) _
    have FIN := Lib.hid fin
    clear fin
    obtain ⟨x1, x2⟩ := x
    by_cases ha : x1 = a
    · subst ha
      by_cases hb : x1 = b
      · subst hb
        gi_wp2
        exact FIN.out _ (.inr (.inr (.inr rfl))) (by rw [HH.out, if_pos rfl]; exact blk_set (blk_set HZ3.out 0 _) 1 _)
      · gi_wp2
        exact FIN.out _ (.inr (.inl rfl)) (by rw [HH.out, HH.out, if_pos rfl, if_neg hb]; exact blk_set HZ3.out 0 _)
    · by_cases hb : x1 = b
      · subst hb
        gi_wp2
        exact FIN.out _ (.inr (.inr (.inl rfl))) (by rw [HH.out, HH.out, if_neg ha, if_pos rfl]; exact blk_set HZ3.out 1 _)
      · gi_wp2
        exact FIN.out _ (.inl rfl) (by rw [HH.out, HH.out, if_neg ha, if_neg hb]; exact HZ3.out)
  case hdone =>
    intro D W hD hi hd
    obtain ⟨hb, hz0, hz1, hz2, hz3⟩ := hi
    have c3 := cell_blk hz3 0
    have c4 := cell_blk hz3 1
    simp at c3 c4
    have hsz : ∀ c, (halfOf (items s.data.toList) c).size < 4294967281 := fun c => by
      have := halfOf_size (items s.data.toList) c s.data.toList.length (fun x hx => itemsF_size _ _ _ x hx)
      have h3 : s.data.toList.length = s.size := Array.length_toList ..
      omega
    have hsb := hsz b
    obtain ⟨h1, hh1⟩ : ∃ h1, halfOf (items s.data.toList) a = h1 := ⟨_, rfl⟩
    obtain ⟨h2, hh2⟩ : ∃ h2, halfOf (items s.data.toList) b = h2 := ⟨_, rfl⟩
    rw [hh1] at c3
    rw [hh2] at c4 hsb
    obtain ⟨q1, q2, q3, q4, q5, q6, hj⟩ : ∃ q1 q2 q3 q4 q5 q6, joinT h1 h2 = (q1, q2, q3, q4, q5, q6) := ⟨_, _, _, _, _, _, rfl⟩
    have hJ := eid_Join.calls h1 h2 q1 q2 q3 q4 q5 q6 W (HL.out.below hb) (by unfold eid_Join.f; rw [if_pos hsb, hj])
    have hDn : w.heap.size + 3 < D := by have := HS2.out; omega
    have HJ := Lib.hid (show joinT (halfOf (items s.data.toList) a) (halfOf (items s.data.toList) b) = (q1, q2, q3, q4, q5, q6) by rw [hh1, hh2]; exact hj)
    clear hh1 hh2
    have HB := Lib.hid hb
    have HZ2 := Lib.hid hz2
    have HD := Lib.hid hd
    clear hsz hsb hj hb hz0 hz1 hz2 hz3 hd hD HI0 HL2 HS1 HY0
    go_wp2_with (fail)
    refine hJ.mono ?_
    rintro e w5 ⟨rfl, hb5⟩
    obtain ⟨gd, _⟩ := (HE.out.below HB.out).dict
    have gd5 := cell_keep hb5 gd
    have k2 := (hb5.block _ (Array.getElem?_eq_some_iff.1 HZ2.out).1).trans HZ2.out
    have hD5 := (hb5.block _ (Array.getElem?_eq_some_iff.1 HD.out).1).trans HD.out
    have hn5 : w.heap.size + 2 < w5.heap.size := (Array.getElem?_eq_some_iff.1 k2).1
    have hb6 : Below w.heap.size w (w5.alloc (.cells #[.int .i64 q1, .string q2, .string q3, .int .i64 q4, .int .i64 q5] 41)) := (HB.out.trans (hb5.mono HB.out.size)).alloc (by omega) _
    have k2a := blk_alloc k2 (.cells #[.int .i64 q1, .string q2, .string q3, .int .i64 q4, .int .i64 q5] 41)
    have c0 : (w5.alloc (.cells #[.int .i64 q1, .string q2, .string q3, .int .i64 q4, .int .i64 q5] 41)).cell? ⟨w.heap.size + 1 + 1, 0, none⟩ = some (.int .i64 0) := cell_blk k2a 0
    have c1 : (w5.alloc (.cells #[.int .i64 q1, .string q2, .string q3, .int .i64 q4, .int .i64 q5] 41)).cell? ⟨w.heap.size + 1 + 1, 1, none⟩ = some (.string ⟨#[]⟩) := cell_blk k2a 1
    have c2 : (w5.alloc (.cells #[.int .i64 q1, .string q2, .string q3, .int .i64 q4, .int .i64 q5] 41)).cell? ⟨w.heap.size + 1 + 1, 2, none⟩ = some (.string ⟨#[]⟩) := cell_blk k2a 2
    have c3 : (w5.alloc (.cells #[.int .i64 q1, .string q2, .string q3, .int .i64 q4, .int .i64 q5] 41)).cell? ⟨w.heap.size + 1 + 1, 3, none⟩ = some (.int .i64 0) := cell_blk k2a 3
    have c4 : (w5.alloc (.cells #[.int .i64 q1, .string q2, .string q3, .int .i64 q4, .int .i64 q5] 41)).cell? ⟨w.heap.size + 1 + 1, 4, none⟩ = some (.int .i64 0) := cell_blk k2a 4
    have f0 : ∀ j, (w5.alloc (.cells #[.int .i64 q1, .string q2, .string q3, .int .i64 q4, .int .i64 q5] 41)).frozen? ⟨w.heap.size + 1 + 1, j, none⟩ = false := fun j => frozen_blk k2a j
    have K2 := Lib.hid k2a
    have HD5 : Hid ((w5.alloc (.cells #[.int .i64 q1, .string q2, .string q3, .int .i64 q4, .int .i64 q5] 41)).heap[D]? = some (.deferred (some []))) := Lib.hid ((Below.heap_alloc _ _ _ (Array.getElem?_eq_some_iff.1 hD5).1).trans hD5)
    have HB6 := Lib.hid hb6
    have gd6 := cell_keep (b_alloc (Below.refl _ w5) (.cells #[.int .i64 q1, .string q2, .string q3, .int .i64 q4, .int .i64 q5] 41)) gd5
    have hne2 : ¬ w5.heap.size = w.heap.size + 1 + 1 := by omega
    clear hJ hb5 gd k2 k2a hD5 hn5 hb6
    have fin : ∀ (W : World), W = (w5.alloc (.cells #[.int .i64 q1, .string q2, .string q3, .int .i64 q4, .int .i64 q5] 41)) ∨ W = (w5.alloc (.cells #[.int .i64 q1, .string q2, .string q3, .int .i64 q4, .int .i64 q5] 41)).drew →
        ∀ (a' : Act) (ev : Value), ev = nameE (q6 == 0) ad → a'.defers = [{ target := .collected D, args := #[] }] → a'.tmps[6]? = some (.pointer (some ⟨w.heap.size + 1 + 1, 0, none⟩)) → a'.tmps[7]? = some ev →
        bodyPostM Fence.wide 11 Tryz.prog Tryz.f30 (fun e w' => e = .returned (.tuple #[(eidNm (joinT (halfOf (items s.data.toList) a) (halfOf (items s.data.toList) b))).v, nameE ((joinT (halfOf (items s.data.toList) a) (halfOf (items s.data.toList) b)).2.2.2.2.2 == 0) ad]) ∧ Below w.heap.size w w') .ret a'
          (((((W.setCell ⟨w.heap.size + 1 + 1, 0, none⟩ (.int .i64 q1)).setCell ⟨w.heap.size + 1 + 1, 1, none⟩ (.string q2)).setCell ⟨w.heap.size + 1 + 1, 2, none⟩ (.string q3)).setCell ⟨w.heap.size + 1 + 1, 3, none⟩ (.int .i64 q4)).setCell ⟨w.heap.size + 1 + 1, 4, none⟩ (.int .i64 q5)) := by
      intro W hW a' ev hev hd h6 h7
      have g1 : W.heap = (w5.alloc (.cells #[.int .i64 q1, .string q2, .string q3, .int .i64 q4, .int .i64 q5] 41)).heap := by rcases hW with rfl | rfl <;> rfl
      have g2 : Below w.heap.size w W := by
        rcases hW with rfl | rfl
        · exact HB6.out
        · exact HB6.out.trans ((below_drewN _ 1).mono HB6.out.size)
      have hDD : W.heap[D]? = some (.deferred (some [])) := by rw [g1]; exact HD5.out
      refine name_end w _ D ⟨q1, q2, q3, q4, q5⟩ ev a' hd h6 h7 (setNm (x := ⟨q1, q2, q3, q4, q5⟩) (y := zeroNm) (by rw [g1]; exact K2.out)) ?_ hDn ?_ _ ?_
      · iterate 5 refine (Below.heap_setCell _ _ _ _ (by show D ≠ w.heap.size + 1 + 1; omega)).trans ?_
        exact hDD
      · iterate 5 refine Below.setCell ?_ (by show w.heap.size ≤ w.heap.size + 1 + 1; omega) _
        exact g2
      · rw [HJ.out, hev]
        rfl
    have FIN := Lib.hid fin
    clear fin
    by_cases hq : q6 = 0
    · go_wp2_with (fail)
      refine FIN.out _ (.inl rfl) _ .nilIface ?_ ?_ ?_ ?_
      · rw [hq]; rfl
      all_goals rfl
    · go_wp2_with (fail)
      go_region
      all_goals (try go_wp2)
      all_goals refine FIN.out _ (.inr rfl) _ (errV ad) ?_ ?_ ?_ ?_
      all_goals first | rfl | (rw [beq_eq_false_iff_ne.2 hq]; rfl)
end Go.Proofs.YtbjbicaffblchaaGreatDoor.Hand
end
section
namespace Go.Proofs.YtbjbicaffblchaaGreatDoor.SK
open Go.Proofs.YtbjbicaffblchaaGreatDoor.Hand
open Go.Proofs.YtbjbicaffblchaaGreatDoor.SA
open Go.RowKit Go.Proofs.YtbjbicaffblchaaGreatDoorW.PrintWords Go.Proofs.YtbjbicaffblchaaGreatDoorW.PrintLast Go.Proofs.YtbjbicaffblchaaGreatDoorW.PrintMore
attribute [local go_sem] max2_int min2_int max_two min_two max_three min_three max_four min_four
set_option linter.unusedVariables false
set_option linter.unusedSimpArgs false
def slices_Equal_int_int.l0 : Nat → List Int → List Int → Int → Int → Option (Bool)
  | 0, _, _, _, _ => none
  | k + 1, x0, x1, x12, x13 => if x13 < x12 then (if 0 ≤ x13 then (if x13 < (x0.length : Int) then (if x13 < (x1.length : Int) then (if (rd x0 x13) = (rd x1 x13) then (slices_Equal_int_int.l0 k x0 x1 x12 (wrap64 (x13 + 1))) else (some false)) else (none)) else (none)) else (none)) else (some true)
def slices_Equal_int_int.f (k : Nat) (l0 : List Int) (l1 : List Int) : Option (Bool) := if (l0.length : Int) = (l1.length : Int) then (slices_Equal_int_int.l0 k l0 l1 (l0.length : Int) 0) else (some false)
theorem slices_Equal_int_int.mono_l : ∀ k, (∀ y0 y1 y2 y3, LeO (slices_Equal_int_int.l0 k y0 y1 y2 y3) (slices_Equal_int_int.l0 (k + 1) y0 y1 y2 y3))
  | 0 => fun _ _ _ _ r h => by simp [slices_Equal_int_int.l0] at h
  | k + 1 => by
    have ih0 := slices_Equal_int_int.mono_l k
    · intro y0 y1 y2 y3
      unfold slices_Equal_int_int.l0
      repeat' first
      | (with_reducible exact ih0 _ _ _ _)
      | (with_reducible exact LeO.refl _)
      | (with_reducible exact LeO.none _)
      | (with_reducible refine LeO.ite ?_ ?_)
      | (with_reducible refine LeO.bind ?_ (fun _ => ?_))
      | exact ih0 _ _ _ _
      | exact LeO.none _
      | refine LeO.ite ?_ ?_
      | refine LeO.bind ?_ (fun _ => ?_)
theorem slices_Equal_int_int.mono : ∀ a0 a1 k, LeO (slices_Equal_int_int.f k a0 a1) (slices_Equal_int_int.f (k + 1) a0 a1) := by
  intro a0 a1 k
  have ih0 := slices_Equal_int_int.mono_l k
  unfold slices_Equal_int_int.f
  repeat' first
      | (with_reducible exact ih0 _ _ _ _)
      | (with_reducible exact LeO.refl _)
      | (with_reducible exact LeO.none _)
      | (with_reducible refine LeO.ite ?_ ?_)
      | (with_reducible refine LeO.bind ?_ (fun _ => ?_))
      | exact ih0 _ _ _ _
      | exact LeO.none _
      | refine LeO.ite ?_ ?_
      | refine LeO.bind ?_ (fun _ => ?_)
set_option maxHeartbeats 8000000 in
set_option maxRecDepth 100000 in
theorem slices_Equal_int_int.calls (k : Nat) (A0 : Option Addr) (c0 : Nat) (l0 : List Int) (A1 : Option Addr) (c1 : Nat) (l1 : List Int) (r : Bool) (w : World) (hr0 : Kd.C (Kd.int .i64) w A0 l0.length l0) (hc0 : l0.length ≤ c0) (hr1 : Kd.C (Kd.int .i64) w A1 l1.length l1) (hc1 : l1.length ≤ c1) (h : slices_Equal_int_int.f k l0 l1 = some r) :
    Calls Tryz.prog 31 #[.slice A0 l0.length c0, .slice A1 l1.length c1] w fun e w' => e = .returned (.bool r) ∧ Drawn0 w w' := by
  have HR0 := Aside0.mk hr0
  have HC0 := Aside0.mk hc0
  clear hr0 hc0
  have HR1 := Aside0.mk hr1
  have HC1 := Aside0.mk hc1
  clear hr1 hc1
  have H : (if (l0.length : Int) = (l1.length : Int) then (slices_Equal_int_int.l0 k l0 l1 (l0.length : Int) 0) else (some false)) = some r := h
  clear h
  by_cases c3 : (l0.length : Int) = (l1.length : Int)
  · rw [if_pos c3] at H
    have c3b0 : ((l0.length : Int) == (l1.length : Int)) = true := beq_iff_eq.mpr c3
    have c3b1 : ((l0.length : Int) != (l1.length : Int)) = false := bne_eq_false_iff_eq.mpr c3
    have c3b2 : (l0.length == l1.length) = true := by first | simpa using c3 | (simp at c3 ⊢; omega)
    clear c3
    have H' := Aside0.mk H
    clear H
    go_enter Tryz.func31, Tryz.ntmps31
    go_wp2
    repeat (go_quiet (fail); try go_wp2)
    go_loopg [13] k (fun kq v13 w' => ∃ (x13_1 : Int), v13 = .int .i64 x13_1 ∧ Aside0 (slices_Equal_int_int.l0 kq l0 l1 (l0.length : Int) x13_1 = some r) ∧ Aside0 (kq ≤ k) ∧ Drawn0 w w')
    case atStart => exact ⟨(0), (by first | rfl | (simp; done) | (simp [*]; done)), H', ⟨Nat.le_refl _⟩, by repeat (first | exact Drawn0.refl _ | apply Drawn0.step)⟩
    case round =>
      clear H'
      try clear c1
      try clear p2
      try clear c3
      try clear c3b0
      try clear c3b1
      try clear c3b2
      obtain ⟨x13_1, rfl, HA, HK1, ⟨m1, rfl⟩⟩ := hrel
      cases gk with
      | zero => exact absurd HA.out (by simp [slices_Equal_int_int.l0])
      | succ k1 =>
        have H := HA.out
        clear HA
        simp only [slices_Equal_int_int.l0] at H
        by_cases c4 : x13_1 < (l0.length : Int)
        · rw [if_pos c4] at H
          have c4b0 : decide (x13_1 < (l0.length : Int)) = true := decide_eq_true c4
          clear c4
          by_cases c5 : 0 ≤ x13_1
          · rw [if_pos c5] at H
            have c5b0 : decide (0 ≤ x13_1) = true := decide_eq_true c5
            clear c5
            by_cases c6 : x13_1 < (l0.length : Int)
            · rw [if_pos c6] at H
              have c6b0 : decide (x13_1 < (l0.length : Int)) = true := decide_eq_true c6
              clear c6
              by_cases c7 : x13_1 < (l1.length : Int)
              · rw [if_pos c7] at H
                have c7b0 : decide (x13_1 < (l1.length : Int)) = true := decide_eq_true c7
                clear c7
                by_cases c8 : (rd l0 x13_1) = (rd l1 x13_1)
                · rw [if_pos c8] at H
                  have c8b0 : ((rd l0 x13_1) == (rd l1 x13_1)) = true := beq_iff_eq.mpr c8
                  have c8b1 : ((rd l0 x13_1) != (rd l1 x13_1)) = false := bne_eq_false_iff_eq.mpr c8
                  clear c8
                  have H' := Aside0.mk H
                  clear H
                  have p101 : 0 ≤ (x13_1 : Int) := of_decide_eq_true (by first | (with_reducible assumption) | assumption)
                  have q101 : x13_1 < (l0.length : Int) := of_decide_eq_true (by first | (with_reducible assumption) | assumption)
                  obtain ⟨ad101, e101, hx101_0⟩ := Kd.at_int HR0.out x13_1 p101 q101
                  cases e101
                  replace p101 := eq_true p101
                  replace q101 := eq_true q101
                  have p102 : 0 ≤ (x13_1 : Int) := of_decide_eq_true (by first | (with_reducible assumption) | assumption)
                  have q102 : x13_1 < (l1.length : Int) := of_decide_eq_true (by first | (with_reducible assumption) | assumption)
                  obtain ⟨ad102, e102, hx102_0⟩ := Kd.at_int HR1.out x13_1 p102 q102
                  cases e102
                  replace p102 := eq_true p102
                  replace q102 := eq_true q102
                  go_wp2
                  repeat (go_quiet (fail); try go_wp2)
                  go_roundg k1
                  case measure => have := HK1.out; omega
                  case rel => exact ⟨(wrap64 (x13_1 + 1)), (by first | rfl | (simp; done) | (simp [*]; done)), H', ⟨by have := HK1.out; omega⟩, by repeat (first | exact Drawn0.refl _ | apply Drawn0.step)⟩
                · rw [if_neg c8] at H
                  have c8b0 : ((rd l0 x13_1) == (rd l1 x13_1)) = false := beq_eq_false_iff_ne.mpr c8
                  have c8b1 : ((rd l0 x13_1) != (rd l1 x13_1)) = true := bne_iff_ne.mpr c8
                  obtain rfl := Option.some.inj H
                  have p101 : 0 ≤ (x13_1 : Int) := of_decide_eq_true (by first | (with_reducible assumption) | assumption)
                  have q101 : x13_1 < (l0.length : Int) := of_decide_eq_true (by first | (with_reducible assumption) | assumption)
                  obtain ⟨ad101, e101, hx101_0⟩ := Kd.at_int HR0.out x13_1 p101 q101
                  cases e101
                  replace p101 := eq_true p101
                  replace q101 := eq_true q101
                  have p102 : 0 ≤ (x13_1 : Int) := of_decide_eq_true (by first | (with_reducible assumption) | assumption)
                  have q102 : x13_1 < (l1.length : Int) := of_decide_eq_true (by first | (with_reducible assumption) | assumption)
                  obtain ⟨ad102, e102, hx102_0⟩ := Kd.at_int HR1.out x13_1 p102 q102
                  cases e102
                  replace p102 := eq_true p102
                  replace q102 := eq_true q102
                  go_wp2
                  repeat (go_quiet (fail); try go_wp2)
                  all_goals (first | (go_ret; exact ⟨by first | rfl | (simp; done) | (simp [*]; done) | (simp_all; done), by repeat (first | exact Drawn0.refl _ | apply Drawn0.step)⟩) | (exfalso; simp_all; done))
              · rw [if_neg c7] at H
                exact absurd H (by simp)
            · rw [if_neg c6] at H
              exact absurd H (by simp)
          · rw [if_neg c5] at H
            exact absurd H (by simp)
        · rw [if_neg c4] at H
          have c4b0 : decide (x13_1 < (l0.length : Int)) = false := decide_eq_false c4
          clear c4
          obtain rfl := Option.some.inj H
          go_wp2
          repeat (go_quiet (fail); try go_wp2)
          all_goals (first | (go_ret; exact ⟨by first | rfl | (simp; done) | (simp [*]; done) | (simp_all; done), by repeat (first | exact Drawn0.refl _ | apply Drawn0.step)⟩) | (exfalso; simp_all; done))
  · rw [if_neg c3] at H
    have c3b0 : ((l0.length : Int) == (l1.length : Int)) = false := beq_eq_false_iff_ne.mpr c3
    have c3b1 : ((l0.length : Int) != (l1.length : Int)) = true := bne_iff_ne.mpr c3
    have c3b2 : (l0.length == l1.length) = false := by first | simpa using c3 | (simp at c3 ⊢; omega)
    obtain rfl := Option.some.inj H
    go_enter Tryz.func31, Tryz.ntmps31
    go_wp2
    repeat (go_quiet (fail); try go_wp2)
    all_goals (first | (go_ret; exact ⟨by first | rfl | (simp; done) | (simp [*]; done) | (simp_all; done), by repeat (first | exact Drawn0.refl _ | apply Drawn0.step)⟩) | (exfalso; simp_all; done))
def postriderlaw07_Few.l0 : Nat → List (S41) → List (S41) → Int → Option ((List (S41)))
  | 0, _, _, _ => none
  | k + 1, x0, x3, x4 => if x4 < (x0.length : Int) then (if x4 < 32 then (if 0 ≤ x4 then ((postriderlaw06_Cut.f ((rd_T41 x0 x4).f0) ((rd_T41 x0 x4).f1) ((rd_T41 x0 x4).f2) ((rd_T41 x0 x4).f3) ((rd_T41 x0 x4).f4)).bind fun bt104 => (if x3.length < 2513169434916 then (postriderlaw07_Few.l0 k x0 (x3 ++ [(⟨bt104.1, bt104.2.1, bt104.2.2.1, bt104.2.2.2.1, bt104.2.2.2.2⟩ : S41)]) (wrap64 (x4 + 1))) else (none))) else (none)) else (some x3)) else (some x3)
def postriderlaw07_Few.f (k : Nat) (l0 : List (S41)) : Option ((List (S41))) := postriderlaw07_Few.l0 k l0 ([] : List (S41)) 0
theorem postriderlaw07_Few.mono_l : ∀ k, (∀ y0 y1 y2, LeO (postriderlaw07_Few.l0 k y0 y1 y2) (postriderlaw07_Few.l0 (k + 1) y0 y1 y2))
  | 0 => fun _ _ _ r h => by simp [postriderlaw07_Few.l0] at h
  | k + 1 => by
    have ih0 := postriderlaw07_Few.mono_l k
    · intro y0 y1 y2
      unfold postriderlaw07_Few.l0
      repeat' first
      | (with_reducible exact ih0 _ _ _)
      | (with_reducible exact LeO.refl _)
      | (with_reducible exact LeO.none _)
      | (with_reducible refine LeO.ite ?_ ?_)
      | (with_reducible refine LeO.bind ?_ (fun _ => ?_))
      | exact ih0 _ _ _
      | exact LeO.none _
      | refine LeO.ite ?_ ?_
      | refine LeO.bind ?_ (fun _ => ?_)
theorem postriderlaw07_Few.mono : ∀ a0 k, LeO (postriderlaw07_Few.f k a0) (postriderlaw07_Few.f (k + 1) a0) := by
  intro a0 k
  have ih0 := postriderlaw07_Few.mono_l k
  unfold postriderlaw07_Few.f
  repeat' first
      | (with_reducible exact ih0 _ _ _)
      | (with_reducible exact LeO.refl _)
      | (with_reducible exact LeO.none _)
      | (with_reducible refine LeO.ite ?_ ?_)
      | (with_reducible refine LeO.bind ?_ (fun _ => ?_))
      | exact ih0 _ _ _
      | exact LeO.none _
      | refine LeO.ite ?_ ?_
      | refine LeO.bind ?_ (fun _ => ?_)
set_option maxHeartbeats 8000000 in
set_option maxRecDepth 100000 in
theorem postriderlaw07_Few.calls (k : Nat) (A0 : Option Addr) (c0 : Nat) (l0 : List (S41)) (r : List (S41)) (w : World) (hr0 : Kd.C k41 w A0 l0.length l0) (hc0 : l0.length ≤ c0) (h : postriderlaw07_Few.f k l0 = some r) :
    Calls Tryz.prog 9 #[.slice A0 l0.length c0] w fun e w' => ∃ v0_ : Value, e = .returned (v0_) ∧ Kd.R k41 41 w' w.heap.size (fun _ => True) v0_ r ∧ Below w.heap.size w w' := by
  have hu41 := Tryz.underlying41
  have HR0 := Aside0.mk hr0
  have HC0 := Aside0.mk hc0
  clear hr0 hc0
  have HB := Aside0.mk (Below.refl w.heap.size w)
  have H : (postriderlaw07_Few.l0 k l0 ([] : List (S41)) 0) = some r := h
  clear h
  have H' := Aside0.mk H
  clear H
  go_enter Tryz.func9, Tryz.ntmps9
  go_wp2
  go_loopg [3, 4] k (fun kq v3 v4 w' => ∃ (x3_1 : List (S41)) (x4_1 : Int), v4 = .int .i64 x4_1 ∧ Aside0 (postriderlaw07_Few.l0 kq l0 x3_1 x4_1 = some r) ∧ Aside0 (kq ≤ k) ∧ Aside0 (Kd.R k41 41 w' w.heap.size (fun _ => True) v3 x3_1) ∧ Aside0 (Below w.heap.size w w'))
  case atStart => exact ⟨(([] : List (S41))), (0), (by first | rfl | (simp; done) | (simp [*]; done)), H', ⟨Nat.le_refl _⟩, ⟨by first | exact Kd.R_nil _ _ _ _ _ | exact Kd.N_nil _ _ _ _ _ | exact Kd.V_nil _ _ _ _ _ | exact Kd.Q_nil _ _ _ _ _ | exact Kd.S_nil _ _ _ _ _⟩, ⟨by repeat (first | (with_reducible first | exact HB.out | apply below_alloc | apply pw_below_drewN | apply below_drew1) | exact HB.out)⟩⟩
  case round =>
    clear H'
    obtain ⟨x3_1, x4_1, rfl, HA, HK1, HO_3, HB⟩ := hrel
    cases gk with
    | zero => exact absurd HA.out (by simp [postriderlaw07_Few.l0])
    | succ k1 =>
      have H := HA.out
      clear HA
      simp only [postriderlaw07_Few.l0] at H
      by_cases c2 : x4_1 < (l0.length : Int)
      · rw [if_pos c2] at H
        have c2b0 : decide (x4_1 < (l0.length : Int)) = true := decide_eq_true c2
        clear c2
        by_cases c3 : x4_1 < 32
        · rw [if_pos c3] at H
          have c3b0 : decide (x4_1 < 32) = true := decide_eq_true c3
          clear c3
          by_cases c4 : 0 ≤ x4_1
          · rw [if_pos c4] at H
            have c4b0 : decide (0 ≤ x4_1) = true := decide_eq_true c4
            clear c4
            replace H := Option.bind_eq_some_iff.mp H
            obtain ⟨⟨t104, t105, t106, t107, t108⟩, A50, H⟩ := H
            replace H : (if x3_1.length < 2513169434916 then (postriderlaw07_Few.l0 k1 l0 (x3_1 ++ [(⟨t104, t105, t106, t107, t108⟩ : S41)]) (wrap64 (x4_1 + 1))) else (none)) = some r := H
            have A5 := Aside0.mk A50
            clear A50
            by_cases c6 : x3_1.length < 2513169434916
            · rw [if_pos c6] at H
              have LMc6 := Aside0.mk c6
              clear c6
              obtain ⟨y109, hy109⟩ : ∃ y_ : List (S41), y_ = (x3_1 ++ [(⟨t104, t105, t106, t107, t108⟩ : S41)]) := ⟨_, rfl⟩
              replace H : (postriderlaw07_Few.l0 k1 l0 y109 (wrap64 (x4_1 + 1))) = some r := by first | (rw [hy109]; with_reducible exact H) | (have H2_ := (Option.bind_some _ _).symm.trans H; rw [hy109]; with_reducible exact H2_) | (have H2_ := (Option.bind_some _ _).symm.trans H; with_reducible exact H2_) | with_reducible exact H | (rw [hy109]; exact H) | exact H
              have Ny109 := Aside0.mk hy109
              clear hy109
              have H' := Aside0.mk H
              clear H
              have p103 : 0 ≤ (x4_1 : Int) := of_decide_eq_true (by first | (with_reducible assumption) | assumption)
              have q103 : x4_1 < (l0.length : Int) := of_decide_eq_true (by first | (with_reducible assumption) | assumption)
              obtain ⟨ad103, e103, hx103_0, hx103_1, hx103_2, hx103_3, hx103_4⟩ := at_T41 HR0.out x4_1 p103 q103
              cases e103
              replace hx103_0 := (HB.out.cell (World.block_lt_of_cell? w _ hx103_0)).trans hx103_0
              replace hx103_1 := (HB.out.cell (World.block_lt_of_cell? w _ hx103_1)).trans hx103_1
              replace hx103_2 := (HB.out.cell (World.block_lt_of_cell? w _ hx103_2)).trans hx103_2
              replace hx103_3 := (HB.out.cell (World.block_lt_of_cell? w _ hx103_3)).trans hx103_3
              replace hx103_4 := (HB.out.cell (World.block_lt_of_cell? w _ hx103_4)).trans hx103_4
              replace p103 := eq_true p103
              replace q103 := eq_true q103
              go_wp2_with (first | ((with_reducible refine gate_callee (f := 21) rfl ?_); refine goesL_ (some 20) rfl rfl Tryz.func21 (by kernel_rfl) rfl #[.agg #[.int .i64 ((rd_T41 l0 x4_1).f0), .string ((rd_T41 l0 x4_1).f1), .string ((rd_T41 l0 x4_1).f2), .int .i64 ((rd_T41 l0 x4_1).f3), .int .i64 ((rd_T41 l0 x4_1).f4)]] rfl (by (try simp only [List.map_toArray, List.map_cons, List.map_nil]); first | done | rfl | (simp only [List.length_drop, List.length_take]; rfl)) ?_; (with_reducible refine (postriderlaw06_Cut.calls ((rd_T41 l0 x4_1).f0) ((rd_T41 l0 x4_1).f1) ((rd_T41 l0 x4_1).f2) ((rd_T41 l0 x4_1).f3) ((rd_T41 l0 x4_1).f4) t104 t105 t106 t107 t108 _ A5.out).mono ?_); rintro e w7 ⟨rfl, hb⟩; refine ⟨_, rfl, ?_⟩; have n0_ := Aside0.mk (Kd.R_below (by (with_reducible repeat (first | apply Kd.R_alloc | apply Kd.R_drewN | apply Kd.R_drew)); exact HO_3.out) hb); have n1_ := Aside0.mk (below_step (by repeat (first | (with_reducible first | exact HB.out | apply below_alloc | apply pw_below_drewN | apply below_drew1) | exact HB.out)) hb); clear HO_3; clear HB; have HO_3 := n0_; have HB := n1_; clear n0_ n1_; (try clear hb); (try clear hb2); (try clear hk); (try clear hi)) | ((with_reducible refine gate_builtin (b := .append) (xs := #[.tmp 15, .tmp 21]) rfl ?_); at_builtin; refine Kd.R_append k41 (w0 := w) w.heap.size rfl (.tmp 15) (.tmp 21) 22 41 (.agg #[(.int .i64 0), (.string ⟨#[]⟩), (.string ⟨#[]⟩), (.int .i64 0), (.int .i64 0)]) 56 rfl Tryz.underlying22 info41 rfl (by decide) (by omega) u3 x3_1 (⟨t104, t105, t106, t107, t108⟩ : S41) [.int .i64 t104, .string t105, .string t106, .int .i64 t107, .int .i64 t108] (fun _ => True) (fun _ => False) rfl rfl ?aP (fun _ hk => hk.elim) ?aF ?aO ?aB ?aS ?aL ?_; (case aP => exact k41_mkM _ _ _ (⟨t104, t105, t106, t107, t108⟩ : S41)); (case aB => exact (by repeat (first | (with_reducible first | exact HB.out | apply below_alloc | apply pw_below_drewN | apply below_drew1) | exact HB.out))); (case aF => exact (fun _ _ => trivial)); (case aO => exact (by (with_reducible repeat (first | apply Kd.R_alloc | apply Kd.R_drewN | apply Kd.R_drew)); exact HO_3.out)); (case aS => exact (below_size (by repeat (first | (with_reducible first | exact HB.out | apply below_alloc | apply pw_below_drewN | apply below_drew1) | exact HB.out)))); (case aL => have := LMc6.out; omega); intro v110 w8 ho hb hg hat; rw [← Ny109.out] at ho; have n0_ := Aside0.mk (hb); have n1_ := Aside0.mk (ho); clear HB; clear HO_3; have HB := n0_; have HO111 := n1_; clear n0_ n1_; clear ho hb hg hat))
              go_roundg k1
              case measure => have := HK1.out; omega
              case rel => exact ⟨(y109), (wrap64 (x4_1 + 1)), (by first | rfl | (simp; done) | (simp [*]; done)), H', ⟨by have := HK1.out; omega⟩, ⟨by (with_reducible repeat (first | apply Kd.R_alloc | apply Kd.R_drewN | apply Kd.R_drew)); exact HO111.out⟩, ⟨by repeat (first | (with_reducible first | exact HB.out | apply below_alloc | apply pw_below_drewN | apply below_drew1) | exact HB.out)⟩⟩
            · rw [if_neg c6] at H
              exact absurd H (by simp)
          · rw [if_neg c4] at H
            exact absurd H (by simp)
        · rw [if_neg c3] at H
          have c3b0 : decide (x4_1 < 32) = false := decide_eq_false c3
          clear c3
          obtain rfl := Option.some.inj H
          go_wp2
          go_ret
          exact ⟨_, by first | rfl | (simp [errW_none, errW_some] <;> rfl) | (simp [*, errW_none, errW_some] <;> rfl), by (with_reducible repeat (first | apply Kd.R_alloc | apply Kd.R_drewN | apply Kd.R_drew)); exact HO_3.out, by repeat (first | (with_reducible first | exact HB.out | apply below_alloc | apply pw_below_drewN | apply below_drew1) | exact HB.out)⟩
      · rw [if_neg c2] at H
        have c2b0 : decide (x4_1 < (l0.length : Int)) = false := decide_eq_false c2
        clear c2
        obtain rfl := Option.some.inj H
        go_wp2
        go_ret
        exact ⟨_, by first | rfl | (simp [errW_none, errW_some] <;> rfl) | (simp [*, errW_none, errW_some] <;> rfl), by (with_reducible repeat (first | apply Kd.R_alloc | apply Kd.R_drewN | apply Kd.R_drew)); exact HO_3.out, by repeat (first | (with_reducible first | exact HB.out | apply below_alloc | apply pw_below_drewN | apply below_drew1) | exact HB.out)⟩
def postriderlaw07_cut.f (a0 : ByteArray) : Option (ByteArray) := if 0 ≤ (mn (a0.size : Int) 900) then (if (mn (a0.size : Int) 900) ≤ (a0.size : Int) then (some (a0.extract 0 ((mn (a0.size : Int) 900) : Int).toNat)) else (none)) else (none)
set_option maxHeartbeats 8000000 in
set_option maxRecDepth 100000 in
theorem postriderlaw07_cut.calls (a0 : ByteArray) (r : ByteArray) (w : World) (h : postriderlaw07_cut.f a0 = some r) :
    Calls Tryz.prog 10 #[.string a0] w fun e w' => e = .returned (.string r) ∧ Below w.heap.size w w' := by
  have HB := Aside0.mk (Below.refl w.heap.size w)
  have H : (if 0 ≤ (mn (a0.size : Int) 900) then (if (mn (a0.size : Int) 900) ≤ (a0.size : Int) then (some (a0.extract 0 ((mn (a0.size : Int) 900) : Int).toNat)) else (none)) else (none)) = some r := h
  clear h
  obtain ⟨ji2, hji2⟩ : ∃ j_ : Int, (mn (a0.size : Int) 900) = j_ := ⟨_, rfl⟩
  replace H : (if 0 ≤ (ji2) then (if (ji2) ≤ (a0.size : Int) then (some (a0.extract 0 ((ji2) : Int).toNat)) else (none)) else (none)) = some r := by first | (rw [hji2] at H; exact H) | (simp only [hji2] at H ⊢; exact H)
  (try (have hji2h : ji2 ≤ 900 := by (rw [← hji2]; unfold mn; (repeat' split) <;> omega)))
  (try (have hji2g : ji2 ≤ 64 := by omega))
  (try (have hji2l : 0 ≤ ji2 := by (rw [← hji2]; unfold mn; (repeat' split) <;> omega)))
  (try (have hji2m : 0 ≤ ji2 := by omega))
  have hji2_ : (if 900 < (a0.size : Int) then 900 else (a0.size : Int)) = ji2 := hji2
  by_cases c3 : 0 ≤ (ji2)
  · rw [if_pos c3] at H
    have c3b0 := eq_true c3
    have c3b1 : decide (0 ≤ (ji2)) = true := decide_eq_true c3
    clear c3
    by_cases c4 : (ji2) ≤ (a0.size : Int)
    · rw [if_pos c4] at H
      have c4b0 := eq_true c4
      have c4b1 : decide ((ji2) ≤ (a0.size : Int)) = true := decide_eq_true c4
      clear c4
      obtain rfl := Option.some.inj H
      go_enter Tryz.func10, Tryz.ntmps10
      go_wp2
      all_goals (first | (go_ret; exact ⟨by first | rfl | (simp [errW_none, errW_some] <;> rfl) | (simp only [← hji2]; first | rfl | (simp [errW_none, errW_some] <;> rfl)) | (simp [*, errW_none, errW_some] <;> rfl) | (simp_all; done), by repeat (first | (with_reducible first | exact HB.out | apply below_alloc | apply pw_below_drewN | apply below_drew1) | exact HB.out)⟩) | (exfalso; simp_all; done))
    · rw [if_neg c4] at H
      exact absurd H (by simp)
  · rw [if_neg c3] at H
    exact absurd H (by simp)
def postriderlaw07_few.f (l0 : List Int) : Option (List Int) := if 0 ≤ (mn (l0.length : Int) 63) then (if (mn (l0.length : Int) 63) ≤ (l0.length : Int) then (some (l0.take ((mn (l0.length : Int) 63) : Int).toNat)) else (none)) else (none)
set_option maxHeartbeats 8000000 in
set_option maxRecDepth 100000 in
theorem postriderlaw07_few.calls (P0_ : Nat → Prop) (u9000_ : Value) (l0 : List Int) (r : List Int) (w0 w : World) (hB : Below w0.heap.size w0 w) (ho0 : Kd.R (Kd.int .i64) 3 w w0.heap.size P0_ u9000_ l0) (h : postriderlaw07_few.f l0 = some r) :
    Calls Tryz.prog 11 #[u9000_] w fun e w' => ∃ v0_ : Value, e = .returned (v0_) ∧ Kd.R (Kd.int .i64) 3 w' w0.heap.size (fun k_ => (P0_ k_ ∨ w.heap.size ≤ k_)) v0_ r ∧ Below w0.heap.size w0 w' ∧ Kept w w' (fun k_ => P0_ k_) := by
  have HO0 := Aside0.mk (show Kd.R (Kd.int .i64) 3 w w0.heap.size (fun k_ => (P0_ k_ ∨ w.heap.size ≤ k_)) u9000_ l0 from Kd.R_mono ho0 (fun k_ hk => (.inl hk)))
  have HK := Aside0.mk (Kept.refl w (fun k_ => P0_ k_))
  have HW0 := Aside0.mk hB.size
  have HB := Aside0.mk hB
  clear hB
  have H : (if 0 ≤ (mn (l0.length : Int) 63) then (if (mn (l0.length : Int) 63) ≤ (l0.length : Int) then (some (l0.take ((mn (l0.length : Int) 63) : Int).toNat)) else (none)) else (none)) = some r := h
  clear h
  obtain ⟨ji2, hji2⟩ : ∃ j_ : Int, (mn (l0.length : Int) 63) = j_ := ⟨_, rfl⟩
  replace H : (if 0 ≤ (ji2) then (if (ji2) ≤ (l0.length : Int) then (some (l0.take ((ji2) : Int).toNat)) else (none)) else (none)) = some r := by first | (rw [hji2] at H; exact H) | (simp only [hji2] at H ⊢; exact H)
  (try (have hji2h : ji2 ≤ 63 := by (rw [← hji2]; unfold mn; (repeat' split) <;> omega)))
  (try (have hji2g : ji2 ≤ 64 := by omega))
  (try (have hji2l : 0 ≤ ji2 := by (rw [← hji2]; unfold mn; (repeat' split) <;> omega)))
  (try (have hji2m : 0 ≤ ji2 := by omega))
  have hji2_ : (if 63 < (l0.length : Int) then 63 else (l0.length : Int)) = ji2 := hji2
  by_cases c3 : 0 ≤ (ji2)
  · rw [if_pos c3] at H
    have c3b0 := eq_true c3
    have c3b1 : decide (0 ≤ (ji2)) = true := decide_eq_true c3
    clear c3
    by_cases c4 : (ji2) ≤ (l0.length : Int)
    · rw [if_pos c4] at H
      have c4b0 := eq_true c4
      have c4b1 : decide ((ji2) ≤ (l0.length : Int)) = true := decide_eq_true c4
      clear c4
      obtain ⟨y112, hy112⟩ : ∃ y_ : List Int, y_ = (l0.take ((ji2) : Int).toNat) := ⟨_, rfl⟩
      replace H : (some y112) = some r := by first | (rw [hy112]; with_reducible exact H) | (have H2_ := (Option.bind_some _ _).symm.trans H; rw [hy112]; with_reducible exact H2_) | (have H2_ := (Option.bind_some _ _).symm.trans H; with_reducible exact H2_) | with_reducible exact H | (rw [hy112]; exact H) | exact H
      have Ny112 := Aside0.mk hy112
      clear hy112
      obtain rfl := Option.some.inj H
      obtain ⟨Ao5, co5, eo5⟩ := Kd.R_slice HO0.out
      subst eo5
      have q6 : ((ji2) : Int) ≤ ((l0.length : Int) : Int) := of_decide_eq_true (by first | (with_reducible assumption) | assumption)
      obtain ⟨i06, hi06, _, hsz6, _⟩ := info_parts info3
      have hcut6 := cut_to (P := Tryz.prog) 23 3 .i64 Tryz.underlying23 hi06 Ao5 l0.length co5 (ji2) (of_decide_eq_true (by first | (with_reducible assumption) | assumption)) q6 (Kd.R_reads' HO0.out).2.1
      have hr6 := Kd.R_take (m := ((ji2) : Int).toNat) HO0.out (by omega)
      have hy6 : y112.length = ((ji2) : Int).toNat := (by rw [Ny112.out, List.length_take]; omega)
      rw [← Ny112.out] at hr6
      rw [← hy6] at hr6 hcut6
      clear hy6 hi06 hsz6 HO0
      have HO114 := Aside0.mk hr6
      clear hr6
      replace q6 := eq_true q6
      go_enter Tryz.func11, Tryz.ntmps11
      go_wp2
      go_ret
      exact ⟨_, by first | rfl | (simp [errW_none, errW_some] <;> rfl) | (simp only [← hji2]; first | rfl | (simp [errW_none, errW_some] <;> rfl)) | (simp [*, errW_none, errW_some] <;> rfl), by (with_reducible repeat (first | apply Kd.R_alloc | apply Kd.R_drewN | apply Kd.R_drew)); exact HO114.out, by repeat (first | (with_reducible first | exact HB.out | apply below_alloc | apply pw_below_drewN | apply below_drew1) | exact HB.out), by repeat (first | (with_reducible first | exact HK.out | apply Kept.alloc | apply Kept.drewN | apply Kept.drew) | exact HK.out)⟩
    · rw [if_neg c4] at H
      exact absurd H (by simp)
  · rw [if_neg c3] at H
    exact absurd H (by simp)
def postriderlaw07_stands.f (a0 : ByteArray) (a1 : Int) (a2 : ByteArray) : Option (Bool) := if a1 < 0 then (some false) else (if (wrap64 (a1 + (a2.size : Int))) ≥ (a0.size : Int) then (some false) else (if a1 > 0 then (if 0 ≤ (wrap64 (a1 - 1)) then (if (wrap64 (a1 - 1)) < (a0.size : Int) then (if (bt a0 (wrap64 (a1 - 1))) = 0 then (if 0 ≤ a1 then (if a1 ≤ (wrap64 (a1 + (a2.size : Int))) then (if (wrap64 (a1 + (a2.size : Int))) ≤ (a0.size : Int) then (if (a0.extract (a1 : Int).toNat ((wrap64 (a1 + (a2.size : Int))) : Int).toNat).toList = a2.toList then (if 0 ≤ (wrap64 (a1 + (a2.size : Int))) then (if (wrap64 (a1 + (a2.size : Int))) < (a0.size : Int) then (some ((bt a0 (wrap64 (a1 + (a2.size : Int)))) == 0)) else (none)) else (none)) else (some false)) else (none)) else (none)) else (none)) else (some false)) else (none)) else (none)) else (if 0 ≤ a1 then (if a1 ≤ (wrap64 (a1 + (a2.size : Int))) then (if (wrap64 (a1 + (a2.size : Int))) ≤ (a0.size : Int) then (if (a0.extract (a1 : Int).toNat ((wrap64 (a1 + (a2.size : Int))) : Int).toNat).toList = a2.toList then (if 0 ≤ (wrap64 (a1 + (a2.size : Int))) then (if (wrap64 (a1 + (a2.size : Int))) < (a0.size : Int) then (some ((bt a0 (wrap64 (a1 + (a2.size : Int)))) == 0)) else (none)) else (none)) else (some false)) else (none)) else (none)) else (none))))
set_option maxHeartbeats 8000000 in
set_option maxRecDepth 100000 in
theorem postriderlaw07_stands.calls (a0 : ByteArray) (a1 : Int) (a2 : ByteArray) (r : Bool) (w : World) (h : postriderlaw07_stands.f a0 a1 a2 = some r) :
    Calls Tryz.prog 23 #[.string a0, .int .i64 a1, .string a2] w fun e w' => e = .returned (.bool r) ∧ Drawn0 w w' := by
  have H : (if a1 < 0 then (some false) else (if (wrap64 (a1 + (a2.size : Int))) ≥ (a0.size : Int) then (some false) else (if a1 > 0 then (if 0 ≤ (wrap64 (a1 - 1)) then (if (wrap64 (a1 - 1)) < (a0.size : Int) then (if (bt a0 (wrap64 (a1 - 1))) = 0 then (if 0 ≤ a1 then (if a1 ≤ (wrap64 (a1 + (a2.size : Int))) then (if (wrap64 (a1 + (a2.size : Int))) ≤ (a0.size : Int) then (if (a0.extract (a1 : Int).toNat ((wrap64 (a1 + (a2.size : Int))) : Int).toNat).toList = a2.toList then (if 0 ≤ (wrap64 (a1 + (a2.size : Int))) then (if (wrap64 (a1 + (a2.size : Int))) < (a0.size : Int) then (some ((bt a0 (wrap64 (a1 + (a2.size : Int)))) == 0)) else (none)) else (none)) else (some false)) else (none)) else (none)) else (none)) else (some false)) else (none)) else (none)) else (if 0 ≤ a1 then (if a1 ≤ (wrap64 (a1 + (a2.size : Int))) then (if (wrap64 (a1 + (a2.size : Int))) ≤ (a0.size : Int) then (if (a0.extract (a1 : Int).toNat ((wrap64 (a1 + (a2.size : Int))) : Int).toNat).toList = a2.toList then (if 0 ≤ (wrap64 (a1 + (a2.size : Int))) then (if (wrap64 (a1 + (a2.size : Int))) < (a0.size : Int) then (some ((bt a0 (wrap64 (a1 + (a2.size : Int)))) == 0)) else (none)) else (none)) else (some false)) else (none)) else (none)) else (none))))) = some r := h
  clear h
  by_cases c4 : a1 < 0
  · rw [if_pos c4] at H
    have c4b0 : decide (a1 < 0) = true := decide_eq_true c4
    clear c4
    obtain rfl := Option.some.inj H
    go_enter Tryz.func23, Tryz.ntmps23
    go_wp2
    all_goals (first | (go_ret; exact ⟨by first | rfl | (simp; done) | (simp [*]; done) | (simp_all; done), by repeat (first | exact Drawn0.refl _ | apply Drawn0.step)⟩) | (exfalso; simp_all; done))
  · rw [if_neg c4] at H
    have c4b0 : decide (a1 < 0) = false := decide_eq_false c4
    clear c4
    by_cases c5 : (wrap64 (a1 + (a2.size : Int))) ≥ (a0.size : Int)
    · rw [if_pos c5] at H
      have c5b0 : decide ((a0.size : Int) ≤ (wrap64 (a1 + (a2.size : Int)))) = true := decide_eq_true c5
      clear c5
      obtain rfl := Option.some.inj H
      go_enter Tryz.func23, Tryz.ntmps23
      go_wp2
      all_goals (first | (go_ret; exact ⟨by first | rfl | (simp; done) | (simp [*]; done) | (simp_all; done), by repeat (first | exact Drawn0.refl _ | apply Drawn0.step)⟩) | (exfalso; simp_all; done))
    · rw [if_neg c5] at H
      have c5b0 : decide ((a0.size : Int) ≤ (wrap64 (a1 + (a2.size : Int)))) = false := decide_eq_false c5
      clear c5
      by_cases c6 : a1 > 0
      · rw [if_pos c6] at H
        have c6b0 : decide (0 < a1) = true := decide_eq_true c6
        clear c6
        obtain ⟨ji7, hji7⟩ : ∃ j_ : Int, (wrap64 (a1 - 1)) = j_ := ⟨_, rfl⟩
        replace H : (if 0 ≤ (ji7) then (if (ji7) < (a0.size : Int) then (if (bt a0 (ji7)) = 0 then (if 0 ≤ a1 then (if a1 ≤ (wrap64 (a1 + (a2.size : Int))) then (if (wrap64 (a1 + (a2.size : Int))) ≤ (a0.size : Int) then (if (a0.extract (a1 : Int).toNat ((wrap64 (a1 + (a2.size : Int))) : Int).toNat).toList = a2.toList then (if 0 ≤ (wrap64 (a1 + (a2.size : Int))) then (if (wrap64 (a1 + (a2.size : Int))) < (a0.size : Int) then (some ((bt a0 (wrap64 (a1 + (a2.size : Int)))) == 0)) else (none)) else (none)) else (some false)) else (none)) else (none)) else (none)) else (some false)) else (none)) else (none)) = some r := by first | (rw [hji7] at H; exact H) | (simp only [hji7] at H ⊢; exact H)
        have hji7w : (IntKind.i64.wrap (a1 - 1)) = ji7 := (i64_w _).trans hji7
        by_cases c8 : 0 ≤ (ji7)
        · rw [if_pos c8] at H
          have c8b0 : decide (0 ≤ (ji7)) = true := decide_eq_true c8
          clear c8
          by_cases c9 : (ji7) < (a0.size : Int)
          · rw [if_pos c9] at H
            have c9b0 : decide ((ji7) < (a0.size : Int)) = true := decide_eq_true c9
            clear c9
            by_cases c11 : (bt a0 (ji7)) = 0
            · rw [if_pos c11] at H
              have c11b0 : ((bt a0 (ji7)) == 0) = true := beq_iff_eq.mpr c11
              have c11b1 : ((bt a0 (ji7)) != 0) = false := bne_eq_false_iff_eq.mpr c11
              clear c11
              by_cases c12 : 0 ≤ a1
              · rw [if_pos c12] at H
                have c12b0 := eq_true c12
                have c12b1 : decide (0 ≤ a1) = true := decide_eq_true c12
                clear c12
                by_cases c13 : a1 ≤ (wrap64 (a1 + (a2.size : Int)))
                · rw [if_pos c13] at H
                  have c13b0 := eq_true c13
                  have c13b1 : decide (a1 ≤ (wrap64 (a1 + (a2.size : Int)))) = true := decide_eq_true c13
                  by_cases c14 : (wrap64 (a1 + (a2.size : Int))) ≤ (a0.size : Int)
                  · rw [if_pos c14] at H
                    have c14b0 := eq_true c14
                    have c14b1 : decide ((wrap64 (a1 + (a2.size : Int))) ≤ (a0.size : Int)) = true := decide_eq_true c14
                    by_cases c15 : (a0.extract (a1 : Int).toNat ((wrap64 (a1 + (a2.size : Int))) : Int).toNat).toList = a2.toList
                    · rw [if_pos c15] at H
                      have c15b0 : ((a0.extract (a1 : Int).toNat ((wrap64 (a1 + (a2.size : Int))) : Int).toNat).toList == a2.toList) = true := beq_iff_eq.mpr c15
                      have c15b1 : ((a0.extract (a1 : Int).toNat ((wrap64 (a1 + (a2.size : Int))) : Int).toNat).toList != a2.toList) = false := bne_eq_false_iff_eq.mpr c15
                      clear c15
                      obtain ⟨ji16, hji16⟩ : ∃ j_ : Int, (wrap64 (a1 + (a2.size : Int))) = j_ := ⟨_, rfl⟩
                      replace H : (if 0 ≤ (ji16) then (if (ji16) < (a0.size : Int) then (some ((bt a0 (ji16)) == 0)) else (none)) else (none)) = some r := by first | (rw [hji16] at H; exact H) | (simp only [hji16] at H ⊢; exact H)
                      (try rw [hji16] at c5b0)
                      (try rw [hji16] at c13b0)
                      (try rw [hji16] at c13b1)
                      (try rw [hji16] at c13)
                      (try rw [hji16] at c14b0)
                      (try rw [hji16] at c14b1)
                      (try rw [hji16] at c14)
                      (try rw [hji16] at c15b0)
                      (try rw [hji16] at c15b1)
                      have hji16w : (IntKind.i64.wrap (a1 + (a2.size : Int))) = ji16 := (i64_w _).trans hji16
                      by_cases c17 : 0 ≤ (ji16)
                      · rw [if_pos c17] at H
                        have c17b0 : decide (0 ≤ (ji16)) = true := decide_eq_true c17
                        clear c17
                        by_cases c18 : (ji16) < (a0.size : Int)
                        · rw [if_pos c18] at H
                          have c18b0 : decide ((ji16) < (a0.size : Int)) = true := decide_eq_true c18
                          clear c18
                          obtain rfl := Option.some.inj H
                          have p10 : 0 ≤ ((ji7) : Int) := of_decide_eq_true (by first | (with_reducible assumption) | assumption)
                          have q10 : (ji7) < (a0.size : Int) := of_decide_eq_true (by first | (with_reducible assumption) | assumption)
                          have hx10 := bt_at a0 (ji7)
                          replace p10 := eq_true p10
                          replace q10 := eq_true q10
                          have p19 : 0 ≤ ((ji16) : Int) := of_decide_eq_true (by first | (with_reducible assumption) | assumption)
                          have q19 : (ji16) < (a0.size : Int) := of_decide_eq_true (by first | (with_reducible assumption) | assumption)
                          have hx19 := bt_at a0 (ji16)
                          replace p19 := eq_true p19
                          replace q19 := eq_true q19
                          go_enter Tryz.func23, Tryz.ntmps23
                          go_wp2
                          all_goals (first | (go_ret; exact ⟨by first | rfl | (simp; done) | (simp only [← hji7, ← hji16] <;> (first | rfl | simp)) | (simp [*]; done) | (simp_all; done), by repeat (first | exact Drawn0.refl _ | apply Drawn0.step)⟩) | (exfalso; simp_all; done))
                        · rw [if_neg c18] at H
                          exact absurd H (by simp)
                      · rw [if_neg c17] at H
                        exact absurd H (by simp)
                    · rw [if_neg c15] at H
                      have c15b0 : ((a0.extract (a1 : Int).toNat ((wrap64 (a1 + (a2.size : Int))) : Int).toNat).toList == a2.toList) = false := beq_eq_false_iff_ne.mpr c15
                      have c15b1 : ((a0.extract (a1 : Int).toNat ((wrap64 (a1 + (a2.size : Int))) : Int).toNat).toList != a2.toList) = true := bne_iff_ne.mpr c15
                      obtain rfl := Option.some.inj H
                      have p10 : 0 ≤ ((ji7) : Int) := of_decide_eq_true (by first | (with_reducible assumption) | assumption)
                      have q10 : (ji7) < (a0.size : Int) := of_decide_eq_true (by first | (with_reducible assumption) | assumption)
                      have hx10 := bt_at a0 (ji7)
                      replace p10 := eq_true p10
                      replace q10 := eq_true q10
                      go_enter Tryz.func23, Tryz.ntmps23
                      go_wp2
                      all_goals (first | (go_ret; exact ⟨by first | rfl | (simp; done) | (simp only [← hji7] <;> (first | rfl | simp)) | (simp [*]; done) | (simp_all; done), by repeat (first | exact Drawn0.refl _ | apply Drawn0.step)⟩) | (exfalso; simp_all; done))
                  · rw [if_neg c14] at H
                    exact absurd H (by simp)
                · rw [if_neg c13] at H
                  exact absurd H (by simp)
              · rw [if_neg c12] at H
                exact absurd H (by simp)
            · rw [if_neg c11] at H
              have c11b0 : ((bt a0 (ji7)) == 0) = false := beq_eq_false_iff_ne.mpr c11
              have c11b1 : ((bt a0 (ji7)) != 0) = true := bne_iff_ne.mpr c11
              obtain rfl := Option.some.inj H
              have p10 : 0 ≤ ((ji7) : Int) := of_decide_eq_true (by first | (with_reducible assumption) | assumption)
              have q10 : (ji7) < (a0.size : Int) := of_decide_eq_true (by first | (with_reducible assumption) | assumption)
              have hx10 := bt_at a0 (ji7)
              replace p10 := eq_true p10
              replace q10 := eq_true q10
              go_enter Tryz.func23, Tryz.ntmps23
              go_wp2
              all_goals (first | (go_ret; exact ⟨by first | rfl | (simp; done) | (simp only [← hji7] <;> (first | rfl | simp)) | (simp [*]; done) | (simp_all; done), by repeat (first | exact Drawn0.refl _ | apply Drawn0.step)⟩) | (exfalso; simp_all; done))
          · rw [if_neg c9] at H
            exact absurd H (by simp)
        · rw [if_neg c8] at H
          exact absurd H (by simp)
      · rw [if_neg c6] at H
        have c6b0 : decide (0 < a1) = false := decide_eq_false c6
        clear c6
        by_cases c20 : 0 ≤ a1
        · rw [if_pos c20] at H
          have c20b0 := eq_true c20
          have c20b1 : decide (0 ≤ a1) = true := decide_eq_true c20
          clear c20
          by_cases c21 : a1 ≤ (wrap64 (a1 + (a2.size : Int)))
          · rw [if_pos c21] at H
            have c21b0 := eq_true c21
            have c21b1 : decide (a1 ≤ (wrap64 (a1 + (a2.size : Int)))) = true := decide_eq_true c21
            by_cases c22 : (wrap64 (a1 + (a2.size : Int))) ≤ (a0.size : Int)
            · rw [if_pos c22] at H
              have c22b0 := eq_true c22
              have c22b1 : decide ((wrap64 (a1 + (a2.size : Int))) ≤ (a0.size : Int)) = true := decide_eq_true c22
              by_cases c23 : (a0.extract (a1 : Int).toNat ((wrap64 (a1 + (a2.size : Int))) : Int).toNat).toList = a2.toList
              · rw [if_pos c23] at H
                have c23b0 : ((a0.extract (a1 : Int).toNat ((wrap64 (a1 + (a2.size : Int))) : Int).toNat).toList == a2.toList) = true := beq_iff_eq.mpr c23
                have c23b1 : ((a0.extract (a1 : Int).toNat ((wrap64 (a1 + (a2.size : Int))) : Int).toNat).toList != a2.toList) = false := bne_eq_false_iff_eq.mpr c23
                clear c23
                obtain ⟨ji24, hji24⟩ : ∃ j_ : Int, (wrap64 (a1 + (a2.size : Int))) = j_ := ⟨_, rfl⟩
                replace H : (if 0 ≤ (ji24) then (if (ji24) < (a0.size : Int) then (some ((bt a0 (ji24)) == 0)) else (none)) else (none)) = some r := by first | (rw [hji24] at H; exact H) | (simp only [hji24] at H ⊢; exact H)
                (try rw [hji24] at c5b0)
                (try rw [hji24] at c21b0)
                (try rw [hji24] at c21b1)
                (try rw [hji24] at c21)
                (try rw [hji24] at c22b0)
                (try rw [hji24] at c22b1)
                (try rw [hji24] at c22)
                (try rw [hji24] at c23b0)
                (try rw [hji24] at c23b1)
                have hji24w : (IntKind.i64.wrap (a1 + (a2.size : Int))) = ji24 := (i64_w _).trans hji24
                by_cases c25 : 0 ≤ (ji24)
                · rw [if_pos c25] at H
                  have c25b0 : decide (0 ≤ (ji24)) = true := decide_eq_true c25
                  clear c25
                  by_cases c26 : (ji24) < (a0.size : Int)
                  · rw [if_pos c26] at H
                    have c26b0 : decide ((ji24) < (a0.size : Int)) = true := decide_eq_true c26
                    clear c26
                    obtain rfl := Option.some.inj H
                    have p27 : 0 ≤ ((ji24) : Int) := of_decide_eq_true (by first | (with_reducible assumption) | assumption)
                    have q27 : (ji24) < (a0.size : Int) := of_decide_eq_true (by first | (with_reducible assumption) | assumption)
                    have hx27 := bt_at a0 (ji24)
                    replace p27 := eq_true p27
                    replace q27 := eq_true q27
                    go_enter Tryz.func23, Tryz.ntmps23
                    go_wp2
                    all_goals (first | (go_ret; exact ⟨by first | rfl | (simp; done) | (simp only [← hji24] <;> (first | rfl | simp)) | (simp [*]; done) | (simp_all; done), by repeat (first | exact Drawn0.refl _ | apply Drawn0.step)⟩) | (exfalso; simp_all; done))
                  · rw [if_neg c26] at H
                    exact absurd H (by simp)
                · rw [if_neg c25] at H
                  exact absurd H (by simp)
              · rw [if_neg c23] at H
                have c23b0 : ((a0.extract (a1 : Int).toNat ((wrap64 (a1 + (a2.size : Int))) : Int).toNat).toList == a2.toList) = false := beq_eq_false_iff_ne.mpr c23
                have c23b1 : ((a0.extract (a1 : Int).toNat ((wrap64 (a1 + (a2.size : Int))) : Int).toNat).toList != a2.toList) = true := bne_iff_ne.mpr c23
                obtain rfl := Option.some.inj H
                go_enter Tryz.func23, Tryz.ntmps23
                go_wp2
                all_goals (first | (go_ret; exact ⟨by first | rfl | (simp; done) | (simp [*]; done) | (simp_all; done), by repeat (first | exact Drawn0.refl _ | apply Drawn0.step)⟩) | (exfalso; simp_all; done))
            · rw [if_neg c22] at H
              exact absurd H (by simp)
          · rw [if_neg c21] at H
            exact absurd H (by simp)
        · rw [if_neg c20] at H
          exact absurd H (by simp)
def postriderref07_SameTexts.l0 : Nat → List ByteArray → List ByteArray → Int → Option (Bool)
  | 0, _, _, _ => none
  | k + 1, x0, x1, x5 => if x5 < (x0.length : Int) then (if 0 ≤ x5 then (if x5 < (x1.length : Int) then (if (rdOf ByteArray.empty x0 x5).toList = (rdOf ByteArray.empty x1 x5).toList then (postriderref07_SameTexts.l0 k x0 x1 (wrap64 (x5 + 1))) else (some false)) else (none)) else (none)) else (some true)
def postriderref07_SameTexts.f (k : Nat) (l0 : List ByteArray) (l1 : List ByteArray) : Option (Bool) := if (l0.length : Int) = (l1.length : Int) then (postriderref07_SameTexts.l0 k l0 l1 0) else (some false)
theorem postriderref07_SameTexts.mono_l : ∀ k, (∀ y0 y1 y2, LeO (postriderref07_SameTexts.l0 k y0 y1 y2) (postriderref07_SameTexts.l0 (k + 1) y0 y1 y2))
  | 0 => fun _ _ _ r h => by simp [postriderref07_SameTexts.l0] at h
  | k + 1 => by
    have ih0 := postriderref07_SameTexts.mono_l k
    · intro y0 y1 y2
      unfold postriderref07_SameTexts.l0
      repeat' first
      | (with_reducible exact ih0 _ _ _)
      | (with_reducible exact LeO.refl _)
      | (with_reducible exact LeO.none _)
      | (with_reducible refine LeO.ite ?_ ?_)
      | (with_reducible refine LeO.bind ?_ (fun _ => ?_))
      | exact ih0 _ _ _
      | exact LeO.none _
      | refine LeO.ite ?_ ?_
      | refine LeO.bind ?_ (fun _ => ?_)
theorem postriderref07_SameTexts.mono : ∀ a0 a1 k, LeO (postriderref07_SameTexts.f k a0 a1) (postriderref07_SameTexts.f (k + 1) a0 a1) := by
  intro a0 a1 k
  have ih0 := postriderref07_SameTexts.mono_l k
  unfold postriderref07_SameTexts.f
  repeat' first
      | (with_reducible exact ih0 _ _ _)
      | (with_reducible exact LeO.refl _)
      | (with_reducible exact LeO.none _)
      | (with_reducible refine LeO.ite ?_ ?_)
      | (with_reducible refine LeO.bind ?_ (fun _ => ?_))
      | exact ih0 _ _ _
      | exact LeO.none _
      | refine LeO.ite ?_ ?_
      | refine LeO.bind ?_ (fun _ => ?_)
set_option maxHeartbeats 8000000 in
set_option maxRecDepth 100000 in
theorem postriderref07_SameTexts.calls (k : Nat) (A0 : Option Addr) (c0 : Nat) (l0 : List ByteArray) (A1 : Option Addr) (c1 : Nat) (l1 : List ByteArray) (r : Bool) (w : World) (hr0 : Kd.C Kd.string w A0 l0.length l0) (hc0 : l0.length ≤ c0) (hr1 : Kd.C Kd.string w A1 l1.length l1) (hc1 : l1.length ≤ c1) (h : postriderref07_SameTexts.f k l0 l1 = some r) :
    Calls Tryz.prog 20 #[.slice A0 l0.length c0, .slice A1 l1.length c1] w fun e w' => e = .returned (.bool r) ∧ Drawn0 w w' := by
  have HR0 := Aside0.mk hr0
  have HC0 := Aside0.mk hc0
  clear hr0 hc0
  have HR1 := Aside0.mk hr1
  have HC1 := Aside0.mk hc1
  clear hr1 hc1
  have H : (if (l0.length : Int) = (l1.length : Int) then (postriderref07_SameTexts.l0 k l0 l1 0) else (some false)) = some r := h
  clear h
  by_cases c3 : (l0.length : Int) = (l1.length : Int)
  · rw [if_pos c3] at H
    have c3b0 : ((l0.length : Int) == (l1.length : Int)) = true := beq_iff_eq.mpr c3
    have c3b1 : ((l0.length : Int) != (l1.length : Int)) = false := bne_eq_false_iff_eq.mpr c3
    have c3b2 : (l0.length == l1.length) = true := by first | simpa using c3 | (simp at c3 ⊢; omega)
    clear c3
    have H' := Aside0.mk H
    clear H
    go_enter Tryz.func20, Tryz.ntmps20
    go_wp2
    repeat (go_quiet (fail); try go_wp2)
    go_loopg [5] k (fun kq v5 w' => ∃ (x5_1 : Int), v5 = .int .i64 x5_1 ∧ Aside0 (postriderref07_SameTexts.l0 kq l0 l1 x5_1 = some r) ∧ Aside0 (kq ≤ k) ∧ Drawn0 w w')
    case atStart => exact ⟨(0), (by first | rfl | (simp; done) | (simp [*]; done)), H', ⟨Nat.le_refl _⟩, by repeat (first | exact Drawn0.refl _ | apply Drawn0.step)⟩
    case round =>
      clear H'
      try clear c1
      try clear c2
      try clear p2
      try clear c3
      try clear c3b0
      try clear c3b1
      try clear c3b2
      obtain ⟨x5_1, rfl, HA, HK1, ⟨m1, rfl⟩⟩ := hrel
      cases gk with
      | zero => exact absurd HA.out (by simp [postriderref07_SameTexts.l0])
      | succ k1 =>
        have H := HA.out
        clear HA
        simp only [postriderref07_SameTexts.l0] at H
        by_cases c4 : x5_1 < (l0.length : Int)
        · rw [if_pos c4] at H
          have c4b0 : decide (x5_1 < (l0.length : Int)) = true := decide_eq_true c4
          clear c4
          by_cases c5 : 0 ≤ x5_1
          · rw [if_pos c5] at H
            have c5b0 : decide (0 ≤ x5_1) = true := decide_eq_true c5
            clear c5
            by_cases c6 : x5_1 < (l1.length : Int)
            · rw [if_pos c6] at H
              have c6b0 : decide (x5_1 < (l1.length : Int)) = true := decide_eq_true c6
              clear c6
              by_cases c7 : (rdOf ByteArray.empty l0 x5_1).toList = (rdOf ByteArray.empty l1 x5_1).toList
              · rw [if_pos c7] at H
                have c7b0 : ((rdOf ByteArray.empty l0 x5_1).toList == (rdOf ByteArray.empty l1 x5_1).toList) = true := beq_iff_eq.mpr c7
                have c7b1 : ((rdOf ByteArray.empty l0 x5_1).toList != (rdOf ByteArray.empty l1 x5_1).toList) = false := bne_eq_false_iff_eq.mpr c7
                clear c7
                have H' := Aside0.mk H
                clear H
                have p115 : 0 ≤ (x5_1 : Int) := of_decide_eq_true (by first | (with_reducible assumption) | assumption)
                have q115 : x5_1 < (l0.length : Int) := of_decide_eq_true (by first | (with_reducible assumption) | assumption)
                obtain ⟨ad115, e115, hx115_0⟩ := Kd.at_string HR0.out x5_1 p115 q115
                cases e115
                replace p115 := eq_true p115
                replace q115 := eq_true q115
                have p116 : 0 ≤ (x5_1 : Int) := of_decide_eq_true (by first | (with_reducible assumption) | assumption)
                have q116 : x5_1 < (l1.length : Int) := of_decide_eq_true (by first | (with_reducible assumption) | assumption)
                obtain ⟨ad116, e116, hx116_0⟩ := Kd.at_string HR1.out x5_1 p116 q116
                cases e116
                replace p116 := eq_true p116
                replace q116 := eq_true q116
                go_wp2
                repeat (go_quiet (fail); try go_wp2)
                go_roundg k1
                case measure => have := HK1.out; omega
                case rel => exact ⟨(wrap64 (x5_1 + 1)), (by first | rfl | (simp; done) | (simp [*]; done)), H', ⟨by have := HK1.out; omega⟩, by repeat (first | exact Drawn0.refl _ | apply Drawn0.step)⟩
              · rw [if_neg c7] at H
                have c7b0 : ((rdOf ByteArray.empty l0 x5_1).toList == (rdOf ByteArray.empty l1 x5_1).toList) = false := beq_eq_false_iff_ne.mpr c7
                have c7b1 : ((rdOf ByteArray.empty l0 x5_1).toList != (rdOf ByteArray.empty l1 x5_1).toList) = true := bne_iff_ne.mpr c7
                obtain rfl := Option.some.inj H
                have p115 : 0 ≤ (x5_1 : Int) := of_decide_eq_true (by first | (with_reducible assumption) | assumption)
                have q115 : x5_1 < (l0.length : Int) := of_decide_eq_true (by first | (with_reducible assumption) | assumption)
                obtain ⟨ad115, e115, hx115_0⟩ := Kd.at_string HR0.out x5_1 p115 q115
                cases e115
                replace p115 := eq_true p115
                replace q115 := eq_true q115
                have p116 : 0 ≤ (x5_1 : Int) := of_decide_eq_true (by first | (with_reducible assumption) | assumption)
                have q116 : x5_1 < (l1.length : Int) := of_decide_eq_true (by first | (with_reducible assumption) | assumption)
                obtain ⟨ad116, e116, hx116_0⟩ := Kd.at_string HR1.out x5_1 p116 q116
                cases e116
                replace p116 := eq_true p116
                replace q116 := eq_true q116
                go_wp2
                repeat (go_quiet (fail); try go_wp2)
                all_goals (first | (go_ret; exact ⟨by first | rfl | (simp; done) | (simp [*]; done) | (simp_all; done), by repeat (first | exact Drawn0.refl _ | apply Drawn0.step)⟩) | (exfalso; simp_all; done))
            · rw [if_neg c6] at H
              exact absurd H (by simp)
          · rw [if_neg c5] at H
            exact absurd H (by simp)
        · rw [if_neg c4] at H
          have c4b0 : decide (x5_1 < (l0.length : Int)) = false := decide_eq_false c4
          clear c4
          obtain rfl := Option.some.inj H
          go_wp2
          repeat (go_quiet (fail); try go_wp2)
          all_goals (first | (go_ret; exact ⟨by first | rfl | (simp; done) | (simp [*]; done) | (simp_all; done), by repeat (first | exact Drawn0.refl _ | apply Drawn0.step)⟩) | (exfalso; simp_all; done))
  · rw [if_neg c3] at H
    have c3b0 : ((l0.length : Int) == (l1.length : Int)) = false := beq_eq_false_iff_ne.mpr c3
    have c3b1 : ((l0.length : Int) != (l1.length : Int)) = true := bne_iff_ne.mpr c3
    have c3b2 : (l0.length == l1.length) = false := by first | simpa using c3 | (simp at c3 ⊢; omega)
    obtain rfl := Option.some.inj H
    go_enter Tryz.func20, Tryz.ntmps20
    go_wp2
    repeat (go_quiet (fail); try go_wp2)
    all_goals (first | (go_ret; exact ⟨by first | rfl | (simp; done) | (simp [*]; done) | (simp_all; done), by repeat (first | exact Drawn0.refl _ | apply Drawn0.step)⟩) | (exfalso; simp_all; done))
def postriderref02_Ints.l0 : Nat → List Int → List Int → Int → Option (Bool)
  | 0, _, _, _ => none
  | k + 1, x0, x1, x5 => if x5 < (x0.length : Int) then (if 0 ≤ x5 then (if x5 < (x1.length : Int) then (if (rd x0 x5) = (rd x1 x5) then (postriderref02_Ints.l0 k x0 x1 (wrap64 (x5 + 1))) else (some false)) else (none)) else (none)) else (some true)
def postriderref02_Ints.f (k : Nat) (l0 : List Int) (l1 : List Int) : Option (Bool) := if (l0.length : Int) = (l1.length : Int) then (postriderref02_Ints.l0 k l0 l1 0) else (some false)
theorem postriderref02_Ints.mono_l : ∀ k, (∀ y0 y1 y2, LeO (postriderref02_Ints.l0 k y0 y1 y2) (postriderref02_Ints.l0 (k + 1) y0 y1 y2))
  | 0 => fun _ _ _ r h => by simp [postriderref02_Ints.l0] at h
  | k + 1 => by
    have ih0 := postriderref02_Ints.mono_l k
    · intro y0 y1 y2
      unfold postriderref02_Ints.l0
      repeat' first
      | (with_reducible exact ih0 _ _ _)
      | (with_reducible exact LeO.refl _)
      | (with_reducible exact LeO.none _)
      | (with_reducible refine LeO.ite ?_ ?_)
      | (with_reducible refine LeO.bind ?_ (fun _ => ?_))
      | exact ih0 _ _ _
      | exact LeO.none _
      | refine LeO.ite ?_ ?_
      | refine LeO.bind ?_ (fun _ => ?_)
theorem postriderref02_Ints.mono : ∀ a0 a1 k, LeO (postriderref02_Ints.f k a0 a1) (postriderref02_Ints.f (k + 1) a0 a1) := by
  intro a0 a1 k
  have ih0 := postriderref02_Ints.mono_l k
  unfold postriderref02_Ints.f
  repeat' first
      | (with_reducible exact ih0 _ _ _)
      | (with_reducible exact LeO.refl _)
      | (with_reducible exact LeO.none _)
      | (with_reducible refine LeO.ite ?_ ?_)
      | (with_reducible refine LeO.bind ?_ (fun _ => ?_))
      | exact ih0 _ _ _
      | exact LeO.none _
      | refine LeO.ite ?_ ?_
      | refine LeO.bind ?_ (fun _ => ?_)
set_option maxHeartbeats 8000000 in
set_option maxRecDepth 100000 in
theorem postriderref02_Ints.calls (k : Nat) (A0 : Option Addr) (c0 : Nat) (l0 : List Int) (A1 : Option Addr) (c1 : Nat) (l1 : List Int) (r : Bool) (w : World) (hr0 : Kd.C (Kd.int .i64) w A0 l0.length l0) (hc0 : l0.length ≤ c0) (hr1 : Kd.C (Kd.int .i64) w A1 l1.length l1) (hc1 : l1.length ≤ c1) (h : postriderref02_Ints.f k l0 l1 = some r) :
    Calls Tryz.prog 18 #[.slice A0 l0.length c0, .slice A1 l1.length c1] w fun e w' => e = .returned (.bool r) ∧ Drawn0 w w' := by
  have HR0 := Aside0.mk hr0
  have HC0 := Aside0.mk hc0
  clear hr0 hc0
  have HR1 := Aside0.mk hr1
  have HC1 := Aside0.mk hc1
  clear hr1 hc1
  have H : (if (l0.length : Int) = (l1.length : Int) then (postriderref02_Ints.l0 k l0 l1 0) else (some false)) = some r := h
  clear h
  by_cases c3 : (l0.length : Int) = (l1.length : Int)
  · rw [if_pos c3] at H
    have c3b0 : ((l0.length : Int) == (l1.length : Int)) = true := beq_iff_eq.mpr c3
    have c3b1 : ((l0.length : Int) != (l1.length : Int)) = false := bne_eq_false_iff_eq.mpr c3
    have c3b2 : (l0.length == l1.length) = true := by first | simpa using c3 | (simp at c3 ⊢; omega)
    clear c3
    have H' := Aside0.mk H
    clear H
    go_enter Tryz.func18, Tryz.ntmps18
    go_wp2
    repeat (go_quiet (fail); try go_wp2)
    go_loopg [5] k (fun kq v5 w' => ∃ (x5_1 : Int), v5 = .int .i64 x5_1 ∧ Aside0 (postriderref02_Ints.l0 kq l0 l1 x5_1 = some r) ∧ Aside0 (kq ≤ k) ∧ Drawn0 w w')
    case atStart => exact ⟨(0), (by first | rfl | (simp; done) | (simp [*]; done)), H', ⟨Nat.le_refl _⟩, by repeat (first | exact Drawn0.refl _ | apply Drawn0.step)⟩
    case round =>
      clear H'
      try clear c1
      try clear p2
      try clear c3
      try clear c3b0
      try clear c3b1
      try clear c3b2
      obtain ⟨x5_1, rfl, HA, HK1, ⟨m1, rfl⟩⟩ := hrel
      cases gk with
      | zero => exact absurd HA.out (by simp [postriderref02_Ints.l0])
      | succ k1 =>
        have H := HA.out
        clear HA
        simp only [postriderref02_Ints.l0] at H
        by_cases c4 : x5_1 < (l0.length : Int)
        · rw [if_pos c4] at H
          have c4b0 : decide (x5_1 < (l0.length : Int)) = true := decide_eq_true c4
          clear c4
          by_cases c5 : 0 ≤ x5_1
          · rw [if_pos c5] at H
            have c5b0 : decide (0 ≤ x5_1) = true := decide_eq_true c5
            clear c5
            by_cases c6 : x5_1 < (l1.length : Int)
            · rw [if_pos c6] at H
              have c6b0 : decide (x5_1 < (l1.length : Int)) = true := decide_eq_true c6
              clear c6
              by_cases c7 : (rd l0 x5_1) = (rd l1 x5_1)
              · rw [if_pos c7] at H
                have c7b0 : ((rd l0 x5_1) == (rd l1 x5_1)) = true := beq_iff_eq.mpr c7
                have c7b1 : ((rd l0 x5_1) != (rd l1 x5_1)) = false := bne_eq_false_iff_eq.mpr c7
                clear c7
                have H' := Aside0.mk H
                clear H
                have p117 : 0 ≤ (x5_1 : Int) := of_decide_eq_true (by first | (with_reducible assumption) | assumption)
                have q117 : x5_1 < (l0.length : Int) := of_decide_eq_true (by first | (with_reducible assumption) | assumption)
                obtain ⟨ad117, e117, hx117_0⟩ := Kd.at_int HR0.out x5_1 p117 q117
                cases e117
                replace p117 := eq_true p117
                replace q117 := eq_true q117
                have p118 : 0 ≤ (x5_1 : Int) := of_decide_eq_true (by first | (with_reducible assumption) | assumption)
                have q118 : x5_1 < (l1.length : Int) := of_decide_eq_true (by first | (with_reducible assumption) | assumption)
                obtain ⟨ad118, e118, hx118_0⟩ := Kd.at_int HR1.out x5_1 p118 q118
                cases e118
                replace p118 := eq_true p118
                replace q118 := eq_true q118
                go_wp2
                repeat (go_quiet (fail); try go_wp2)
                go_roundg k1
                case measure => have := HK1.out; omega
                case rel => exact ⟨(wrap64 (x5_1 + 1)), (by first | rfl | (simp; done) | (simp [*]; done)), H', ⟨by have := HK1.out; omega⟩, by repeat (first | exact Drawn0.refl _ | apply Drawn0.step)⟩
              · rw [if_neg c7] at H
                have c7b0 : ((rd l0 x5_1) == (rd l1 x5_1)) = false := beq_eq_false_iff_ne.mpr c7
                have c7b1 : ((rd l0 x5_1) != (rd l1 x5_1)) = true := bne_iff_ne.mpr c7
                obtain rfl := Option.some.inj H
                have p117 : 0 ≤ (x5_1 : Int) := of_decide_eq_true (by first | (with_reducible assumption) | assumption)
                have q117 : x5_1 < (l0.length : Int) := of_decide_eq_true (by first | (with_reducible assumption) | assumption)
                obtain ⟨ad117, e117, hx117_0⟩ := Kd.at_int HR0.out x5_1 p117 q117
                cases e117
                replace p117 := eq_true p117
                replace q117 := eq_true q117
                have p118 : 0 ≤ (x5_1 : Int) := of_decide_eq_true (by first | (with_reducible assumption) | assumption)
                have q118 : x5_1 < (l1.length : Int) := of_decide_eq_true (by first | (with_reducible assumption) | assumption)
                obtain ⟨ad118, e118, hx118_0⟩ := Kd.at_int HR1.out x5_1 p118 q118
                cases e118
                replace p118 := eq_true p118
                replace q118 := eq_true q118
                go_wp2
                repeat (go_quiet (fail); try go_wp2)
                all_goals (first | (go_ret; exact ⟨by first | rfl | (simp; done) | (simp [*]; done) | (simp_all; done), by repeat (first | exact Drawn0.refl _ | apply Drawn0.step)⟩) | (exfalso; simp_all; done))
            · rw [if_neg c6] at H
              exact absurd H (by simp)
          · rw [if_neg c5] at H
            exact absurd H (by simp)
        · rw [if_neg c4] at H
          have c4b0 : decide (x5_1 < (l0.length : Int)) = false := decide_eq_false c4
          clear c4
          obtain rfl := Option.some.inj H
          go_wp2
          repeat (go_quiet (fail); try go_wp2)
          all_goals (first | (go_ret; exact ⟨by first | rfl | (simp; done) | (simp [*]; done) | (simp_all; done), by repeat (first | exact Drawn0.refl _ | apply Drawn0.step)⟩) | (exfalso; simp_all; done))
  · rw [if_neg c3] at H
    have c3b0 : ((l0.length : Int) == (l1.length : Int)) = false := beq_eq_false_iff_ne.mpr c3
    have c3b1 : ((l0.length : Int) != (l1.length : Int)) = true := bne_iff_ne.mpr c3
    have c3b2 : (l0.length == l1.length) = false := by first | simpa using c3 | (simp at c3 ⊢; omega)
    obtain rfl := Option.some.inj H
    go_enter Tryz.func18, Tryz.ntmps18
    go_wp2
    repeat (go_quiet (fail); try go_wp2)
    all_goals (first | (go_ret; exact ⟨by first | rfl | (simp; done) | (simp [*]; done) | (simp_all; done), by repeat (first | exact Drawn0.refl _ | apply Drawn0.step)⟩) | (exfalso; simp_all; done))
end Go.Proofs.YtbjbicaffblchaaGreatDoor.SK
end
section
namespace Go.Proofs.YtbjbicaffblchaaGreatDoor.Hand
open Go.RowKit Go.Proofs.YtbjbicaffblchaaGreatDoorW Go.Proofs.YtbjbicaffblchaaGreatDoorW.PrintWords Go.Proofs.YtbjbicaffblchaaGreatDoor.SK Go.Proofs.YtbjbicaffblchaaGreatDoor.SA
theorem drop_eq_iff {α : Type} (d : α) {x y : List α} {i : Nat} (hx : i < x.length) (hy : i < y.length) : (x.drop i = y.drop i) ↔ (x.getD i d = y.getD i d ∧ x.drop (i + 1) = y.drop (i + 1)) := by
  rw [List.drop_eq_getElem_cons hx, List.drop_eq_getElem_cons hy, List.cons.injEq]
  simp [List.getD_eq_getElem?_getD, hx, hy]
theorem wrap_up (i : Nat) (h : i ≤ 1000000000) : wrap64 ((i : Int) + 1) = ((i + 1 : Nat) : Int) := by unfold wrap64; omega
section
variable {x y : List Int}
theorem ints_from (hl : x.length = y.length) (hb : x.length ≤ 1000000) : ∀ (d k i : Nat), x.length - i = d → i ≤ x.length → d < k → postriderref02_Ints.l0 k x y (i : Int) = some (decide (x.drop i = y.drop i)) := by
  intro d
  induction d with
  | zero =>
    intro k i hd hi hk
    obtain ⟨k, rfl⟩ : ∃ m, k = m + 1 := ⟨k - 1, by omega⟩
    simp only [postriderref02_Ints.l0]
    rw [if_neg (by omega), List.drop_eq_nil_of_le (by omega), List.drop_eq_nil_of_le (by omega)]
    simp
  | succ d ih =>
    intro k i hd hi hk
    obtain ⟨k, rfl⟩ : ∃ m, k = m + 1 := ⟨k - 1, by omega⟩
    simp only [postriderref02_Ints.l0]
    rw [if_pos (by omega), if_pos (by omega), if_pos (by omega), wrap_up i (by omega), ih k (i + 1) (by omega) (by omega) (by omega)]
    have h := drop_eq_iff (0 : Int) (x := x) (y := y) (i := i) (by omega) (by omega)
    unfold rd
    rw [Int.toNat_natCast]
    by_cases e : x.getD i 0 = y.getD i 0
    · rw [if_pos e]
      congr 1
      rw [decide_eq_decide, h]
      exact ⟨fun q => ⟨e, q⟩, fun q => q.2⟩
    · rw [if_neg e]
      congr 1
      rw [eq_comm, decide_eq_false_iff_not, h]
      exact fun q => e q.1
theorem ints_is (x y : List Int) (k : Nat) (hb : x.length ≤ 1000000) (hk : x.length < k) : postriderref02_Ints.f k x y = some (decide (x = y)) := by
  unfold postriderref02_Ints.f
  by_cases hl : x.length = y.length
  · rw [if_pos (by omega)]
    have := ints_from hl hb x.length k 0 (by omega) (by omega) hk
    simpa using this
  · rw [if_neg (by omega)]
    congr 1
    rw [eq_comm, decide_eq_false_iff_not]
    exact fun e => hl (by rw [e])
theorem eq_from (hl : x.length = y.length) (hb : x.length ≤ 1000000) : ∀ (d k i : Nat), x.length - i = d → i ≤ x.length → d < k → slices_Equal_int_int.l0 k x y (x.length : Int) (i : Int) = some (decide (x.drop i = y.drop i)) := by
  intro d
  induction d with
  | zero =>
    intro k i hd hi hk
    obtain ⟨k, rfl⟩ : ∃ m, k = m + 1 := ⟨k - 1, by omega⟩
    simp only [slices_Equal_int_int.l0]
    rw [if_neg (by omega), List.drop_eq_nil_of_le (by omega), List.drop_eq_nil_of_le (by omega)]
    simp
  | succ d ih =>
    intro k i hd hi hk
    obtain ⟨k, rfl⟩ : ∃ m, k = m + 1 := ⟨k - 1, by omega⟩
    simp only [slices_Equal_int_int.l0]
    have h := drop_eq_iff (0 : Int) (x := x) (y := y) (i := i) (by omega) (by omega)
    rw [if_pos (by omega), if_pos (by omega), if_pos (by omega), if_pos (by omega), wrap_up i (by omega), ih k (i + 1) (by omega) (by omega) (by omega)]
    unfold rd
    rw [Int.toNat_natCast]
    by_cases e : x.getD i 0 = y.getD i 0
    · rw [if_pos e]
      congr 1
      rw [decide_eq_decide, h]
      exact ⟨fun q => ⟨e, q⟩, fun q => q.2⟩
    · rw [if_neg e]
      congr 1
      rw [eq_comm, decide_eq_false_iff_not, h]
      exact fun q => e q.1
theorem equal_is (x y : List Int) (k : Nat) (hb : x.length ≤ 1000000) (hk : x.length < k) : slices_Equal_int_int.f k x y = some (decide (x = y)) := by
  unfold slices_Equal_int_int.f
  by_cases hl : x.length = y.length
  · rw [if_pos (by omega)]
    have := eq_from hl hb x.length k 0 (by omega) (by omega) hk
    simpa using this
  · rw [if_neg (by omega)]
    congr 1
    rw [eq_comm, decide_eq_false_iff_not]
    exact fun e => hl (by rw [e])
end
theorem ba_iff {a b : ByteArray} : a.toList = b.toList ↔ a = b := ⟨ba_ext, fun h => by rw [h]⟩
theorem texts_from {x y : List ByteArray} (hl : x.length = y.length) (hb : x.length ≤ 1000000) : ∀ (d k i : Nat), x.length - i = d → i ≤ x.length → d < k → postriderref07_SameTexts.l0 k x y (i : Int) = some (decide (x.drop i = y.drop i)) := by
  intro d
  induction d with
  | zero =>
    intro k i hd hi hk
    obtain ⟨k, rfl⟩ : ∃ m, k = m + 1 := ⟨k - 1, by omega⟩
    simp only [postriderref07_SameTexts.l0]
    rw [if_neg (by omega), List.drop_eq_nil_of_le (by omega), List.drop_eq_nil_of_le (by omega)]
    simp
  | succ d ih =>
    intro k i hd hi hk
    obtain ⟨k, rfl⟩ : ∃ m, k = m + 1 := ⟨k - 1, by omega⟩
    simp only [postriderref07_SameTexts.l0]
    rw [if_pos (by omega), if_pos (by omega), if_pos (by omega), wrap_up i (by omega), ih k (i + 1) (by omega) (by omega) (by omega)]
    have h := drop_eq_iff ByteArray.empty (x := x) (y := y) (i := i) (by omega) (by omega)
    unfold rdOf
    rw [Int.toNat_natCast]
    by_cases e : x.getD i ByteArray.empty = y.getD i ByteArray.empty
    · rw [if_pos (by rw [e])]
      congr 1
      rw [decide_eq_decide, h]
      exact ⟨fun q => ⟨e, q⟩, fun q => q.2⟩
    · rw [if_neg (fun q => e (ba_ext q))]
      congr 1
      rw [eq_comm, decide_eq_false_iff_not, h]
      exact fun q => e q.1
theorem sameTexts_is (x y : List ByteArray) (k : Nat) (hb : x.length ≤ 1000000) (hk : x.length < k) : postriderref07_SameTexts.f k x y = some (decide (x = y)) := by
  unfold postriderref07_SameTexts.f
  by_cases hl : x.length = y.length
  · rw [if_pos (by omega)]
    have := texts_from hl hb x.length k 0 (by omega) (by omega) hk
    simpa using this
  · rw [if_neg (by omega)]
    congr 1
    rw [eq_comm, decide_eq_false_iff_not]
    exact fun e => hl (by rw [e])
theorem nm_eq {a b : S41} : a = b ↔ a.f0 = b.f0 ∧ a.f1.toList = b.f1.toList ∧ a.f2.toList = b.f2.toList ∧ a.f3 = b.f3 ∧ a.f4 = b.f4 := by
  obtain ⟨a0, a1, a2, a3, a4⟩ := a
  obtain ⟨b0, b1, b2, b3, b4⟩ := b
  simp only [S41.mk.injEq, ba_iff]
instance : DecidableEq S41 := fun _ _ => decidable_of_iff _ nm_eq.symm
theorem same_from {x y : List S41} (hl : x.length = y.length) (hb : x.length ≤ 1000000) : ∀ (d k i : Nat), x.length - i = d → i ≤ x.length → d < k → postriderref06_Same.l0 k x y (i : Int) = some (decide (x.drop i = y.drop i)) := by
  intro d
  induction d with
  | zero =>
    intro k i hd hi hk
    obtain ⟨k, rfl⟩ : ∃ m, k = m + 1 := ⟨k - 1, by omega⟩
    simp only [postriderref06_Same.l0]
    rw [if_neg (by omega), List.drop_eq_nil_of_le (by omega), List.drop_eq_nil_of_le (by omega)]
    simp
  | succ d ih =>
    intro k i hd hi hk
    obtain ⟨k, rfl⟩ : ∃ m, k = m + 1 := ⟨k - 1, by omega⟩
    simp only [postriderref06_Same.l0]
    rw [if_pos (by omega), if_pos (by omega), if_pos (by omega), wrap_up i (by omega), ih k (i + 1) (by omega) (by omega) (by omega)]
    have h := drop_eq_iff z41 (x := x) (y := y) (i := i) (by omega) (by omega)
    unfold rd_T41
    rw [Int.toNat_natCast]
    generalize x.getD i z41 = a at *
    generalize y.getD i z41 = b at *
    by_cases e : a = b
    · subst e
      rw [if_neg (by simp)]
      congr 1
      rw [decide_eq_decide, h]
      simp
    · rw [if_pos ?_]
      · congr 1
        rw [eq_comm, decide_eq_false_iff_not, h]
        exact fun q => e q.1
      · rw [nm_eq] at e
        rw [← Bool.not_eq_false]
        intro q
        simp only [Bool.or_eq_false_iff, Bool.not_eq_false', beq_iff_eq] at q
        exact e ⟨q.1, q.2.1, q.2.2.1, q.2.2.2.1, q.2.2.2.2⟩
theorem same_is (x y : List S41) (k : Nat) (hb : x.length ≤ 1000000) (hk : x.length < k) : postriderref06_Same.f k x y = some (decide (x = y)) := by
  unfold postriderref06_Same.f
  by_cases hl : x.length = y.length
  · rw [if_pos (by omega)]
    have := same_from hl hb x.length k 0 (by omega) (by omega) hk
    simpa using this
  · rw [if_neg (by omega)]
    congr 1
    rw [eq_comm, decide_eq_false_iff_not]
    exact fun e => hl (by rw [e])
theorem few_from (x : List S41) : ∀ (d k i : Nat) (acc : List S41), 32 - i = d → d < k → i ≤ 32 → acc.length = i → (∀ z ∈ acc, z.f1.size ≤ 21 ∧ z.f2.size ≤ 21) →
    ∃ l, postriderlaw07_Few.l0 k x acc (i : Int) = some l ∧ l.length ≤ 32 ∧ ∀ z ∈ l, z.f1.size ≤ 21 ∧ z.f2.size ≤ 21 := by
  intro d
  induction d with
  | zero =>
    intro k i acc hd hk hi hl ha
    obtain ⟨k, rfl⟩ : ∃ m, k = m + 1 := ⟨k - 1, by omega⟩
    refine ⟨acc, ?_, by omega, ha⟩
    simp only [postriderlaw07_Few.l0]
    by_cases h : (i : Int) < (x.length : Int)
    · rw [if_pos h, if_neg (by omega)]
    · rw [if_neg h]
  | succ d ih =>
    intro k i acc hd hk hi hl ha
    obtain ⟨k, rfl⟩ : ∃ m, k = m + 1 := ⟨k - 1, by omega⟩
    simp only [postriderlaw07_Few.l0]
    by_cases h : (i : Int) < (x.length : Int)
    · obtain ⟨b1, b2, hc, s1, s2⟩ := Cut_is (rd_T41 x (i : Int)).f0 (rd_T41 x (i : Int)).f1 (rd_T41 x (i : Int)).f2 (rd_T41 x (i : Int)).f3 (rd_T41 x (i : Int)).f4
      rw [if_pos h, if_pos (by omega), if_pos (by omega), hc]
      simp only [Option.bind_some]
      rw [if_pos (by omega), wrap_up i (by omega)]
      refine ih k (i + 1) _ (by omega) (by omega) (by omega) (by simp [hl]) (fun z hz => ?_)
      rcases List.mem_append.1 hz with hz | hz
      · exact ha z hz
      · rw [List.mem_singleton.1 hz]; exact ⟨s1, s2⟩
    · refine ⟨acc, ?_, by omega, ha⟩
      rw [if_neg h]
theorem few_is (x : List S41) (k : Nat) (hk : 32 < k) : ∃ l, postriderlaw07_Few.f k x = some l ∧ l.length ≤ 32 ∧ ∀ z ∈ l, z.f1.size ≤ 21 ∧ z.f2.size ≤ 21 := by
  unfold postriderlaw07_Few.f
  exact few_from x 32 k 0 [] (by omega) hk (by omega) rfl (fun z hz => by cases hz)
theorem cut7_is (a : ByteArray) : ∃ b : ByteArray, postriderlaw07_cut.f a = some b ∧ b.size ≤ 900 := by
  obtain ⟨h1, h2, h3⟩ := mn_len a.size 900 (by decide)
  unfold postriderlaw07_cut.f
  rw [if_pos h1, if_pos h2]
  refine ⟨_, rfl, ?_⟩
  rw [ByteArray.size_extract]; omega
end Go.Proofs.YtbjbicaffblchaaGreatDoor.Hand
end
section
namespace Go.Proofs.YtbjbicaffblchaaGreatDoor.Hand
open Go.RowKit Go.Proofs.YtbjbicaffblchaaGreatDoorW Go.Proofs.YtbjbicaffblchaaGreatDoorW.PrintWords Go.Proofs.YtbjbicaffblchaaGreatDoor.SK
def namesT (s : ByteArray) : List Int → Option (List Nm)
  | a :: b :: r => if (nameT s a b).2 = true then (namesT s r).map ((nameT s a b).1 :: ·) else none
  | _ => some []
def readT (s : ByteArray) (pairs : List Int) : List Nm × Int :=
  if pairs.length % 2 = 0 ∧ pairs.length ≤ 60 then
    match namesT s pairs with
    | none => ([], 70)
    | some l => if buildT l = (s, pairs, 0) then (l, 0) else ([], 70)
  else ([], 70)
def dict_Read.f (s : ByteArray) (pairs : List Int) : Option (List Nm × Int) := if s.size < 4294967281 then some (readT s pairs) else none
theorem join_ok (x y : ByteArray) (h : y.size < 4294967281) : (eidNm (joinT x y)).ok := by
  unfold joinT
  cases hj : joinS x y with
  | none => exact ⟨by decide, by decide⟩
  | some z =>
    have hm : z ∈ cands x y 3 := List.mem_of_find?_eq_some hj
    obtain ⟨h1, h2⟩ := cands_size x y z hm
    exact ⟨by show z.n.size ≤ maxLen; unfold maxLen; omega, by show z.v.size ≤ maxLen; unfold maxLen; omega⟩
theorem name_ok (s : ByteArray) (a b : Int) (h : s.size < 4294967281) : (nameT s a b).1.ok := by
  unfold nameT
  split
  · dsimp only
    split <;> exact ⟨Nat.zero_le _, Nat.zero_le _⟩
  · refine join_ok _ _ ?_
    have := halfOf_size (items s.data.toList) b s.data.toList.length (fun x hx => itemsF_size _ _ _ x hx)
    have h3 : s.data.toList.length = s.size := Array.length_toList ..
    omega
theorem names_ok (s : ByteArray) (h : s.size < 4294967281) : ∀ (n : Nat) (p : List Int) (l : List Nm), p.length ≤ n → namesT s p = some l → ∀ x ∈ l, x.ok := by
  intro n
  induction n using Nat.strongRecOn with
  | _ n ih =>
    intro p l hn hl
    match p, hl with
    | [], hl => simp [namesT] at hl; subst hl; intro x hx; cases hx
    | [_], hl => simp [namesT] at hl; subst hl; intro x hx; cases hx
    | a :: b :: r, hl =>
      rw [namesT] at hl
      split at hl
      · obtain ⟨l', h1, h2⟩ := Option.map_eq_some_iff.1 hl
        subst h2
        intro x hx
        rcases List.mem_cons.1 hx with rfl | hx
        · exact name_ok s a b h
        · exact ih r.length (by simp only [List.length_cons] at hn; omega) r l' (Nat.le_refl _) h1 x hx
      · cases hl
theorem name_calls (s : ByteArray) (a b : Int) (w : World) (am ae ad : Addr) (hE : LaidAt w am ae ad) (hLd : Laid w) (hs : s.size < 4294967281) :
    Calls Tryz.prog 30 #[.string s, .int .i64 a, .int .i64 b] w fun e w' => e = .returned (.tuple #[(nameT s a b).1.v, nameE (nameT s a b).2 ad]) ∧ Below w.heap.size w w' := by
  by_cases h : s.toList = []
  · exact name_empty s a b w ad h
  · exact name_full s a b w am ae ad hE hLd h hs
set_option maxRecDepth 100000 in
set_option maxHeartbeats 4000000 in
theorem dict_Read.calls (a0 : ByteArray) (A1 : Option Addr) (c1 : Nat) (l1 : List Int) (r1 : List Nm) (r2 : Int) (w : World) (hr1 : Kd.C (Kd.int .i64) w A1 l1.length l1) (hc1 : l1.length ≤ c1) (hLd : LaidD w) (h : dict_Read.f a0 l1 = some (r1, r2)) :
    Calls Tryz.prog 14 #[.string a0, .slice A1 l1.length c1] w fun e w' => ∃ v1_ : Value, e = .returned (.tuple #[v1_, .int .i64 r2]) ∧ Kd.R kNm 41 w' w.heap.size (fun _ => True) v1_ r1 ∧ Below w.heap.size w w' := by
  unfold dict_Read.f at h
  split at h
  case isFalse => cases h
  rename_i hs
  replace h := Option.some.inj h
  obtain ⟨hLd, am, ae, ad, hE⟩ := hLd
  have HL := Lib.hid hLd
  have HE := Lib.hid hE
  have HR := Lib.hid hr1
  have hr1' := hc1
  obtain ⟨_, _, ⟨gd, _⟩, _⟩ := hE
  clear hLd hr1
  have hu := Tryz.underlying41
  have hu2 := Tryz.underlying61
  have hdict := fun A n c W hW => either_eids_dict A n c W am ae ad hW
  unfold errV at hdict
  have hnil := either_eids_dict none 0 0 w am ae ad HE.out
  unfold errV at hnil
  unfold readT at h
  by_cases hmod : (l1.length : Int) % 2 = 0
  case neg =>
    rw [if_neg (by omega)] at h
    simp only [Prod.mk.injEq] at h
    obtain ⟨rfl, rfl⟩ := h
    go_enter Tryz.func14, Tryz.ntmps14
    go_wp2_with (go_at_call 29; refine hnil.mono ?_; rintro e w2 ⟨rfl, rfl⟩)
    go_ret2
    exact ⟨_, rfl, Kd.R_nil _ _ _ _ _, Below.refl _ _⟩
  by_cases h60 : 60 < (l1.length : Int)
  case pos =>
    rw [if_neg (by omega)] at h
    simp only [Prod.mk.injEq] at h
    obtain ⟨rfl, rfl⟩ := h
    go_enter Tryz.func14, Tryz.ntmps14
    go_wp2_with (go_at_call 29; refine hnil.mono ?_; rintro e w2 ⟨rfl, rfl⟩)
    go_ret2
    exact ⟨_, rfl, Kd.R_nil _ _ _ _ _, Below.refl _ _⟩
  rw [if_pos (by omega)] at h
  have HH := Lib.hid h
  have HG := Lib.hid (World.block_lt_of_cell? w _ gd)
  clear h hnil gd
  have h60n : l1.length ≤ 60 := by omega
  have hmodn : l1.length % 2 = 0 := by omega
  go_enter Tryz.func14, Tryz.ntmps14
  go_wp2_with (fail)
  go_loopg [6, 7] (l1.length + 1) (fun gg s6 s7 wr => ∃ (A : Option Addr) (m c i : Nat) (lk : List Nm), s6 = .slice A m c ∧ s7 = .int .i64 (i : Int) ∧ i ≤ l1.length ∧ l1.length + 1 - i ≤ gg ∧ Hid (i % 2 = 0) ∧ Hid (lk.length ≤ i) ∧ Hid (namesT a0 l1 = (namesT a0 (l1.drop i)).map (lk ++ ·)) ∧ Hid (Kd.R kNm 41 wr w.heap.size (fun _ => True) (.slice A m c) lk) ∧ Hid (Below w.heap.size w wr))
  case atStart => exact ⟨none, 0, 0, 0, [], rfl, rfl, Nat.zero_le _, by omega, Lib.hid rfl, Lib.hid (Nat.le_refl _), Lib.hid (by cases hq : namesT a0 l1 <;> simp [hq]), Lib.hid (Kd.R_nil _ _ _ _ _), Lib.hid (Below.refl _ _)⟩
  case round =>
    obtain ⟨A, m, c, i, lk, rfl, rfl, hi, hg, HM, HLK, HN, HRR, HB⟩ := hrel
    by_cases hlt : i < l1.length
    · have hlt2 : i + 1 < l1.length := by have := HM.out; omega
      have z1 : (i : Int) < (l1.length : Int) := by omega
      have z2 : (i : Int) + 1 < (l1.length : Int) := by omega
      have z0 : (0 : Int) ≤ (i : Int) := by omega
      obtain ⟨_, _, hrd⟩ := Kd.reads_of_C (d := (0 : Int)) HR.out
      obtain ⟨ad1, hA, hcell⟩ := hrd (by omega)
      subst hA
      have y1 := (HB.out.cell (World.block_lt_of_cell? w _ (hcell i hlt))).trans (hcell i hlt)
      have y2 := (HB.out.cell (World.block_lt_of_cell? w _ (hcell (i + 1) hlt2))).trans (hcell (i + 1) hlt2)
      have hdr : l1.drop i = l1.getD i 0 :: l1.getD (i + 1) 0 :: l1.drop (i + 2) := by
        rw [List.drop_eq_getElem_cons hlt, List.drop_eq_getElem_cons hlt2]
        simp [List.getD_eq_getElem?_getD, hlt, hlt2]
      have HDR := Lib.hid hdr
      have hca := hcell i hlt
      have hcb : w.cell? ⟨ad1.block, ad1.off + (i + 1), none⟩ = _ := hcell (i + 1) hlt2
      replace y2 : wr.cell? ⟨ad1.block, ad1.off + (i + 1), none⟩ = _ := y2
      generalize l1.getD i 0 = a at *
      generalize l1.getD (i + 1) 0 = b at *
      have HCALL := Lib.hid (fun W (hb : Below w.heap.size w W) => name_calls a0 a b W am ae ad (HE.out.below hb) (HL.out.below hb) hs)
      have HY : Hid (∀ W, Below w.heap.size w W → W.cell? (ad1.add i) = some (.int .i64 a) ∧ W.cell? ⟨ad1.block, ad1.off + (i + 1), none⟩ = some (.int .i64 b)) := Lib.hid (fun W hb => ⟨(hb.cell (World.block_lt_of_cell? w _ hca)).trans hca, (hb.cell (World.block_lt_of_cell? w _ hcb)).trans hcb⟩)
      have HB1 : Hid (Below w.heap.size w wr.drew) := Lib.hid (HB.out.trans ((below_drewN wr 1).mono HB.out.size))
      have HB2 : Hid (Below w.heap.size w (wr.alloc (.cells #[.int .i64 0, .string ⟨#[]⟩, .string ⟨#[]⟩, .int .i64 0, .int .i64 0] 41)).drew) := Lib.hid ((HB.out.alloc HB.out.size (.cells #[.int .i64 0, .string ⟨#[]⟩, .string ⟨#[]⟩, .int .i64 0, .int .i64 0] 41)).trans ((below_drewN _ 1).mono (by have := HB.out.size; simp; omega)))
      have ZB : Hid ((wr.alloc (.cells #[.int .i64 0, .string ⟨#[]⟩, .string ⟨#[]⟩, .int .i64 0, .int .i64 0] 41)).drew.heap[wr.heap.size]? = some (.cells #[.int .i64 0, .string ⟨#[]⟩, .string ⟨#[]⟩, .int .i64 0, .int .i64 0] 41)) := Lib.hid (World.alloc_heap_new _ _)
      have hwr : IntKind.i64.wrap ((i : Int) + 1) = (i : Int) + 1 := by rw [IntKind.wrap_i64]; omega
      have z3 : (0 : Int) ≤ (i : Int) + 1 := by omega
      have HBW1 : Hid (Below wr.heap.size wr wr.drew) := Lib.hid (below_drewN wr 1)
      have HBW2 : Hid (Below wr.heap.size wr (wr.alloc (.cells #[.int .i64 0, .string ⟨#[]⟩, .string ⟨#[]⟩, .int .i64 0, .int .i64 0] 41)).drew) := Lib.hid ((b_alloc (Below.refl _ _) _).trans ((below_drewN _ 1).mono (by simp)))
      have HRW : Hid (Kd.R kNm 41 wr w.heap.size (fun k => k < wr.heap.size) (.slice A m c) lk) := Lib.hid (Kd.R_mono (Kd.R_bound HRR.out) (fun k hk => hk.2.2.1))
      have yn1 := World.new_ne wr (ad1.add i) y1
      have yn2 := World.new_ne wr ⟨ad1.block, ad1.off + (i + 1), none⟩ y2
      clear hrd hcell hdr hca hcb
      obtain ⟨x, ok, hnm⟩ : ∃ x ok, nameT a0 a b = (x, ok) := ⟨_, _, rfl⟩
      have hcall := HCALL.out
      rw [hnm] at hcall
      have HNM := Lib.hid hnm
      clear hnm HCALL
      cases ok with
      | false =>
        have hres : namesT a0 l1 = none := by
          rw [HN.out, HDR.out, namesT, HNM.out]
          rfl
        have hh := HH.out
        rw [hres] at hh
        simp only [Prod.mk.injEq] at hh
        obtain ⟨rfl, rfl⟩ := hh
        unfold nameE errV at hcall
        simp only [Bool.false_eq_true, if_false] at hcall
        clear hres
        go_wp2_with (fail)
        go_region_held3 (fun w' => w'.cell? (ad1.add i) = some (.int .i64 a) ∧ w'.cell? ⟨ad1.block, ad1.off + (i + 1), none⟩ = some (.int .i64 b)) (go_keep) (first | (go_at_call 30; refine (hcall _ ?hW).mono ?_; (case hW => first | exact HB1.out | exact HB2.out); rintro e w5 ⟨rfl, hb5⟩; have hB5 : Below w.heap.size w w5 := (by first | exact HB1.out.trans (hb5.mono HB1.out.size) | exact HB2.out.trans (hb5.mono HB2.out.size)); obtain ⟨k1, k2⟩ := HY.out w5 hB5; have HB5 := Lib.hid hB5; have HK5 := Lib.hid hb5; clear hB5; (first | (have zb := (hb5.block wr.heap.size (by simp)).trans ZB.out; have zz0 := cell_blk zb 0; have zz1 := cell_blk zb 1; have zz2 := cell_blk zb 2; have zz3 := cell_blk zb 3; have zz4 := cell_blk zb 4; have zf := fun j => frozen_blk zb j; simp at zz0 zz1 zz2 zz3 zz4; have ZB5 := Lib.hid zb; clear zb) | skip); have HR5 := Lib.hid (Kd.R_below HRW.out (by first | exact HBW1.out.trans (hb5.mono HBW1.out.size) | exact HBW2.out.trans (hb5.mono HBW2.out.size))); clear hb5))
        · skip
          obtain ⟨tb, htb⟩ : ∃ tb, tb = w5.heap.size := ⟨_, rfl⟩
          obtain ⟨w6, hw6⟩ : ∃ w6, w6 = w5.alloc (.cells (Nm.cells x) 41) := ⟨_, rfl⟩
          have hy6 : w6.heap[tb]? = some (.cells (Nm.cells x) 41) := by rw [hw6, htb]; exact World.alloc_heap_new _ _
          have hB6 : Below w.heap.size w w6 := by rw [hw6]; exact HB5.out.alloc HB5.out.size _
          have hR6 : Kd.R kNm 41 w6 w.heap.size (fun _ => True) (.slice A m c) lk := by rw [hw6]; exact Kd.R_mono (Kd.R_below HR5.out (b_alloc (Below.refl _ _) _)) (fun _ _ => trivial)
          rw [← htb]
          change Exit.then _ _ _ _ (w5.alloc (.cells (Nm.cells x) 41))
          rw [← hw6]
          clear htb hw6
          have HY6 := Lib.hid hy6
          have HB6 := Lib.hid hB6
          have HR6 := Lib.hid hR6
          clear hy6 hB6 hR6 k1 k2 yn1 yn2 y1 y2 hcall
          go_wp2_with (go_at_call 29; go_loud (refine (hdict A m c w6 (HE.out.below HB6.out)).mono ?_); rintro e w7 ⟨rfl, rfl⟩)
          go_ret2
          exact ⟨_, rfl, Kd.R_nil _ _ _ _ _, HB6.out⟩
        · skip
          obtain ⟨tb, htb⟩ : ∃ tb, tb = wr.heap.size := ⟨_, rfl⟩
          obtain ⟨w6, hw6⟩ : ∃ w6, w6 = (((((w5.setCell ⟨wr.heap.size, 0, none⟩ (.int .i64 x.f0)).setCell ⟨wr.heap.size, 1, none⟩ (.string x.f1)).setCell ⟨wr.heap.size, 2, none⟩ (.string x.f2)).setCell ⟨wr.heap.size, 3, none⟩ (.int .i64 x.f3)).setCell ⟨wr.heap.size, 4, none⟩ (.int .i64 x.f4)) := ⟨_, rfl⟩
          have hy6 : w6.heap[tb]? = some (.cells (Nm.cells x) 41) := by rw [hw6, htb]; exact setNm (y := zeroNm) ZB5.out
          have hB6 : Below w.heap.size w w6 := by
            rw [hw6]
            iterate 5 refine Below.setCell ?_ (show w.heap.size ≤ wr.heap.size from HB.out.size) _
            exact HB5.out
          have hR6 : Kd.R kNm 41 w6 w.heap.size (fun _ => True) (.slice A m c) lk := by
            rw [hw6]
            refine Kd.R_mono (ok := fun k => k < wr.heap.size) ?_ (fun _ _ => trivial)
            iterate 5 refine Kd.R_far ?_ (fun k hk => by show k ≠ wr.heap.size; omega) _
            exact HR5.out
          rw [← hw6, ← htb]
          clear htb hw6 zz0 zz1 zz2 zz3 zz4 zf
          have HY6 := Lib.hid hy6
          have HB6 := Lib.hid hB6
          have HR6 := Lib.hid hR6
          clear hy6 hB6 hR6 k1 k2 yn1 yn2 y1 y2 hcall
          go_wp2_with (go_at_call 29; go_loud (refine (hdict A m c w6 (HE.out.below HB6.out)).mono ?_); rintro e w7 ⟨rfl, rfl⟩)
          go_ret2
          exact ⟨_, rfl, Kd.R_nil _ _ _ _ _, HB6.out⟩
      | true =>
        unfold nameE at hcall
        simp only [if_true] at hcall
        go_wp2_with (fail)
        go_region_held3 (fun w' => w'.cell? (ad1.add i) = some (.int .i64 a) ∧ w'.cell? ⟨ad1.block, ad1.off + (i + 1), none⟩ = some (.int .i64 b)) (go_keep) (first | (go_at_call 30; refine (hcall _ ?hW).mono ?_; (case hW => first | exact HB1.out | exact HB2.out); rintro e w5 ⟨rfl, hb5⟩; have hB5 : Below w.heap.size w w5 := (by first | exact HB1.out.trans (hb5.mono HB1.out.size) | exact HB2.out.trans (hb5.mono HB2.out.size)); obtain ⟨k1, k2⟩ := HY.out w5 hB5; have HB5 := Lib.hid hB5; have HK5 := Lib.hid hb5; clear hB5; (first | (have zb := (hb5.block wr.heap.size (by simp)).trans ZB.out; have zz0 := cell_blk zb 0; have zz1 := cell_blk zb 1; have zz2 := cell_blk zb 2; have zz3 := cell_blk zb 3; have zz4 := cell_blk zb 4; have zf := fun j => frozen_blk zb j; simp at zz0 zz1 zz2 zz3 zz4; have ZB5 := Lib.hid zb; clear zb) | skip); have HR5 := Lib.hid (Kd.R_below HRW.out (by first | exact HBW1.out.trans (hb5.mono HBW1.out.size) | exact HBW2.out.trans (hb5.mono HBW2.out.size))); clear hb5))
        · skip
          obtain ⟨tb, htb⟩ : ∃ tb, tb = w5.heap.size := ⟨_, rfl⟩
          obtain ⟨w6, hw6⟩ : ∃ w6, w6 = w5.alloc (.cells (Nm.cells x) 41) := ⟨_, rfl⟩
          have hy6 : w6.heap[tb]? = some (.cells (Nm.cells x) 41) := by rw [hw6, htb]; exact World.alloc_heap_new _ _
          have hB6 : Below w.heap.size w w6 := by rw [hw6]; exact HB5.out.alloc HB5.out.size _
          have hR6 : Kd.R kNm 41 w6 w.heap.size (fun _ => True) (.slice A m c) lk := by rw [hw6]; exact Kd.R_mono (Kd.R_below HR5.out (b_alloc (Below.refl _ _) _)) (fun _ _ => trivial)
          rw [← htb]
          change Exit.then _ _ _ _ (w5.alloc (.cells (Nm.cells x) 41))
          rw [← hw6]
          clear htb hw6
          have HY6 := Lib.hid hy6
          have HB6 := Lib.hid hB6
          have HR6 := Lib.hid hR6
          have l0 := cell_blk hy6 0
          have l1' := cell_blk hy6 1
          have l2 := cell_blk hy6 2
          have l3 := cell_blk hy6 3
          have l4 := cell_blk hy6 4
          simp [Nm.cells] at l0 l1' l2 l3 l4
          clear hy6 hB6 hR6 k1 k2 yn1 yn2 y1 y2 hcall
          go_wp2_with ((with_reducible refine gate_builtin (b := .append) (xs := #[.tmp 53, .tmp 55]) rfl ?_); at_builtin; go_loud (refine Kd.R_append kNm (w0 := w) w.heap.size rfl (.tmp 53) (.tmp 55) 22 41 (.agg #[(.int .i64 0), (.string ⟨#[]⟩), (.string ⟨#[]⟩), (.int .i64 0), (.int .i64 0)]) 56 rfl Tryz.underlying22 info41 rfl (by decide) (by decide) (.slice A m c) lk x [.int .i64 x.f0, .string x.f1, .string x.f2, .int .i64 x.f3, .int .i64 x.f4] (fun _ => True) (fun _ => False) rfl rfl (k41_mkM _ _ _ x) (fun _ hk => hk.elim) (fun _ _ => trivial) HR6.out HB6.out HB6.out.size (by have := HLK.out; omega) ?_); intro v1 w9 ho9 hb9 hg9 hat9; clear hg9 hat9; obtain ⟨A9, c9, e9⟩ := Kd.R_slice ho9; obtain ⟨m9, hm9⟩ : ∃ m9, m9 = (lk ++ [x]).length := ⟨_, rfl⟩; rw [← hm9] at e9; subst e9; have HO9 := Lib.hid ho9; have HB9 := Lib.hid hb9; clear ho9 hb9 hm9)
          go_roundg (l1.length + 1 - (i + 2))
          case measure => omega
          case rel => exact ⟨A9, m9, c9, i + 2, lk ++ [x], rfl, by go_num, by omega, by omega, Lib.hid (by have := HM.out; omega), Lib.hid (by have := HLK.out; simp; omega), Lib.hid (by rw [HN.out, HDR.out, namesT, HNM.out, if_pos rfl, Option.map_map]; congr 1; funext z; simp), HO9, HB9⟩
        · skip
          obtain ⟨tb, htb⟩ : ∃ tb, tb = wr.heap.size := ⟨_, rfl⟩
          obtain ⟨w6, hw6⟩ : ∃ w6, w6 = (((((w5.setCell ⟨wr.heap.size, 0, none⟩ (.int .i64 x.f0)).setCell ⟨wr.heap.size, 1, none⟩ (.string x.f1)).setCell ⟨wr.heap.size, 2, none⟩ (.string x.f2)).setCell ⟨wr.heap.size, 3, none⟩ (.int .i64 x.f3)).setCell ⟨wr.heap.size, 4, none⟩ (.int .i64 x.f4)) := ⟨_, rfl⟩
          have hy6 : w6.heap[tb]? = some (.cells (Nm.cells x) 41) := by rw [hw6, htb]; exact setNm (y := zeroNm) ZB5.out
          have hB6 : Below w.heap.size w w6 := by
            rw [hw6]
            iterate 5 refine Below.setCell ?_ (show w.heap.size ≤ wr.heap.size from HB.out.size) _
            exact HB5.out
          have hR6 : Kd.R kNm 41 w6 w.heap.size (fun _ => True) (.slice A m c) lk := by
            rw [hw6]
            refine Kd.R_mono (ok := fun k => k < wr.heap.size) ?_ (fun _ _ => trivial)
            iterate 5 refine Kd.R_far ?_ (fun k hk => by show k ≠ wr.heap.size; omega) _
            exact HR5.out
          rw [← hw6, ← htb]
          clear htb hw6 zz0 zz1 zz2 zz3 zz4 zf
          have HY6 := Lib.hid hy6
          have HB6 := Lib.hid hB6
          have HR6 := Lib.hid hR6
          have l0 := cell_blk hy6 0
          have l1' := cell_blk hy6 1
          have l2 := cell_blk hy6 2
          have l3 := cell_blk hy6 3
          have l4 := cell_blk hy6 4
          simp [Nm.cells] at l0 l1' l2 l3 l4
          clear hy6 hB6 hR6 k1 k2 yn1 yn2 y1 y2 hcall
          go_wp2_with ((with_reducible refine gate_builtin (b := .append) (xs := #[.tmp 53, .tmp 55]) rfl ?_); at_builtin; go_loud (refine Kd.R_append kNm (w0 := w) w.heap.size rfl (.tmp 53) (.tmp 55) 22 41 (.agg #[(.int .i64 0), (.string ⟨#[]⟩), (.string ⟨#[]⟩), (.int .i64 0), (.int .i64 0)]) 56 rfl Tryz.underlying22 info41 rfl (by decide) (by decide) (.slice A m c) lk x [.int .i64 x.f0, .string x.f1, .string x.f2, .int .i64 x.f3, .int .i64 x.f4] (fun _ => True) (fun _ => False) rfl rfl (k41_mkM _ _ _ x) (fun _ hk => hk.elim) (fun _ _ => trivial) HR6.out HB6.out HB6.out.size (by have := HLK.out; omega) ?_); intro v1 w9 ho9 hb9 hg9 hat9; clear hg9 hat9; obtain ⟨A9, c9, e9⟩ := Kd.R_slice ho9; obtain ⟨m9, hm9⟩ : ∃ m9, m9 = (lk ++ [x]).length := ⟨_, rfl⟩; rw [← hm9] at e9; subst e9; have HO9 := Lib.hid ho9; have HB9 := Lib.hid hb9; clear ho9 hb9 hm9)
          go_roundg (l1.length + 1 - (i + 2))
          case measure => omega
          case rel => exact ⟨A9, m9, c9, i + 2, lk ++ [x], rfl, by go_num, by omega, by omega, Lib.hid (by have := HM.out; omega), Lib.hid (by have := HLK.out; simp; omega), Lib.hid (by rw [HN.out, HDR.out, namesT, HNM.out, if_pos rfl, Option.map_map]; congr 1; funext z; simp), HO9, HB9⟩
    · have z1 : ¬ (i : Int) < (l1.length : Int) := by omega
      have hk : i = l1.length := by omega
      subst hk
      have hres : namesT a0 l1 = some lk := by
        rw [HN.out, List.drop_length]
        simp [namesT]
      have hh := HH.out
      rw [hres] at hh
      simp only at hh
      have hoks := names_ok a0 hs l1.length l1 lk (Nat.le_refl _) hres
      obtain ⟨A', c', he, hlc, hC⟩ := Kd.R_reads HRR.out
      injection he with e1 e2 e3
      subst e1 e2 e3
      have hb := built_calls A c lk wr am ae ad (HE.out.below HB.out) (HL.out.below HB.out) hC hoks hC.2.1
      have hdict' := fun W hW => hdict A lk.length c W hW
      have hnil' := fun W hW => either_eids_nil A lk.length c W am ae ad hW
      have HHH := Lib.hid hh
      have HHR := Lib.hid hr1'
      have HRR2 := Lib.hid (Kd.R_mono (Kd.R_bound HRR.out) (ok' := fun k => k < wr.heap.size) (fun k hk => hk.2.2.1))
      clear hdict hres hh hoks hC hlc HN HM hu HRR
      unfold buildT at HHH
      by_cases h30 : 30 < lk.length
      · simp only [if_pos h30] at hb HHH
        rw [if_neg (by simp)] at HHH
        have hh := HHH.out
        simp only [Prod.mk.injEq] at hh
        obtain ⟨rfl, rfl⟩ := hh
        unfold errV at hb
        go_wp2_with (first | (go_at_call 24; refine hb.mono ?_; rintro e w1 ⟨hb1, rfl⟩; have gd1 := ((HE.out.below HB.out).below hb1).dict.1) | (go_at_call 29; refine (hdict' _ ((HE.out.below HB.out).below hb1)).mono ?_; rintro e w2 ⟨rfl, rfl⟩))
        go_ret2
        exact ⟨_, rfl, Kd.R_nil _ _ _ _ _, HB.out.trans (hb1.mono HB.out.size)⟩
      · simp only [if_neg h30] at hb HHH
        by_cases hr : lk.any (fun x => !x.right) = true
        · simp only [if_pos hr] at hb HHH
          rw [if_neg (by simp)] at HHH
          have hh := HHH.out
          simp only [Prod.mk.injEq] at hh
          obtain ⟨rfl, rfl⟩ := hh
          unfold errV at hb
          go_wp2_with (first | (go_at_call 24; refine hb.mono ?_; rintro e w1 ⟨hb1, rfl⟩; have gd1 := ((HE.out.below HB.out).below hb1).dict.1) | (go_at_call 29; refine (hdict' _ ((HE.out.below HB.out).below hb1)).mono ?_; rintro e w2 ⟨rfl, rfl⟩))
          go_ret2
          exact ⟨_, rfl, Kd.R_nil _ _ _ _ _, HB.out.trans (hb1.mono HB.out.size)⟩
        · simp only [if_neg hr] at hb HHH
          have OPEN : ∀ w1 bb, Below wr.heap.size wr w1 → BSt w1 wr.heap.size bb (builtS lk).1 (builtS lk).2 → ∃ Ao mo co Ap cp,
              w1.cell? ⟨bb, 1, none⟩ = some (.slice Ao mo co) ∧ w1.cell? ⟨bb, 2, none⟩ = some (.slice Ap (builtS lk).2.length cp) ∧ (convert 59 9 (.slice Ao mo co)).run Tryz.prog w1 = .ok (.string (txt (flatT (builtS lk).1))) w1 ∧
              Calls Tryz.prog 31 #[.slice Ap (builtS lk).2.length cp, .slice A1 l1.length c1] w1 fun e w' => e = .returned (.bool (decide ((builtS lk).2 = l1))) ∧ Drawn0 w1 w' := by
            intro w1 bb hb1 hS
            obtain ⟨mb, n, D, vo, vp, hbp, _, _⟩ := hS
            obtain ⟨Ao, mo, co, rfl, _⟩ := row_slice hbp.row
            have hRp : Kd.R (Kd.int .i64) tInt w1 wr.heap.size (fun _ => True) vp (builtS lk).2 := Kd.R_of_own hbp.prs (fun _ _ => trivial)
            obtain ⟨Ap, cp, rfl, hcp, hCp⟩ := Kd.R_reads hRp
            have hlen : (builtS lk).2.length ≤ 1000000 := by
              have hall : ∀ x ∈ lk, x.right = true := fun x hx => by
                have hr' : lk.any (fun x => !x.right) = false := Bool.eq_false_iff.2 hr
                have := (List.any_eq_false.1 hr') x hx
                simpa using this
              have := (buildF_bounds (lk.any Nm.dtn) lk ([], []) hall).2.2
              show (lk.foldl (buildF (lk.any Nm.dtn)) ([], [])).2.length ≤ _
              rw [this]
              simp
              omega
            refine ⟨Ao, mo, co, Ap, cp, ?_, ?_, ?_, ?_⟩
            · have := cell_blk hbp.blk 1; simpa using this
            · have := cell_blk hbp.blk 2; simpa using this
            · rw [← str_txt]; exact own_string Tryz.underlying59 Tryz.underlying5 Tryz.underlying9 hbp.row
            · exact slices_Equal_int_int.calls ((builtS lk).2.length + 1) Ap cp (builtS lk).2 A1 c1 l1 _ w1 hCp hcp (Kd.C_below HR.out (HB.out.trans (hb1.mono HB.out.size))) HHR.out (equal_is _ _ _ hlen (Nat.lt_succ_self _))
          have HOP := Lib.hid OPEN
          clear OPEN
          generalize builtS lk = st at *
          by_cases ht : txt (flatT st.1) = a0
          · have htl : (txt (flatT st.1)).toList = a0.toList := by rw [ht]
            by_cases hp : st.2 = l1
            · have HRES := HHH.out
              rw [if_pos (by rw [ht, hp])] at HRES
              simp only [Prod.mk.injEq] at HRES
              obtain ⟨rfl, rfl⟩ := HRES
              rw [decide_eq_true hp] at HOP
              clear hp ht HHH
              go_wp2_with (first | (go_at_call 24; refine hb.mono ?_; rintro e w1 ⟨hb1, bb, rfl, hS⟩; obtain ⟨Ao, mo, co, Ap, cp, x1, x2, x3, x4⟩ := HOP.out w1 bb hb1 hS; clear hS) | (go_at_call 31; refine x4.mono ?_; rintro e w2 ⟨rfl, hd2⟩; obtain ⟨nd, rfl⟩ := hd2.out) | (go_at_call 29; refine (hnil' _ (((HE.out.below HB.out).below hb1).below (below_drewN _ _))).mono ?_; rintro e w2 ⟨rfl, rfl⟩))
              go_ret2
              exact ⟨_, rfl, Kd.R_mono (Kd.R_below HRR2.out (hb1.trans ((below_drewN w1 nd).mono hb1.size))) (fun _ _ => trivial), HB.out.trans ((hb1.trans ((below_drewN w1 nd).mono hb1.size)).mono HB.out.size)⟩
            · have HRES := HHH.out
              rw [if_neg (by intro q; simp only [Prod.mk.injEq] at q; exact hp q.2.1)] at HRES
              simp only [Prod.mk.injEq] at HRES
              obtain ⟨rfl, rfl⟩ := HRES
              rw [decide_eq_false hp] at HOP
              clear hp ht HHH
              go_wp2_with (first | (go_at_call 24; refine hb.mono ?_; rintro e w1 ⟨hb1, bb, rfl, hS⟩; obtain ⟨Ao, mo, co, Ap, cp, x1, x2, x3, x4⟩ := HOP.out w1 bb hb1 hS; clear hS; have gd1 := ((HE.out.below HB.out).below hb1).dict.1) | (go_at_call 31; refine x4.mono ?_; rintro e w2 ⟨rfl, hd2⟩; obtain ⟨nd, rfl⟩ := hd2.out) | (go_at_call 29; refine (hdict' _ (((HE.out.below HB.out).below hb1).below (below_drewN _ _))).mono ?_; rintro e w2 ⟨rfl, rfl⟩))
              go_ret2
              exact ⟨_, rfl, Kd.R_nil _ _ _ _ _, HB.out.trans ((hb1.trans ((below_drewN w1 nd).mono hb1.size)).mono HB.out.size)⟩
          · have htl : ¬ (txt (flatT st.1)).toList = a0.toList := fun e => ht (ba_ext e)
            have HRES := HHH.out
            rw [if_neg (by intro q; simp only [Prod.mk.injEq] at q; exact ht q.1)] at HRES
            simp only [Prod.mk.injEq] at HRES
            obtain ⟨rfl, rfl⟩ := HRES
            clear ht HHH
            go_wp2_with (first | (go_at_call 24; refine hb.mono ?_; rintro e w1 ⟨hb1, bb, rfl, hS⟩; obtain ⟨Ao, mo, co, Ap, cp, x1, x2, x3, x4⟩ := HOP.out w1 bb hb1 hS; clear hS; have gd1 := ((HE.out.below HB.out).below hb1).dict.1) | (go_at_call 29; refine (hdict' _ ((HE.out.below HB.out).below hb1)).mono ?_; rintro e w2 ⟨rfl, rfl⟩))
            go_ret2
            exact ⟨_, rfl, Kd.R_nil _ _ _ _ _, HB.out.trans (hb1.mono HB.out.size)⟩
end Go.Proofs.YtbjbicaffblchaaGreatDoor.Hand
end
section
namespace Go.Proofs.YtbjbicaffblchaaGreatDoor.Hand
open Go.RowKit Go.Proofs.YtbjbicaffblchaaGreatDoorW Go.Proofs.YtbjbicaffblchaaGreatDoorW.PrintWords Go.Proofs.YtbjbicaffblchaaGreatDoor.SK
theorem isEmpty_clash2 {l : List UInt8} {b : Bool} {i_ : Decidable ((l != []) = b)} (h1 : @decide _ i_ = true) (h2 : ¬ l.isEmpty = !b) : False := by
  have h1 := of_decide_eq_true h1
  cases l <;> simp_all
theorem isEmpty_clash' {l : List UInt8} {b : Bool} {i_ : Decidable ((l != []) = b)} (h1 : @decide _ i_ = true) (h2 : l.isEmpty = b) : False := by
  have h1 := of_decide_eq_true h1
  cases l <;> simp_all
theorem isEmpty_clash {l : List UInt8} {b : Bool} (h1 : (l != []) = b) (h2 : l.isEmpty = b) : False := by
  cases l <;> cases b <;> simp_all
def eid_HalvesD.f (n : Int) (a1 a2 : ByteArray) (a3 a4 : Int) : Option (ByteArray × ByteArray × Int) := eid_Halves.f n a1 a2 a3 a4
theorem eid_HalvesD.calls (n : Int) (a1 a2 : ByteArray) (a3 a4 : Int) (r1 r2 : ByteArray) (r3 : Int) (w : World) (hLd : LaidD w) (h : eid_HalvesD.f n a1 a2 a3 a4 = some (r1, r2, r3)) :
    Calls Tryz.prog 22 #[.agg #[.int .i64 n, .string a1, .string a2, .int .i64 a3, .int .i64 a4]] w fun e w' => e = .returned (.tuple #[.string r1, .string r2, .int .i64 r3]) ∧ Below w.heap.size w w' :=
  eid_Halves.calls n a1 a2 a3 a4 r1 r2 r3 w hLd.laid h
end Go.Proofs.YtbjbicaffblchaaGreatDoor.Hand
end
section
namespace Go.Proofs.YtbjbicaffblchaaGreatDoor.SS
open Go.Proofs.YtbjbicaffblchaaGreatDoor.Hand
open Go.Proofs.YtbjbicaffblchaaGreatDoor.SA
open Go.Proofs.YtbjbicaffblchaaGreatDoor.SK
open Go.RowKit Go.Proofs.YtbjbicaffblchaaGreatDoorW.PrintWords Go.Proofs.YtbjbicaffblchaaGreatDoorW.PrintLast Go.Proofs.YtbjbicaffblchaaGreatDoorW.PrintMore
attribute [local go_sem] max2_int min2_int max_two min_two max_three min_three max_four min_four
set_option linter.unusedVariables false
set_option linter.unusedSimpArgs false
def errW : Option Int → Value
  | none => .nilIface
  | some c => .iface 0 (.int .i64 c)
theorem errW_none : errW none = .nilIface := rfl
theorem errW_some (c : Int) : errW (some c) = .iface 0 (.int .i64 c) := rfl
theorem info3 : (Tryz.prog.info? 3).map (fun i => (i.zero, i.size, i.bytes)) = some (some (.int .i64 0), 1, 8) := by kernel_rfl
theorem info9 : (Tryz.prog.info? 9).map (fun i => (i.zero, i.size, i.bytes)) = some (some (.string ⟨#[]⟩), 1, 16) := by kernel_rfl
theorem info41 : (Tryz.prog.info? 41).map (fun i => (i.zero, i.size, i.bytes)) = some (some (.agg #[(.int .i64 0), (.string ⟨#[]⟩), (.string ⟨#[]⟩), (.int .i64 0), (.int .i64 0)]), 5, 56) := by kernel_rfl
end Go.Proofs.YtbjbicaffblchaaGreatDoor.SS
end

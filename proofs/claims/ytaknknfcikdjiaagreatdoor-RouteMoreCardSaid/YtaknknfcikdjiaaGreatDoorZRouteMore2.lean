import Derived.Test.YtaknknfcikdjiaaGreatDoorZRouteMore1
import Derived.ArgAppend
import Derived.Below
import Derived.BigQuiet
import Derived.Carry
import Derived.ChangeArms
import Derived.ChangeSlices
import Derived.Deep.AppendLies
import Derived.Deep.CutBlock
import Derived.Deep.DeepCutAuto
import Derived.Deep.Draws
import Derived.Deep.LoopGhost
import Derived.Deep.OwnRows
import Derived.Deep.QuietTactic
import Derived.Deep.RegionHeld3
import Derived.KernelRfl
import Derived.Laws.BitsLemmas
import Derived.Laws.BytesArg
import Derived.Laws.IdiomCopy
import Derived.Laws.MakeOwn
import Derived.Laws.OwnMore
import Derived.Laws.Rows
import Derived.Laws.Slices
import Derived.Lib.AppendStr
import Derived.Lib.ConvBytes
import Derived.Maps.AppendAt
import Derived.Maps.OwnIn
import Derived.OrdersHeld
import Derived.OwnWalk
import Derived.RowKit
import Derived.RowKit3
import Derived.Tactics
import Derived.Test.YtaknknfcikdjiaaGreatDoorProg
import Derived.WalkKit
import Derived.WideLaws
section
namespace Go.Proofs.YtaknknfcikdjiaaGreatDoor.RK
open Go.Proofs.YtaknknfcikdjiaaGreatDoor.Hand
open Go.Proofs.YtaknknfcikdjiaaGreatDoor.SA
open Go.RowKit Go.Proofs.YtaknknfcikdjiaaGreatDoorW.PrintWords Go.Proofs.YtaknknfcikdjiaaGreatDoorW.PrintLast Go.Proofs.YtaknknfcikdjiaaGreatDoorW.PrintMore
attribute [local go_sem] max2_int min2_int max_two min_two max_three min_three max_four min_four
set_option linter.unusedVariables false
set_option linter.unusedSimpArgs false
def stringslite_HasPrefix.f (a0 : ByteArray) (a1 : ByteArray) : Option (Bool) := if (a0.size : Int) ≥ (a1.size : Int) then (if 0 ≤ (a1.size : Int) then (if (a1.size : Int) ≤ (a0.size : Int) then (some ((a0.extract 0 ((a1.size : Int) : Int).toNat).toList == a1.toList)) else (none)) else (none)) else (some false)
set_option maxHeartbeats 8000000 in
set_option maxRecDepth 100000 in
theorem stringslite_HasPrefix.calls (a0 : ByteArray) (a1 : ByteArray) (r : Bool) (w : World) (h : stringslite_HasPrefix.f a0 a1 = some r) :
    Calls Tryz.prog 43 #[.string a0, .string a1] w fun e w' => e = .returned (.bool r) ∧ Drawn0 w w' := by
  have H : (if (a0.size : Int) ≥ (a1.size : Int) then (if 0 ≤ (a1.size : Int) then (if (a1.size : Int) ≤ (a0.size : Int) then (some ((a0.extract 0 ((a1.size : Int) : Int).toNat).toList == a1.toList)) else (none)) else (none)) else (some false)) = some r := h
  clear h
  by_cases c3 : (a0.size : Int) ≥ (a1.size : Int)
  · rw [if_pos c3] at H
    have c3b0 : decide ((a1.size : Int) ≤ (a0.size : Int)) = true := decide_eq_true c3
    have c3b1 : decide (a1.size ≤ a0.size) = true := decide_eq_true (Int.ofNat_le.mp c3)
    clear c3
    by_cases c4 : 0 ≤ (a1.size : Int)
    · rw [if_pos c4] at H
      have c4b0 := eq_true c4
      have c4b1 : decide (0 ≤ (a1.size : Int)) = true := decide_eq_true c4
      clear c4
      by_cases c5 : (a1.size : Int) ≤ (a0.size : Int)
      · rw [if_pos c5] at H
        have c5b0 := eq_true c5
        have c5b1 : decide ((a1.size : Int) ≤ (a0.size : Int)) = true := decide_eq_true c5
        clear c5
        obtain rfl := Option.some.inj H
        go_enter Tryz.func43, Tryz.ntmps43
        go_wp2
        all_goals (first | (go_ret; exact ⟨by first | rfl | (simp; done) | (simp [*]; done) | (simp_all; done) | fail, by repeat (first | exact Drawn0.refl _ | apply Drawn0.step)⟩) | (exfalso; simp_all; done) | (exfalso; simp only [isEmpty_eq, isEmpty_ne] at *; simp_all; done) | (exfalso; exact isEmpty_clash (by assumption) (by assumption)) | (exfalso; exact isEmpty_clash' (by assumption) (by assumption)) | (exfalso; exact isEmpty_clash2 (by assumption) (by assumption)))
      · rw [if_neg c5] at H
        exact absurd H (by simp)
    · rw [if_neg c4] at H
      exact absurd H (by simp)
  · rw [if_neg c3] at H
    have c3b0 : decide ((a1.size : Int) ≤ (a0.size : Int)) = false := decide_eq_false c3
    have c3b1 : decide (a1.size ≤ a0.size) = false := decide_eq_false (fun h => c3 (Int.ofNat_le.mpr h))
    clear c3
    obtain rfl := Option.some.inj H
    go_enter Tryz.func43, Tryz.ntmps43
    go_wp2
    all_goals (first | (go_ret; exact ⟨by first | rfl | (simp; done) | (simp [*]; done) | (simp_all; done) | fail, by repeat (first | exact Drawn0.refl _ | apply Drawn0.step)⟩) | (exfalso; simp_all; done) | (exfalso; simp only [isEmpty_eq, isEmpty_ne] at *; simp_all; done) | (exfalso; exact isEmpty_clash (by assumption) (by assumption)) | (exfalso; exact isEmpty_clash' (by assumption) (by assumption)) | (exfalso; exact isEmpty_clash2 (by assumption) (by assumption)))
def strings_HasPrefix.f (a0 : ByteArray) (a1 : ByteArray) : Option (Bool) := (stringslite_HasPrefix.f a0 a1).bind fun t101 => (some t101)
set_option maxHeartbeats 8000000 in
set_option maxRecDepth 100000 in
theorem strings_HasPrefix.calls (a0 : ByteArray) (a1 : ByteArray) (r : Bool) (w : World) (h : strings_HasPrefix.f a0 a1 = some r) :
    Calls Tryz.prog 31 #[.string a0, .string a1] w fun e w' => e = .returned (.bool r) ∧ Drawn0 w w' := by
  have H : ((stringslite_HasPrefix.f a0 a1).bind fun t101 => (some t101)) = some r := h
  clear h
  replace H := Option.bind_eq_some_iff.mp H
  obtain ⟨t101, A30, H⟩ := H
  replace H : (some t101) = some r := H
  have A3 := Aside0.mk A30
  clear A30
  obtain rfl := Option.some.inj H
  go_enter Tryz.func31, Tryz.ntmps31
  go_wp2_with (first | ((with_reducible refine gate_callee (f := 43) rfl ?_); refine goesL_ (some 7) rfl rfl Tryz.func43 (by kernel_rfl) rfl #[.string a0, .string a1] rfl (by (try simp only [List.map_toArray, List.map_cons, List.map_nil]); first | done | rfl | (simp only [List.length_drop, List.length_take]; rfl)) ?_; (with_reducible refine (stringslite_HasPrefix.calls a0 a1 t101 _ A3.out).mono ?_); rintro e w' ⟨rfl, ⟨nd, rfl⟩⟩; refine ⟨_, rfl, ?_⟩))
  all_goals (first | (go_ret; exact ⟨by first | rfl | (simp; done) | (simp [*]; done) | (simp_all; done) | fail, by repeat (first | exact Drawn0.refl _ | apply Drawn0.step)⟩) | (exfalso; simp_all; done) | (exfalso; simp only [isEmpty_eq, isEmpty_ne] at *; simp_all; done) | (exfalso; exact isEmpty_clash (by assumption) (by assumption)) | (exfalso; exact isEmpty_clash' (by assumption) (by assumption)) | (exfalso; exact isEmpty_clash2 (by assumption) (by assumption)))
def cmp_isNaN_int.f (a0 : Int) : Option (Bool) := some (a0 != a0)
set_option maxHeartbeats 8000000 in
set_option maxRecDepth 100000 in
theorem cmp_isNaN_int.calls (a0 : Int) (r : Bool) (w : World) (h : cmp_isNaN_int.f a0 = some r) :
    Calls Tryz.prog 69 #[.int .i64 a0] w fun e w' => e = .returned (.bool r) ∧ Drawn0 w w' := by
  have H : (some (a0 != a0)) = some r := h
  clear h
  obtain rfl := Option.some.inj H
  go_enter Tryz.func69, Tryz.ntmps69
  go_wp2
  all_goals (first | (go_ret; exact ⟨by first | rfl | (simp; done) | (simp [*]; done) | (simp_all; done) | fail, by repeat (first | exact Drawn0.refl _ | apply Drawn0.step)⟩) | (exfalso; simp_all; done) | (exfalso; simp only [isEmpty_eq, isEmpty_ne] at *; simp_all; done) | (exfalso; exact isEmpty_clash (by assumption) (by assumption)) | (exfalso; exact isEmpty_clash' (by assumption) (by assumption)) | (exfalso; exact isEmpty_clash2 (by assumption) (by assumption)))
def cmp_Compare_int.f (a0 : Int) (a1 : Int) : Option (Int) := (cmp_isNaN_int.f a0).bind fun t102 => ((cmp_isNaN_int.f a1).bind fun t103 => (if t102 = true then (if t103 = true then (some 0) else (some (-1))) else (if t103 = true then (some 1) else (if a0 < a1 then (some (-1)) else (if a0 > a1 then (some 1) else (some 0))))))
set_option maxHeartbeats 8000000 in
set_option maxRecDepth 100000 in
theorem cmp_Compare_int.calls (a0 : Int) (a1 : Int) (r : Int) (w : World) (h : cmp_Compare_int.f a0 a1 = some r) :
    Calls Tryz.prog 52 #[.int .i64 a0, .int .i64 a1] w fun e w' => e = .returned (.int .i64 r) ∧ Drawn0 w w' := by
  have H : ((cmp_isNaN_int.f a0).bind fun t102 => ((cmp_isNaN_int.f a1).bind fun t103 => (if t102 = true then (if t103 = true then (some 0) else (some (-1))) else (if t103 = true then (some 1) else (if a0 < a1 then (some (-1)) else (if a0 > a1 then (some 1) else (some 0))))))) = some r := h
  clear h
  replace H := Option.bind_eq_some_iff.mp H
  obtain ⟨t102, A30, H⟩ := H
  replace H : ((cmp_isNaN_int.f a1).bind fun t103 => (if t102 = true then (if t103 = true then (some 0) else (some (-1))) else (if t103 = true then (some 1) else (if a0 < a1 then (some (-1)) else (if a0 > a1 then (some 1) else (some 0)))))) = some r := H
  have A3 := Aside0.mk A30
  clear A30
  replace H := Option.bind_eq_some_iff.mp H
  obtain ⟨t103, A40, H⟩ := H
  replace H : (if t102 = true then (if t103 = true then (some 0) else (some (-1))) else (if t103 = true then (some 1) else (if a0 < a1 then (some (-1)) else (if a0 > a1 then (some 1) else (some 0))))) = some r := H
  have A4 := Aside0.mk A40
  clear A40
  by_cases c5 : t102 = true
  · subst c5
    have H1 : (if t103 = true then (some 0) else (some (-1))) = some r := by rw [if_pos rfl] at H; exact H
    clear H
    have H := H1
    clear H1
    by_cases c6 : t103 = true
    · subst c6
      have H1 : (some 0) = some r := by rw [if_pos rfl] at H; exact H
      clear H
      have H := H1
      clear H1
      obtain rfl := Option.some.inj H
      go_enter Tryz.func52, Tryz.ntmps52
      go_wp2_with (first | ((with_reducible refine gate_callee (f := 69) rfl ?_); refine goesL_ (some 8) rfl rfl Tryz.func69 (by kernel_rfl) rfl #[.int .i64 a0] rfl (by (try simp only [List.map_toArray, List.map_cons, List.map_nil]); first | done | rfl | (simp only [List.length_drop, List.length_take]; rfl)) ?_; (with_reducible refine (cmp_isNaN_int.calls a0 true _ A3.out).mono ?_); rintro e w' ⟨rfl, ⟨nd, rfl⟩⟩; refine ⟨_, rfl, ?_⟩) | ((with_reducible refine gate_callee (f := 69) rfl ?_); refine goesL_ (some 10) rfl rfl Tryz.func69 (by kernel_rfl) rfl #[.int .i64 a1] rfl (by (try simp only [List.map_toArray, List.map_cons, List.map_nil]); first | done | rfl | (simp only [List.length_drop, List.length_take]; rfl)) ?_; (with_reducible refine (cmp_isNaN_int.calls a1 true _ A4.out).mono ?_); rintro e w' ⟨rfl, ⟨nd, rfl⟩⟩; refine ⟨_, rfl, ?_⟩))
      all_goals (first | (go_ret; exact ⟨by first | rfl | (simp; done) | (simp [*]; done) | (simp_all; done) | fail, by repeat (first | exact Drawn0.refl _ | apply Drawn0.step)⟩) | (exfalso; simp_all; done) | (exfalso; simp only [isEmpty_eq, isEmpty_ne] at *; simp_all; done) | (exfalso; exact isEmpty_clash (by assumption) (by assumption)) | (exfalso; exact isEmpty_clash' (by assumption) (by assumption)) | (exfalso; exact isEmpty_clash2 (by assumption) (by assumption)))
    · replace c6 := Bool.eq_false_iff.mpr c6
      subst c6
      have H1 : (some (-1)) = some r := by rw [if_neg (show ¬ (false = true) by decide)] at H; exact H
      clear H
      have H := H1
      clear H1
      obtain rfl := Option.some.inj H
      go_enter Tryz.func52, Tryz.ntmps52
      go_wp2_with (first | ((with_reducible refine gate_callee (f := 69) rfl ?_); refine goesL_ (some 8) rfl rfl Tryz.func69 (by kernel_rfl) rfl #[.int .i64 a0] rfl (by (try simp only [List.map_toArray, List.map_cons, List.map_nil]); first | done | rfl | (simp only [List.length_drop, List.length_take]; rfl)) ?_; (with_reducible refine (cmp_isNaN_int.calls a0 true _ A3.out).mono ?_); rintro e w' ⟨rfl, ⟨nd, rfl⟩⟩; refine ⟨_, rfl, ?_⟩) | ((with_reducible refine gate_callee (f := 69) rfl ?_); refine goesL_ (some 10) rfl rfl Tryz.func69 (by kernel_rfl) rfl #[.int .i64 a1] rfl (by (try simp only [List.map_toArray, List.map_cons, List.map_nil]); first | done | rfl | (simp only [List.length_drop, List.length_take]; rfl)) ?_; (with_reducible refine (cmp_isNaN_int.calls a1 false _ A4.out).mono ?_); rintro e w' ⟨rfl, ⟨nd, rfl⟩⟩; refine ⟨_, rfl, ?_⟩))
      all_goals (first | (go_ret; exact ⟨by first | rfl | (simp; done) | (simp [*]; done) | (simp_all; done) | fail, by repeat (first | exact Drawn0.refl _ | apply Drawn0.step)⟩) | (exfalso; simp_all; done) | (exfalso; simp only [isEmpty_eq, isEmpty_ne] at *; simp_all; done) | (exfalso; exact isEmpty_clash (by assumption) (by assumption)) | (exfalso; exact isEmpty_clash' (by assumption) (by assumption)) | (exfalso; exact isEmpty_clash2 (by assumption) (by assumption)))
  · replace c5 := Bool.eq_false_iff.mpr c5
    subst c5
    have H1 : (if t103 = true then (some 1) else (if a0 < a1 then (some (-1)) else (if a0 > a1 then (some 1) else (some 0)))) = some r := by rw [if_neg (show ¬ (false = true) by decide)] at H; exact H
    clear H
    have H := H1
    clear H1
    by_cases c7 : t103 = true
    · subst c7
      have H1 : (some 1) = some r := by rw [if_pos rfl] at H; exact H
      clear H
      have H := H1
      clear H1
      obtain rfl := Option.some.inj H
      go_enter Tryz.func52, Tryz.ntmps52
      go_wp2_with (first | ((with_reducible refine gate_callee (f := 69) rfl ?_); refine goesL_ (some 8) rfl rfl Tryz.func69 (by kernel_rfl) rfl #[.int .i64 a0] rfl (by (try simp only [List.map_toArray, List.map_cons, List.map_nil]); first | done | rfl | (simp only [List.length_drop, List.length_take]; rfl)) ?_; (with_reducible refine (cmp_isNaN_int.calls a0 false _ A3.out).mono ?_); rintro e w' ⟨rfl, ⟨nd, rfl⟩⟩; refine ⟨_, rfl, ?_⟩) | ((with_reducible refine gate_callee (f := 69) rfl ?_); refine goesL_ (some 10) rfl rfl Tryz.func69 (by kernel_rfl) rfl #[.int .i64 a1] rfl (by (try simp only [List.map_toArray, List.map_cons, List.map_nil]); first | done | rfl | (simp only [List.length_drop, List.length_take]; rfl)) ?_; (with_reducible refine (cmp_isNaN_int.calls a1 true _ A4.out).mono ?_); rintro e w' ⟨rfl, ⟨nd, rfl⟩⟩; refine ⟨_, rfl, ?_⟩))
      all_goals (first | (go_ret; exact ⟨by first | rfl | (simp; done) | (simp [*]; done) | (simp_all; done) | fail, by repeat (first | exact Drawn0.refl _ | apply Drawn0.step)⟩) | (exfalso; simp_all; done) | (exfalso; simp only [isEmpty_eq, isEmpty_ne] at *; simp_all; done) | (exfalso; exact isEmpty_clash (by assumption) (by assumption)) | (exfalso; exact isEmpty_clash' (by assumption) (by assumption)) | (exfalso; exact isEmpty_clash2 (by assumption) (by assumption)))
    · replace c7 := Bool.eq_false_iff.mpr c7
      subst c7
      have H1 : (if a0 < a1 then (some (-1)) else (if a0 > a1 then (some 1) else (some 0))) = some r := by rw [if_neg (show ¬ (false = true) by decide)] at H; exact H
      clear H
      have H := H1
      clear H1
      by_cases c8 : a0 < a1
      · rw [if_pos c8] at H
        have c8b0 : decide (a0 < a1) = true := decide_eq_true c8
        clear c8
        obtain rfl := Option.some.inj H
        go_enter Tryz.func52, Tryz.ntmps52
        go_wp2_with (first | ((with_reducible refine gate_callee (f := 69) rfl ?_); refine goesL_ (some 8) rfl rfl Tryz.func69 (by kernel_rfl) rfl #[.int .i64 a0] rfl (by (try simp only [List.map_toArray, List.map_cons, List.map_nil]); first | done | rfl | (simp only [List.length_drop, List.length_take]; rfl)) ?_; (with_reducible refine (cmp_isNaN_int.calls a0 false _ A3.out).mono ?_); rintro e w' ⟨rfl, ⟨nd, rfl⟩⟩; refine ⟨_, rfl, ?_⟩) | ((with_reducible refine gate_callee (f := 69) rfl ?_); refine goesL_ (some 10) rfl rfl Tryz.func69 (by kernel_rfl) rfl #[.int .i64 a1] rfl (by (try simp only [List.map_toArray, List.map_cons, List.map_nil]); first | done | rfl | (simp only [List.length_drop, List.length_take]; rfl)) ?_; (with_reducible refine (cmp_isNaN_int.calls a1 false _ A4.out).mono ?_); rintro e w' ⟨rfl, ⟨nd, rfl⟩⟩; refine ⟨_, rfl, ?_⟩))
        all_goals (first | (go_ret; exact ⟨by first | rfl | (simp; done) | (simp [*]; done) | (simp_all; done) | fail, by repeat (first | exact Drawn0.refl _ | apply Drawn0.step)⟩) | (exfalso; simp_all; done) | (exfalso; simp only [isEmpty_eq, isEmpty_ne] at *; simp_all; done) | (exfalso; exact isEmpty_clash (by assumption) (by assumption)) | (exfalso; exact isEmpty_clash' (by assumption) (by assumption)) | (exfalso; exact isEmpty_clash2 (by assumption) (by assumption)))
      · rw [if_neg c8] at H
        have c8b0 : decide (a0 < a1) = false := decide_eq_false c8
        clear c8
        by_cases c9 : a0 > a1
        · rw [if_pos c9] at H
          have c9b0 : decide (a1 < a0) = true := decide_eq_true c9
          clear c9
          obtain rfl := Option.some.inj H
          go_enter Tryz.func52, Tryz.ntmps52
          go_wp2_with (first | ((with_reducible refine gate_callee (f := 69) rfl ?_); refine goesL_ (some 8) rfl rfl Tryz.func69 (by kernel_rfl) rfl #[.int .i64 a0] rfl (by (try simp only [List.map_toArray, List.map_cons, List.map_nil]); first | done | rfl | (simp only [List.length_drop, List.length_take]; rfl)) ?_; (with_reducible refine (cmp_isNaN_int.calls a0 false _ A3.out).mono ?_); rintro e w' ⟨rfl, ⟨nd, rfl⟩⟩; refine ⟨_, rfl, ?_⟩) | ((with_reducible refine gate_callee (f := 69) rfl ?_); refine goesL_ (some 10) rfl rfl Tryz.func69 (by kernel_rfl) rfl #[.int .i64 a1] rfl (by (try simp only [List.map_toArray, List.map_cons, List.map_nil]); first | done | rfl | (simp only [List.length_drop, List.length_take]; rfl)) ?_; (with_reducible refine (cmp_isNaN_int.calls a1 false _ A4.out).mono ?_); rintro e w' ⟨rfl, ⟨nd, rfl⟩⟩; refine ⟨_, rfl, ?_⟩))
          all_goals (first | (go_ret; exact ⟨by first | rfl | (simp; done) | (simp [*]; done) | (simp_all; done) | fail, by repeat (first | exact Drawn0.refl _ | apply Drawn0.step)⟩) | (exfalso; simp_all; done) | (exfalso; simp only [isEmpty_eq, isEmpty_ne] at *; simp_all; done) | (exfalso; exact isEmpty_clash (by assumption) (by assumption)) | (exfalso; exact isEmpty_clash' (by assumption) (by assumption)) | (exfalso; exact isEmpty_clash2 (by assumption) (by assumption)))
        · rw [if_neg c9] at H
          have c9b0 : decide (a1 < a0) = false := decide_eq_false c9
          clear c9
          obtain rfl := Option.some.inj H
          go_enter Tryz.func52, Tryz.ntmps52
          go_wp2_with (first | ((with_reducible refine gate_callee (f := 69) rfl ?_); refine goesL_ (some 8) rfl rfl Tryz.func69 (by kernel_rfl) rfl #[.int .i64 a0] rfl (by (try simp only [List.map_toArray, List.map_cons, List.map_nil]); first | done | rfl | (simp only [List.length_drop, List.length_take]; rfl)) ?_; (with_reducible refine (cmp_isNaN_int.calls a0 false _ A3.out).mono ?_); rintro e w' ⟨rfl, ⟨nd, rfl⟩⟩; refine ⟨_, rfl, ?_⟩) | ((with_reducible refine gate_callee (f := 69) rfl ?_); refine goesL_ (some 10) rfl rfl Tryz.func69 (by kernel_rfl) rfl #[.int .i64 a1] rfl (by (try simp only [List.map_toArray, List.map_cons, List.map_nil]); first | done | rfl | (simp only [List.length_drop, List.length_take]; rfl)) ?_; (with_reducible refine (cmp_isNaN_int.calls a1 false _ A4.out).mono ?_); rintro e w' ⟨rfl, ⟨nd, rfl⟩⟩; refine ⟨_, rfl, ?_⟩))
          all_goals (first | (go_ret; exact ⟨by first | rfl | (simp; done) | (simp [*]; done) | (simp_all; done) | fail, by repeat (first | exact Drawn0.refl _ | apply Drawn0.step)⟩) | (exfalso; simp_all; done) | (exfalso; simp only [isEmpty_eq, isEmpty_ne] at *; simp_all; done) | (exfalso; exact isEmpty_clash (by assumption) (by assumption)) | (exfalso; exact isEmpty_clash' (by assumption) (by assumption)) | (exfalso; exact isEmpty_clash2 (by assumption) (by assumption)))
def route_byLength_int_1.f (a0_0 : Int) (a0_1 : Int) (a1_0 : Int) (a1_1 : Int) : Option (Int) := (cmp_Compare_int.f a1_1 a0_1).bind fun t106 => (some t106)
set_option maxHeartbeats 8000000 in
set_option maxRecDepth 100000 in
theorem route_byLength_int_1.calls (a0_0 : Int) (a0_1 : Int) (a1_0 : Int) (a1_1 : Int) (r : Int) (w : World) (h : route_byLength_int_1.f a0_0 a0_1 a1_0 a1_1 = some r) :
    Calls Tryz.prog 51 #[.agg #[.int .i64 a0_0, .int .i64 a0_1], .agg #[.int .i64 a1_0, .int .i64 a1_1]] w fun e w' => e = .returned (.int .i64 r) ∧ Below w.heap.size w w' := by
  have hu71 := Tryz.underlying71
  have HB := Aside0.mk (Below.refl w.heap.size w)
  have H : ((cmp_Compare_int.f a1_1 a0_1).bind fun t106 => (some t106)) = some r := h
  clear h
  replace H := Option.bind_eq_some_iff.mp H
  obtain ⟨t106, A30, H⟩ := H
  replace H : (some t106) = some r := H
  have A3 := Aside0.mk A30
  clear A30
  obtain rfl := Option.some.inj H
  go_enter Tryz.func51, Tryz.ntmps51
  go_wp2_with (first | ((with_reducible refine gate_dst (N := 2) rfl ?_); refine box_event ?hg (N := 2) ?hd (cs := #[.int .i64 a0_0, .int .i64 a0_1]) (t := 71) ?hr ?_; (case hd => rfl); (case hg => rfl); (case hr => first | (go_simp; done) | (go_simp; rfl) | (go_simp; simp only [isEmpty_ne, isEmpty_eq]; done) | (go_simp; simp only [isEmpty_ne, isEmpty_eq]; rfl)); intro gb104 hg w4 hbox hb; have n0_ := Aside0.mk (below_step (by repeat (first | (with_reducible first | exact HB.out | apply below_alloc | apply pw_below_drewN | apply below_drew1) | exact HB.out)) hb); have n1_ := Aside0.mk (hbox); have n2_ := Aside0.mk ((by rw [hg]; exact (below_size (by repeat (first | (with_reducible first | exact HB.out | apply below_alloc | apply pw_below_drewN | apply below_drew1) | exact HB.out))) : w.heap.size ≤ gb104)); have n3_ := Aside0.mk ((by rw [hg]; exact (below_size (by repeat (first | (with_reducible first | exact HB.out | apply below_alloc | apply pw_below_drewN | apply below_drew1) | exact HB.out))) : w.heap.size ≤ gb104)); clear HB; have HB := n0_; have BK104 := n1_; have GW104 := n2_; have GE104 := n3_; clear n0_ n1_ n2_ n3_; clear hb hbox hg) | ((with_reducible refine gate_dst (N := 3) rfl ?_); refine box_event ?hg (N := 3) ?hd (cs := #[.int .i64 a1_0, .int .i64 a1_1]) (t := 71) ?hr ?_; (case hd => rfl); (case hg => rfl); (case hr => first | (go_simp; done) | (go_simp; rfl) | (go_simp; simp only [isEmpty_ne, isEmpty_eq]; done) | (go_simp; simp only [isEmpty_ne, isEmpty_eq]; rfl)); intro gb105 hg w5 hbox hb; have n0_ := Aside0.mk (blk_below (g := gb104) (o := .cells #[.int .i64 a0_0, .int .i64 a0_1] 71 (0, 0)) (by (with_reducible repeat (first | refine blk_drewN ?_ _ | refine blk_drew ?_ | refine blk_alloc ?_ _)); exact BK104.out) hb); have n1_ := Aside0.mk (below_step (by repeat (first | (with_reducible first | exact HB.out | apply below_alloc | apply pw_below_drewN | apply below_drew1 | refine below_set ?_ GE104.out) | exact HB.out)) hb); have n2_ := Aside0.mk (hbox); have n3_ := Aside0.mk ((by rw [hg]; exact (below_size (by repeat (first | (with_reducible first | exact HB.out | apply below_alloc | apply pw_below_drewN | apply below_drew1 | refine below_set ?_ GE104.out) | exact HB.out))) : w.heap.size ≤ gb105)); have n4_ := Aside0.mk ((by rw [hg]; exact (below_size (by repeat (first | (with_reducible first | exact HB.out | apply below_alloc | apply pw_below_drewN | apply below_drew1 | refine below_set ?_ GE104.out) | exact HB.out))) : w.heap.size ≤ gb105)); have n5_ := Aside0.mk ((by rw [hg]; exact Nat.ne_of_lt (blk_lt (g := gb104) (o := .cells #[.int .i64 a0_0, .int .i64 a0_1] 71 (0, 0)) (by (with_reducible repeat (first | refine blk_drewN ?_ _ | refine blk_drew ?_ | refine blk_alloc ?_ _)); exact BK104.out)) : gb104 ≠ gb105)); have n6_ := Aside0.mk ((by rw [hg]; exact Nat.ne_of_gt (blk_lt (g := gb104) (o := .cells #[.int .i64 a0_0, .int .i64 a0_1] 71 (0, 0)) (by (with_reducible repeat (first | refine blk_drewN ?_ _ | refine blk_drew ?_ | refine blk_alloc ?_ _)); exact BK104.out)) : gb105 ≠ gb104)); clear BK104; clear HB; have BK104 := n0_; have HB := n1_; have BK105 := n2_; have GW105 := n3_; have GE105 := n4_; have NB104_105 := n5_; have NB105_104 := n6_; clear n0_ n1_ n2_ n3_ n4_ n5_ n6_; clear hb hbox hg; have hnb6 := NB105_104.out; have hnc6 := NB104_105.out; have hcz7_0 : w5.cell? ⟨gb105, 0, none⟩ = some (.int .i64 a1_0) := (blk_cell BK105.out 0).trans rfl; have hcz7_1 : w5.cell? ⟨gb105, 1, none⟩ = some (.int .i64 a1_1) := (blk_cell BK105.out 1).trans rfl; have hfz7_0 := blk_frozen BK105.out 0; have hfz7_1 := blk_frozen BK105.out 1; have hcz8_0 : w5.cell? ⟨gb104, 0, none⟩ = some (.int .i64 a0_0) := (blk_cell BK104.out 0).trans rfl; have hcz8_1 : w5.cell? ⟨gb104, 1, none⟩ = some (.int .i64 a0_1) := (blk_cell BK104.out 1).trans rfl; have hfz8_0 := blk_frozen BK104.out 0; have hfz8_1 := blk_frozen BK104.out 1) | ((with_reducible refine gate_callee (f := 52) rfl ?_); refine goesL_ (some 9) rfl rfl Tryz.func52 (by kernel_rfl) rfl #[.int .i64 a1_1, .int .i64 a0_1] rfl (by (try simp only [List.map_toArray, List.map_cons, List.map_nil]); first | done | rfl | (simp only [List.length_drop, List.length_take]; rfl)) ?_; (with_reducible refine (cmp_Compare_int.calls a1_1 a0_1 t106 _ A3.out).mono ?_); rintro e w' ⟨rfl, ⟨nd, rfl⟩⟩; refine ⟨_, rfl, ?_⟩))
  all_goals (first | (go_ret; exact ⟨by first | rfl | (simp [errW_none, errW_some] <;> rfl) | (simp [*, errW_none, errW_some] <;> rfl) | (simp_all; done) | fail, by repeat (first | (with_reducible first | exact HB.out | apply below_alloc | apply pw_below_drewN | apply below_drew1 | refine below_set ?_ GE104.out | refine below_set ?_ GE105.out) | exact HB.out)⟩) | (exfalso; simp_all; done) | (exfalso; simp only [isEmpty_eq, isEmpty_ne] at *; simp_all; done) | (exfalso; exact isEmpty_clash (by assumption) (by assumption)) | (exfalso; exact isEmpty_clash' (by assumption) (by assumption)) | (exfalso; exact isEmpty_clash2 (by assumption) (by assumption)))
def route_RightPolicy_1.f (a0 : ByteArray) : Option (Bool) := if a0.toList = ([] : List UInt8) then (some true) else (some (decide ((a0.size : Int) > 60)))
set_option maxHeartbeats 8000000 in
set_option maxRecDepth 100000 in
theorem route_RightPolicy_1.calls (a0 : ByteArray) (r : Bool) (w : World) (h : route_RightPolicy_1.f a0 = some r) :
    Calls Tryz.prog 28 #[.string a0] w fun e w' => e = .returned (.bool r) ∧ Drawn0 w w' := by
  have H : (if a0.toList = ([] : List UInt8) then (some true) else (some (decide ((a0.size : Int) > 60)))) = some r := h
  clear h
  by_cases c2 : a0.toList = ([] : List UInt8)
  · rw [if_pos c2] at H
    have c2b0 : (a0.toList == ([] : List UInt8)) = true := beq_iff_eq.mpr c2
    have c2b1 : (a0.toList != ([] : List UInt8)) = false := bne_eq_false_iff_eq.mpr c2
    clear c2
    obtain rfl := Option.some.inj H
    go_enter Tryz.func28, Tryz.ntmps28
    go_wp2
    all_goals (first | (go_ret; exact ⟨by first | rfl | (simp; done) | (simp [*]; done) | (simp_all; done) | fail, by repeat (first | exact Drawn0.refl _ | apply Drawn0.step)⟩) | (exfalso; simp_all; done) | (exfalso; simp only [isEmpty_eq, isEmpty_ne] at *; simp_all; done) | (exfalso; exact isEmpty_clash (by assumption) (by assumption)) | (exfalso; exact isEmpty_clash' (by assumption) (by assumption)) | (exfalso; exact isEmpty_clash2 (by assumption) (by assumption)))
  · rw [if_neg c2] at H
    have c2b0 : (a0.toList == ([] : List UInt8)) = false := beq_eq_false_iff_ne.mpr c2
    have c2b1 : (a0.toList != ([] : List UInt8)) = true := bne_iff_ne.mpr c2
    obtain rfl := Option.some.inj H
    go_enter Tryz.func28, Tryz.ntmps28
    go_wp2
    all_goals (first | (go_ret; exact ⟨by first | rfl | (simp; done) | (simp [*]; done) | (simp_all; done) | fail, by repeat (first | exact Drawn0.refl _ | apply Drawn0.step)⟩) | (exfalso; simp_all; done) | (exfalso; simp only [isEmpty_eq, isEmpty_ne] at *; simp_all; done) | (exfalso; exact isEmpty_clash (by assumption) (by assumption)) | (exfalso; exact isEmpty_clash' (by assumption) (by assumption)) | (exfalso; exact isEmpty_clash2 (by assumption) (by assumption)))
def postriderlaw16_Cut.l0 : Nat → List (S35) → List (S35) → Int → Option ((List (S35)))
  | 0, _, _, _ => none
  | k + 1, x0, x3, x4 => if x4 < (x0.length : Int) then (if x4 < 22 then (if 0 ≤ x4 then (if 0 ≤ (mn (((rd_T35 x0 x4).f0).size : Int) 61) then (if (mn (((rd_T35 x0 x4).f0).size : Int) 61) ≤ (((rd_T35 x0 x4).f0).size : Int) then (if x3.length < 5864062014805 then (postriderlaw16_Cut.l0 k x0 (x3 ++ [(⟨((rd_T35 x0 x4).f0).extract 0 ((mn (((rd_T35 x0 x4).f0).size : Int) 61) : Int).toNat, (rd_T35 x0 x4).f1⟩ : S35)]) (wrap64 (x4 + 1))) else (none)) else (none)) else (none)) else (none)) else (some x3)) else (some x3)
def postriderlaw16_Cut.f (k : Nat) (l0 : List (S35)) : Option ((List (S35))) := postriderlaw16_Cut.l0 k l0 ([] : List (S35)) 0
theorem postriderlaw16_Cut.mono_l : ∀ k, (∀ y0 y1 y2, LeO (postriderlaw16_Cut.l0 k y0 y1 y2) (postriderlaw16_Cut.l0 (k + 1) y0 y1 y2))
  | 0 => fun _ _ _ r h => by simp [postriderlaw16_Cut.l0] at h
  | k + 1 => by
    have ih0 := postriderlaw16_Cut.mono_l k
    · intro y0 y1 y2
      unfold postriderlaw16_Cut.l0
      repeat' first
      | (with_reducible exact ih0 _ _ _)
      | (with_reducible exact LeO.refl _)
      | (with_reducible exact LeO.none _)
      | (with_reducible refine LeO.ite ?_ ?_)
      | (with_reducible refine LeO.bind ?_ (fun _ => ?_))
      | exact ih0 _ _ _
      | exact LeO.none _
      | refine LeO.ite ?_ ?_
      | refine LeO.bind ?_ (fun _ => ?_)
theorem postriderlaw16_Cut.mono : ∀ a0 k, LeO (postriderlaw16_Cut.f k a0) (postriderlaw16_Cut.f (k + 1) a0) := by
  intro a0 k
  have ih0 := postriderlaw16_Cut.mono_l k
  unfold postriderlaw16_Cut.f
  repeat' first
      | (with_reducible exact ih0 _ _ _)
      | (with_reducible exact LeO.refl _)
      | (with_reducible exact LeO.none _)
      | (with_reducible refine LeO.ite ?_ ?_)
      | (with_reducible refine LeO.bind ?_ (fun _ => ?_))
      | exact ih0 _ _ _
      | exact LeO.none _
      | refine LeO.ite ?_ ?_
      | refine LeO.bind ?_ (fun _ => ?_)
def postriderlaw16_Cut.T5 : Bool × List (List Nat × List Nat) := (true, [([], []), ([], []), ([], []), ([1, 2], [1, 2]), ([3], [3]), ([4], [4]), ([], []), ([], []), ([6, 7], [6, 7]), ([8], [8]), ([9], [9]), ([10], [10]), ([11], [11]), ([5, 12], [5, 12]), ([], []), ([], []), ([14, 15], [14, 15]), ([16], [16]), ([17], [17]), ([13, 18], [13, 18]), ([19], [19]), ([0, 20], [0, 20]), ([21, 21, 0, 1, 2, 3, 4, 5, 6, 7, 8, 9, 10, 11, 12, 13, 14, 15, 16, 17, 18, 19, 20, 21], [0, 21])])
def postriderlaw16_Cut.B5 : List Nat := [0, 0, 0, 6, 14, 30, 0, 0, 192, 448, 960, 1984, 4032, 8190, 0, 0, 49152, 114688, 245760, 524286, 1048574, 2097151, 4194303]
theorem postriderlaw16_Cut.tab5 : rtab .any (opsOf Tryz.f17 5) = postriderlaw16_Cut.T5 := by kernel_rfl
theorem postriderlaw16_Cut.bits5 : waitsOk postriderlaw16_Cut.T5.2 postriderlaw16_Cut.B5 = true := by kernel_rfl
set_option maxHeartbeats 8000000 in
set_option maxRecDepth 100000 in
theorem postriderlaw16_Cut.calls (k : Nat) (A0 : Option Addr) (c0 : Nat) (l0 : List (S35)) (r : List (S35)) (w : World) (hr0 : Kd.C k35 w A0 l0.length l0) (hc0 : l0.length ≤ c0) (h : postriderlaw16_Cut.f k l0 = some r) :
    Calls Tryz.prog 17 #[.slice A0 l0.length c0] w fun e w' => ∃ v0_ : Value, e = .returned (v0_) ∧ Kd.R k35 35 w' w.heap.size (fun _ => True) v0_ r ∧ Below w.heap.size w w' := by
  have hu35 := Tryz.underlying35
  have HR0 := Aside0.mk hr0
  have HC0 := Aside0.mk hc0
  clear hr0 hc0
  have HB := Aside0.mk (Below.refl w.heap.size w)
  have H : (postriderlaw16_Cut.l0 k l0 ([] : List (S35)) 0) = some r := h
  clear h
  have H' := Aside0.mk H
  clear H
  go_enter Tryz.func17, Tryz.ntmps17
  go_wp2
  go_loopg [3, 4] k (fun kq v3 v4 w' => ∃ (x3_1 : List (S35)) (x4_1 : Int), v4 = .int .i64 x4_1 ∧ Aside0 (postriderlaw16_Cut.l0 kq l0 x3_1 x4_1 = some r) ∧ Aside0 (kq ≤ k) ∧ Aside0 (Kd.R k35 35 w' w.heap.size (fun _ => True) v3 x3_1) ∧ Aside0 (Below w.heap.size w w'))
  case atStart => exact ⟨(([] : List (S35))), (0), (by first | rfl | (simp; done) | (simp [*]; done)), H', ⟨Nat.le_refl _⟩, ⟨by first | exact Kd.R_nil _ _ _ _ _ | exact Kd.N_nil _ _ _ _ _ | exact Kd.V_nil _ _ _ _ _ | exact Kd.Q_nil _ _ _ _ _ | exact Kd.S_nil _ _ _ _ _⟩, ⟨by repeat (first | (with_reducible first | exact HB.out | apply below_alloc | apply pw_below_drewN | apply below_drew1) | exact HB.out)⟩⟩
  case round =>
    clear H'
    try clear c1
    obtain ⟨x3_1, x4_1, rfl, HA, HK1, HO_3, HB⟩ := hrel
    cases gk with
    | zero => exact absurd HA.out (by simp [postriderlaw16_Cut.l0])
    | succ k1 =>
      have H := HA.out
      clear HA
      simp only [postriderlaw16_Cut.l0] at H
      by_cases c2 : x4_1 < (l0.length : Int)
      · rw [if_pos c2] at H
        have c2b0 : decide (x4_1 < (l0.length : Int)) = true := decide_eq_true c2
        clear c2
        by_cases c3 : x4_1 < 22
        · rw [if_pos c3] at H
          have c3b0 : decide (x4_1 < 22) = true := decide_eq_true c3
          clear c3
          by_cases c4 : 0 ≤ x4_1
          · rw [if_pos c4] at H
            have c4b0 : decide (0 ≤ x4_1) = true := decide_eq_true c4
            clear c4
            obtain ⟨ji5, hji5⟩ : ∃ j_ : Int, (mn (((rd_T35 l0 x4_1).f0).size : Int) 61) = j_ := ⟨_, rfl⟩
            replace H : (if 0 ≤ (ji5) then (if (ji5) ≤ (((rd_T35 l0 x4_1).f0).size : Int) then (if x3_1.length < 5864062014805 then (postriderlaw16_Cut.l0 k1 l0 (x3_1 ++ [(⟨((rd_T35 l0 x4_1).f0).extract 0 ((ji5) : Int).toNat, (rd_T35 l0 x4_1).f1⟩ : S35)]) (wrap64 (x4_1 + 1))) else (none)) else (none)) else (none)) = some r := by first | (rw [hji5] at H; exact H) | (simp only [hji5] at H ⊢; exact H)
            have hji5_ : (if 61 < (((rd_T35 l0 x4_1).f0).size : Int) then 61 else (((rd_T35 l0 x4_1).f0).size : Int)) = ji5 := hji5
            by_cases c6 : 0 ≤ (ji5)
            · rw [if_pos c6] at H
              have c6b0 := eq_true c6
              have c6b1 : decide (0 ≤ (ji5)) = true := decide_eq_true c6
              clear c6
              by_cases c7 : (ji5) ≤ (((rd_T35 l0 x4_1).f0).size : Int)
              · rw [if_pos c7] at H
                have c7b0 := eq_true c7
                have c7b1 : decide ((ji5) ≤ (((rd_T35 l0 x4_1).f0).size : Int)) = true := decide_eq_true c7
                clear c7
                by_cases c8 : x3_1.length < 5864062014805
                · rw [if_pos c8] at H
                  have LMc8 := Aside0.mk c8
                  clear c8
                  obtain ⟨y110, hy110⟩ : ∃ y_ : List (S35), y_ = (x3_1 ++ [(⟨((rd_T35 l0 x4_1).f0).extract 0 ((ji5) : Int).toNat, (rd_T35 l0 x4_1).f1⟩ : S35)]) := ⟨_, rfl⟩
                  replace H : (postriderlaw16_Cut.l0 k1 l0 y110 (wrap64 (x4_1 + 1))) = some r := by first | (rw [hy110]; with_reducible exact H) | (have H2_ := (Option.bind_some _ _).symm.trans H; rw [hy110]; with_reducible exact H2_) | (have H2_ := (Option.bind_some _ _).symm.trans H; with_reducible exact H2_) | with_reducible exact H | (rw [hy110]; exact H) | exact H
                  have Ny110 := Aside0.mk hy110
                  clear hy110
                  have H' := Aside0.mk H
                  clear H
                  try go_wp2
                  have n0_ := Aside0.mk (Kd.R_drew HO_3.out)
                  have n1_ := Aside0.mk (below_drew1 HB.out)
                  clear HO_3
                  clear HB
                  have HO_3 := n0_
                  have HB := n1_
                  clear n0_ n1_
                  have p107 : 0 ≤ (x4_1 : Int) := of_decide_eq_true (by first | (with_reducible assumption) | assumption)
                  have q107 : x4_1 < (l0.length : Int) := of_decide_eq_true (by first | (with_reducible assumption) | assumption)
                  obtain ⟨ad107, e107, hx107_0, hx107_1⟩ := at_T35 HR0.out x4_1 p107 q107
                  have hw107_1 := hx107_1
                  have hw107_0 := hx107_0
                  cases e107
                  replace hx107_0 := (HB.out.cell (World.block_lt_of_cell? w _ hx107_0)).trans hx107_0
                  replace hx107_1 := (HB.out.cell (World.block_lt_of_cell? w _ hx107_1)).trans hx107_1
                  replace p107 := eq_true p107
                  replace q107 := eq_true q107
                  have p108 : 0 ≤ (x4_1 : Int) := of_decide_eq_true (by first | (with_reducible assumption) | assumption)
                  have q108 : x4_1 < (l0.length : Int) := of_decide_eq_true (by first | (with_reducible assumption) | assumption)
                  obtain ⟨ad108, e108, hx108_0, hx108_1⟩ := at_T35 HR0.out x4_1 p108 q108
                  have hw108_1 := hx108_1
                  have hw108_0 := hx108_0
                  obtain rfl : ad107 = ad108 := (by injection e108)
                  replace hx108_0 := (HB.out.cell (World.block_lt_of_cell? w _ hx108_0)).trans hx108_0
                  replace hx108_1 := (HB.out.cell (World.block_lt_of_cell? w _ hx108_1)).trans hx108_1
                  replace p108 := eq_true p108
                  replace q108 := eq_true q108
                  have p109 : 0 ≤ (x4_1 : Int) := of_decide_eq_true (by first | (with_reducible assumption) | assumption)
                  have q109 : x4_1 < (l0.length : Int) := of_decide_eq_true (by first | (with_reducible assumption) | assumption)
                  obtain ⟨ad109, e109, hx109_0, hx109_1⟩ := at_T35 HR0.out x4_1 p109 q109
                  have hw109_1 := hx109_1
                  have hw109_0 := hx109_0
                  obtain rfl : ad107 = ad109 := (by injection e109)
                  replace hx109_0 := (HB.out.cell (World.block_lt_of_cell? w _ hx109_0)).trans hx109_0
                  replace hx109_1 := (HB.out.cell (World.block_lt_of_cell? w _ hx109_1)).trans hx109_1
                  replace p109 := eq_true p109
                  replace q109 := eq_true q109
                  refine start_ (n := 23) (S := fun w' => w'.cell? (ad107.add ((x4_1).toNat * 2)) = some (.string ((rd_T35 l0 x4_1).f0)) ∧ w'.cell? ⟨(ad107.add ((x4_1).toNat * 2)).block, (ad107.add ((x4_1).toNat * 2)).off + 1, none⟩ = some (.int .i64 ((rd_T35 l0 x4_1).f1)) ∧ w'.cell? (ad107.add ((x4_1).toNat * 2)) = some (.string ((rd_T35 l0 x4_1).f0)) ∧ w'.cell? ⟨(ad107.add ((x4_1).toNat * 2)).block, (ad107.add ((x4_1).toNat * 2)).off + 1, none⟩ = some (.int .i64 ((rd_T35 l0 x4_1).f1)) ∧ w'.cell? (ad107.add ((x4_1).toNat * 2)) = some (.string ((rd_T35 l0 x4_1).f0)) ∧ w'.cell? ⟨(ad107.add ((x4_1).toNat * 2)).block, (ad107.add ((x4_1).toNat * 2)).off + 1, none⟩ = some (.int .i64 ((rd_T35 l0 x4_1).f1))) (ds := []) #[false, false, false, false, false, false, false, false, false, false, false, false, false, false, false, false, false, false, false, false, false, false, false] (by kernel_rfl) rfl rfl ⟨((HB.out.cell (World.block_lt_of_cell? w _ hw107_0)).trans hw107_0), ((HB.out.cell (World.block_lt_of_cell? w _ hw107_1)).trans hw107_1), ((HB.out.cell (World.block_lt_of_cell? w _ hw108_0)).trans hw108_0), ((HB.out.cell (World.block_lt_of_cell? w _ hw108_1)).trans hw108_1), ((HB.out.cell (World.block_lt_of_cell? w _ hw109_0)).trans hw109_0), ((HB.out.cell (World.block_lt_of_cell? w _ hw109_1)).trans hw109_1)⟩ (fun hHeld => ?_); refine with_tabW postriderlaw16_Cut.tab5 postriderlaw16_Cut.bits5 (fun HT_ HW_ => ?_)
                  generalize wr.drew = w9 at HO_3 HB hx107_0 hx107_1 hx108_0 hx108_1 hx109_0 hx109_1 hHeld ⊢
                  refine pure_ (i := 0) (N := some 15) (v := ?_) (a' := ?_) #[true, false, false, false, false, false, false, false, false, false, false, false, false, false, false, false, false, false, false, false, false, false, false] rfl rfl (any_of HT_.out (by kernel_rfl)) (fun _ _ _ h => h) (Or.inl ⟨by rfl, ?_⟩) ?_ ?_
                  rotate_left
                  · intro w'
                    go_simp
                    with_reducible rfl
                  rotate_left
                  · simp only [Act.put, List.setIfInBounds_toArray, List.set_cons_zero, List.set_cons_succ, i64_w, i32_w]
                    rfl
                  refine pure_ (i := 1) (N := some 16) (v := ?_) (a' := ?_) #[true, true, false, false, false, false, false, false, false, false, false, false, false, false, false, false, false, false, false, false, false, false, false] rfl rfl (any_of HT_.out (by kernel_rfl)) (fun _ _ _ h => h) (Or.inl ⟨by rfl, ?_⟩) ?_ ?_
                  rotate_left
                  · intro w'
                    go_simp
                    with_reducible rfl
                  rotate_left
                  · simp only [Act.put, List.setIfInBounds_toArray, List.set_cons_zero, List.set_cons_succ, i64_w, i32_w]
                    rfl
                  refine pure_ (i := 2) (N := some 17) (v := ?_) (a' := ?_) #[true, true, true, false, false, false, false, false, false, false, false, false, false, false, false, false, false, false, false, false, false, false, false] rfl rfl (any_of HT_.out (by kernel_rfl)) (fun _ _ _ h => h) (Or.inl ⟨by rfl, ?_⟩) ?_ ?_
                  rotate_left
                  · intro w'
                    go_simp
                    with_reducible rfl
                  rotate_left
                  · simp only [Act.put, List.setIfInBounds_toArray, List.set_cons_zero, List.set_cons_succ, i64_w, i32_w]
                    rfl
                  refine pure_ (i := 3) (N := some 18) (v := ?_) (a' := ?_) #[true, true, true, true, false, false, false, false, false, false, false, false, false, false, false, false, false, false, false, false, false, false, false] rfl rfl (any_of HT_.out (by kernel_rfl)) (fun _ _ _ h => h) (Or.inl ⟨by rfl, ?_⟩) ?_ ?_
                  rotate_left
                  · intro w'
                    go_simp
                    with_reducible rfl
                  rotate_left
                  · simp only [Act.put, List.setIfInBounds_toArray, List.set_cons_zero, List.set_cons_succ, i64_w, i32_w]
                    rfl
                  refine pure_ (i := 4) (N := some 19) (v := ?_) (a' := ?_) #[true, true, true, true, true, false, false, false, false, false, false, false, false, false, false, false, false, false, false, false, false, false, false] rfl rfl (any_of HT_.out (by kernel_rfl)) (fun _ _ _ h => h) (Or.inl ⟨by rfl, ?_⟩) ?_ ?_
                  rotate_left
                  · intro w'
                    go_simp
                    with_reducible rfl
                  rotate_left
                  · simp only [Act.put, List.setIfInBounds_toArray, List.set_cons_zero, List.set_cons_succ, i64_w, i32_w]
                    rfl
                  refine pure_ (i := 6) (N := some 21) (v := ?_) (a' := ?_) #[true, true, true, true, true, false, true, false, false, false, false, false, false, false, false, false, false, false, false, false, false, false, false] rfl rfl (any_of HT_.out (by kernel_rfl)) (fun _ _ _ h => h) (Or.inl ⟨by rfl, ?_⟩) ?_ ?_
                  rotate_left
                  · intro w'
                    go_simp
                    with_reducible rfl
                  rotate_left
                  · simp only [Act.put, List.setIfInBounds_toArray, List.set_cons_zero, List.set_cons_succ, i64_w, i32_w]
                    rfl
                  refine pure_ (i := 7) (N := some 22) (v := ?_) (a' := ?_) #[true, true, true, true, true, false, true, true, false, false, false, false, false, false, false, false, false, false, false, false, false, false, false] rfl rfl (any_of HT_.out (by kernel_rfl)) (fun _ _ _ h => h) (Or.inl ⟨by rfl, ?_⟩) ?_ ?_
                  rotate_left
                  · intro w'
                    go_simp
                    with_reducible rfl
                  rotate_left
                  · simp only [Act.put, List.setIfInBounds_toArray, List.set_cons_zero, List.set_cons_succ, i64_w, i32_w]
                    rfl
                  refine pure_ (i := 8) (N := some 23) (v := ?_) (a' := ?_) #[true, true, true, true, true, false, true, true, true, false, false, false, false, false, false, false, false, false, false, false, false, false, false] rfl rfl (any_of HT_.out (by kernel_rfl)) (fun _ _ _ h => h) (Or.inl ⟨by rfl, ?_⟩) ?_ ?_
                  rotate_left
                  · intro w'
                    go_simp
                    with_reducible rfl
                  rotate_left
                  · simp only [Act.put, List.setIfInBounds_toArray, List.set_cons_zero, List.set_cons_succ, i64_w, i32_w]
                    rfl
                  refine pure_ (i := 9) (N := some 24) (v := ?_) (a' := ?_) #[true, true, true, true, true, false, true, true, true, true, false, false, false, false, false, false, false, false, false, false, false, false, false] rfl rfl (any_of HT_.out (by kernel_rfl)) (fun _ _ _ h => h) (Or.inl ⟨by rfl, ?_⟩) ?_ ?_
                  rotate_left
                  · intro w'
                    go_simp
                    with_reducible rfl
                  rotate_left
                  · simp only [Act.put, List.setIfInBounds_toArray, List.set_cons_zero, List.set_cons_succ, i64_w, i32_w]
                    rfl
                  refine pure_ (i := 14) (N := some 29) (v := ?_) (a' := ?_) #[true, true, true, true, true, false, true, true, true, true, false, false, false, false, true, false, false, false, false, false, false, false, false] rfl rfl (any_of HT_.out (by kernel_rfl)) (fun _ _ _ h => h) (Or.inl ⟨by rfl, ?_⟩) ?_ ?_
                  rotate_left
                  · intro w'
                    go_simp
                    with_reducible rfl
                  rotate_left
                  · simp only [Act.put, List.setIfInBounds_toArray, List.set_cons_zero, List.set_cons_succ, i64_w, i32_w]
                    rfl
                  refine pure_ (i := 15) (N := some 30) (v := ?_) (a' := ?_) #[true, true, true, true, true, false, true, true, true, true, false, false, false, false, true, true, false, false, false, false, false, false, false] rfl rfl (any_of HT_.out (by kernel_rfl)) (fun _ _ _ h => h) (Or.inl ⟨by rfl, ?_⟩) ?_ ?_
                  rotate_left
                  · intro w'
                    go_simp
                    with_reducible rfl
                  rotate_left
                  · simp only [Act.put, List.setIfInBounds_toArray, List.set_cons_zero, List.set_cons_succ, i64_w, i32_w]
                    rfl
                  refine pure_ (i := 16) (N := some 31) (v := ?_) (a' := ?_) #[true, true, true, true, true, false, true, true, true, true, false, false, false, false, true, true, true, false, false, false, false, false, false] rfl rfl (any_of HT_.out (by kernel_rfl)) (fun _ _ _ h => h) (Or.inl ⟨by rfl, ?_⟩) ?_ ?_
                  rotate_left
                  · intro w'
                    go_simp
                    with_reducible rfl
                  rotate_left
                  · simp only [Act.put, List.setIfInBounds_toArray, List.set_cons_zero, List.set_cons_succ, i64_w, i32_w]
                    rfl
                  refine pure_ (i := 17) (N := some 32) (v := ?_) (a' := ?_) #[true, true, true, true, true, false, true, true, true, true, false, false, false, false, true, true, true, true, false, false, false, false, false] rfl rfl (any_of HT_.out (by kernel_rfl)) (fun _ _ _ h => h) (Or.inl ⟨by rfl, ?_⟩) ?_ ?_
                  rotate_left
                  · intro w'
                    go_simp
                    with_reducible rfl
                  rotate_left
                  · simp only [Act.put, List.setIfInBounds_toArray, List.set_cons_zero, List.set_cons_succ, i64_w, i32_w]
                    rfl
                  refine take_ (i := 5) (N := some 20) (v := ?_) (a' := ?_) #[true, true, true, true, true, true, true, true, true, true, false, false, false, false, true, true, true, true, false, false, false, false, false] rfl rfl (take_ofW HT_.out HW_.out (by kernel_rfl)) (fun _ _ _ h => h) (Or.inl ⟨by rfl, ?_⟩) hHeld ?_ ?_
                  rotate_left
                  · rintro w' ⟨s0, s1, s2, s3, s4, s5⟩
                    go_simp
                    with_reducible rfl
                  rotate_left
                  · simp only [Act.put, List.setIfInBounds_toArray, List.set_cons_zero, List.set_cons_succ, i64_w, i32_w]
                    rfl
                  refine take_ (i := 10) (N := some 25) (v := ?_) (a' := ?_) #[true, true, true, true, true, true, true, true, true, true, true, false, false, false, true, true, true, true, false, false, false, false, false] rfl rfl (take_ofW HT_.out HW_.out (by kernel_rfl)) (fun _ _ _ h => h) (Or.inl ⟨by rfl, ?_⟩) hHeld ?_ ?_
                  rotate_left
                  · rintro w' ⟨s0, s1, s2, s3, s4, s5⟩
                    go_simp
                    with_reducible rfl
                  rotate_left
                  · simp only [Act.put, List.setIfInBounds_toArray, List.set_cons_zero, List.set_cons_succ, i64_w, i32_w]
                    rfl
                  refine pure_ (i := 11) (N := some 26) (v := ?_) (a' := ?_) #[true, true, true, true, true, true, true, true, true, true, true, true, false, false, true, true, true, true, false, false, false, false, false] rfl rfl (any_of HT_.out (by kernel_rfl)) (fun _ _ _ h => h) (Or.inl ⟨by rfl, ?_⟩) ?_ ?_
                  rotate_left
                  · intro w'
                    go_simp
                    with_reducible rfl
                  rotate_left
                  · simp only [Act.put, List.setIfInBounds_toArray, List.set_cons_zero, List.set_cons_succ, i64_w, i32_w]
                    rfl
                  refine pure_ (i := 12) (N := some 27) (v := ?_) (a' := ?_) #[true, true, true, true, true, true, true, true, true, true, true, true, true, false, true, true, true, true, false, false, false, false, false] rfl rfl (any_of HT_.out (by kernel_rfl)) (fun _ _ _ h => h) (Or.inl ⟨by rfl, ?_⟩) ?_ ?_
                  rotate_left
                  · intro w'
                    go_simp
                    with_reducible rfl
                  rotate_left
                  · simp only [Act.put, List.setIfInBounds_toArray, List.set_cons_zero, List.set_cons_succ, i64_w, i32_w]
                    rfl
                  refine pure_ (i := 13) (N := some 28) (v := ?_) (a' := ?_) #[true, true, true, true, true, true, true, true, true, true, true, true, true, true, true, true, true, true, false, false, false, false, false] rfl rfl (any_of HT_.out (by kernel_rfl)) (fun _ _ _ h => h) (Or.inl ⟨by rfl, ?_⟩) ?_ ?_
                  rotate_left
                  · intro w'
                    go_simp
                    with_reducible rfl
                  rotate_left
                  · simp only [Act.put, List.setIfInBounds_toArray, List.set_cons_zero, List.set_cons_succ, i64_w, i32_w]
                    rfl
                  refine take_ (i := 18) (N := some 33) (v := ?_) (a' := ?_) #[true, true, true, true, true, true, true, true, true, true, true, true, true, true, true, true, true, true, true, false, false, false, false] rfl rfl (take_ofW HT_.out HW_.out (by kernel_rfl)) (fun _ _ _ h => h) (Or.inl ⟨by rfl, ?_⟩) hHeld ?_ ?_
                  rotate_left
                  · rintro w' ⟨s0, s1, s2, s3, s4, s5⟩
                    go_simp
                    with_reducible rfl
                  rotate_left
                  · simp only [Act.put, List.setIfInBounds_toArray, List.set_cons_zero, List.set_cons_succ, i64_w, i32_w]
                    rfl
                  refine pure_ (i := 19) (N := some 34) (v := ?_) (a' := ?_) #[true, true, true, true, true, true, true, true, true, true, true, true, true, true, true, true, true, true, true, true, false, false, false] rfl rfl (any_of HT_.out (by kernel_rfl)) (fun _ _ _ h => h) (Or.inl ⟨by rfl, ?_⟩) ?_ ?_
                  rotate_left
                  · intro w'
                    go_simp
                    with_reducible rfl
                  rotate_left
                  · simp only [Act.put, List.setIfInBounds_toArray, List.set_cons_zero, List.set_cons_succ, i64_w, i32_w]
                    rfl
                  refine one_ (i := 20) (N := some 35) #[true, true, true, true, true, true, true, true, true, true, true, true, true, true, true, true, true, true, true, true, true, false, false] rfl rfl (one_of HT_.out (by kernel_rfl)) (by decide) (fun K hK => ?_)
                  refine value_ (w1 := ?_) (v := ?_) (by rfl) rfl ?_ ?_
                  rotate_left 2
                  · go_simp
                    constructor
                    · rfl
                    · rfl
                  refine hK.out _ _ ⟨(World.cell?_alloc_lt _ _ _ (World.block_lt_of_cell? _ _ (((HB.out.cell (World.block_lt_of_cell? w _ hw107_0)).trans hw107_0)))).trans (((HB.out.cell (World.block_lt_of_cell? w _ hw107_0)).trans hw107_0)), (World.cell?_alloc_lt _ _ _ (World.block_lt_of_cell? _ _ (((HB.out.cell (World.block_lt_of_cell? w _ hw107_1)).trans hw107_1)))).trans (((HB.out.cell (World.block_lt_of_cell? w _ hw107_1)).trans hw107_1)), (World.cell?_alloc_lt _ _ _ (World.block_lt_of_cell? _ _ (((HB.out.cell (World.block_lt_of_cell? w _ hw108_0)).trans hw108_0)))).trans (((HB.out.cell (World.block_lt_of_cell? w _ hw108_0)).trans hw108_0)), (World.cell?_alloc_lt _ _ _ (World.block_lt_of_cell? _ _ (((HB.out.cell (World.block_lt_of_cell? w _ hw108_1)).trans hw108_1)))).trans (((HB.out.cell (World.block_lt_of_cell? w _ hw108_1)).trans hw108_1)), (World.cell?_alloc_lt _ _ _ (World.block_lt_of_cell? _ _ (((HB.out.cell (World.block_lt_of_cell? w _ hw109_0)).trans hw109_0)))).trans (((HB.out.cell (World.block_lt_of_cell? w _ hw109_0)).trans hw109_0)), (World.cell?_alloc_lt _ _ _ (World.block_lt_of_cell? _ _ (((HB.out.cell (World.block_lt_of_cell? w _ hw109_1)).trans hw109_1)))).trans (((HB.out.cell (World.block_lt_of_cell? w _ hw109_1)).trans hw109_1))⟩ (fun hHeld => ?_)
                  clear hK K
                  refine norm_ (a' := ?_) ?_ ?_
                  rotate_left
                  · show Act.put _ (some 35) _ = _
                    simp only [Act.put, List.setIfInBounds_toArray, List.set_cons_zero, List.set_cons_succ, i64_w, i32_w]
                    rfl
                  refine one_ (i := 21) (N := some 36) #[true, true, true, true, true, true, true, true, true, true, true, true, true, true, true, true, true, true, true, true, true, true, false] rfl rfl (one_of HT_.out (by kernel_rfl)) (by decide) (fun K hK => ?_)
                  refine Kd.R_append_step k35 (w0 := w) w.heap.size (by rfl) (.tmp 15) (.tmp 35) 33 35 (.agg #[(.string ⟨#[]⟩), (.int .i64 0)]) 24 rfl Tryz.underlying33 info35 rfl (by decide) (by omega) u3 x3_1 (⟨((rd_T35 l0 x4_1).f0).extract 0 ((ji5) : Int).toNat, (rd_T35 l0 x4_1).f1⟩ : S35) [.string (((rd_T35 l0 x4_1).f0).extract 0 ((ji5) : Int).toNat), .int .i64 ((rd_T35 l0 x4_1).f1)] (fun _ => True) (fun _ => False) rfl rfl ?aP (fun _ hk => hk.elim) ?aF ?aO ?aB ?aS ?aL ?_
                  (case aP => exact k35_mkM _ _ _ (⟨((rd_T35 l0 x4_1).f0).extract 0 ((ji5) : Int).toNat, (rd_T35 l0 x4_1).f1⟩ : S35))
                  (case aB => exact (by repeat (first | (with_reducible first | exact HB.out | apply below_alloc | apply pw_below_drewN | apply below_drew1) | exact HB.out)))
                  (case aF => exact (fun _ _ => trivial))
                  (case aO => exact (by (with_reducible repeat (first | apply Kd.R_alloc | apply Kd.R_drewN | apply Kd.R_drew)); exact HO_3.out))
                  (case aS => exact (below_size (by repeat (first | (with_reducible first | exact HB.out | apply below_alloc | apply pw_below_drewN | apply below_drew1) | exact HB.out))))
                  (case aL => have := LMc8.out; omega)
                  intro v111 w10 ho hb hg hat
                  rw [← Ny110.out] at ho
                  have n0_ := Aside0.mk (hb)
                  have n1_ := Aside0.mk (ho)
                  clear HB
                  clear HO_3
                  have HB := n0_
                  have HO112 := n1_
                  clear n0_ n1_
                  clear ho hb hg hat
                  refine hK.out _ _ ⟨((HB.out.cell (World.block_lt_of_cell? w _ hw107_0)).trans hw107_0), ((HB.out.cell (World.block_lt_of_cell? w _ hw107_1)).trans hw107_1), ((HB.out.cell (World.block_lt_of_cell? w _ hw108_0)).trans hw108_0), ((HB.out.cell (World.block_lt_of_cell? w _ hw108_1)).trans hw108_1), ((HB.out.cell (World.block_lt_of_cell? w _ hw109_0)).trans hw109_0), ((HB.out.cell (World.block_lt_of_cell? w _ hw109_1)).trans hw109_1)⟩ (fun hHeld => ?_)
                  clear hK K
                  refine norm_ (a' := ?_) ?_ ?_
                  rotate_left
                  · show Act.put _ (some 36) _ = _
                    simp only [Act.put, List.setIfInBounds_toArray, List.set_cons_zero, List.set_cons_succ, i64_w, i32_w]
                    rfl
                  refine pure_ (i := 22) (N := some 3) (v := ?_) (a' := ?_) #[true, true, true, true, true, true, true, true, true, true, true, true, true, true, true, true, true, true, true, true, true, true, true] rfl rfl (any_of HT_.out (by kernel_rfl)) (fun _ _ _ h => h) (Or.inl ⟨by rfl, ?_⟩) ?_ ?_
                  rotate_left
                  · intro w'
                    go_simp
                    with_reducible rfl
                  rotate_left
                  · simp only [Act.put, List.setIfInBounds_toArray, List.set_cons_zero, List.set_cons_succ, i64_w, i32_w]
                    rfl
                  refine done_ (done_of HT_.out (by kernel_rfl)) ?_
                  try go_wp2
                  go_roundg k1
                  case measure => have := HK1.out; omega
                  case rel => exact ⟨(y110), (wrap64 (x4_1 + 1)), (by first | rfl | (simp; done) | (simp [*]; done)), H', ⟨by have := HK1.out; omega⟩, ⟨by (with_reducible repeat (first | apply Kd.R_alloc | apply Kd.R_drewN | apply Kd.R_drew)); exact HO112.out⟩, ⟨by repeat (first | (with_reducible first | exact HB.out | apply below_alloc | apply pw_below_drewN | apply below_drew1) | exact HB.out)⟩⟩
                · rw [if_neg c8] at H
                  exact absurd H (by simp)
              · rw [if_neg c7] at H
                exact absurd H (by simp)
            · rw [if_neg c6] at H
              exact absurd H (by simp)
          · rw [if_neg c4] at H
            exact absurd H (by simp)
        · rw [if_neg c3] at H
          have c3b0 : decide (x4_1 < 22) = false := decide_eq_false c3
          clear c3
          obtain rfl := Option.some.inj H
          go_wp2
          go_ret
          exact ⟨_, by first | rfl | (simp [errW_none, errW_some] <;> rfl) | (simp [*, errW_none, errW_some] <;> rfl), by (with_reducible repeat (first | apply Kd.R_alloc | apply Kd.R_drewN | apply Kd.R_drew)); exact HO_3.out, by repeat (first | (with_reducible first | exact HB.out | apply below_alloc | apply pw_below_drewN | apply below_drew1) | exact HB.out)⟩
      · rw [if_neg c2] at H
        have c2b0 : decide (x4_1 < (l0.length : Int)) = false := decide_eq_false c2
        clear c2
        obtain rfl := Option.some.inj H
        go_wp2
        go_ret
        exact ⟨_, by first | rfl | (simp [errW_none, errW_some] <;> rfl) | (simp [*, errW_none, errW_some] <;> rfl), by (with_reducible repeat (first | apply Kd.R_alloc | apply Kd.R_drewN | apply Kd.R_drew)); exact HO_3.out, by repeat (first | (with_reducible first | exact HB.out | apply below_alloc | apply pw_below_drewN | apply below_drew1) | exact HB.out)⟩
end Go.Proofs.YtaknknfcikdjiaaGreatDoor.RK
end
section
namespace Go.Proofs.YtaknknfcikdjiaaGreatDoor.Hand
open Go.RowKit Go.Sort Go.Proofs.YtaknknfcikdjiaaGreatDoorW Go.Proofs.YtaknknfcikdjiaaGreatDoorW.PrintWords Go.Proofs.YtaknknfcikdjiaaGreatDoor.RK
theorem size_inner : ∀ (j : Nat) (a : Nat) (d : Array (Int × Int)), (insInner ltK a j d).size = d.size
  | 0, _, d => by rw [insInner]
  | j + 1, a, d => by
    rw [insInner]
    split
    · rw [size_inner j, size_swp]
    · rfl
theorem size_outer (a b : Nat) : ∀ (n i : Nat) (d : Array (Int × Int)), b - i ≤ n → (insOuter ltK a b i d).size = d.size
  | 0, i, d, h => by rw [insOuter_stop _ _ _ _ _ (by omega)]
  | n + 1, i, d, h => by
    by_cases hi : i < b
    · rw [insOuter_go _ _ _ _ _ hi, size_outer a b n (i + 1) _ (by omega), size_inner]
    · rw [insOuter_stop _ _ _ _ _ hi]
theorem size_ins (d : Array (Int × Int)) (a b : Nat) : (insertionSort ltK d a b).size = d.size := size_outer a b _ _ d (Nat.le_refl _)
def renIns : Go.Shelf.Ren := ⟨fun | 20 => 77 | n => n, fun | 0 => 0 | 3 => 3 | 4 => 4 | 22 => 66 | 24 => 71 | 25 => 93 | n => n, fun n => n⟩
theorem laysIns : SlLaysF0.n20 Tryz.prog renIns := {
  mixed := by kernel_rfl
  f20 := ⟨"slices.insertionSortCmpFunc[postrider/route.match[int]]", by decide, Tryz.func77.trans (congrArg some (by kernel_rfl))⟩
  t0 := Tryz.underlying0
  a0 := Tryz.isAgg0
  z0 := Tryz.sizeOf0
  v0 := Tryz.zeroValue0
  t3 := Tryz.underlying3
  a3 := Tryz.isAgg3
  z3 := Tryz.sizeOf3
  v3 := Tryz.zeroValue3
  t4 := Tryz.underlying4
  a4 := Tryz.isAgg4
  z4 := Tryz.sizeOf4
  v4 := Tryz.zeroValue4
  t22 := Tryz.underlying66
  a22 := Tryz.isAgg66
  z22 := Tryz.sizeOf66
  v22 := Tryz.zeroValue66
  t25 := Tryz.underlying93
  a25 := Tryz.isAgg93
  z25 := Tryz.sizeOf93
  v25 := Tryz.zeroValue93 }
def encL (x : Int × Int) : List Value := [.int .i64 x.1, .int .i64 x.2]
def cfM (x y : Int × Int) : Int := if y.2 < x.2 then -1 else if y.2 > x.2 then 1 else 0
theorem lt_cf : ltOf cfM = ltK := by
  funext x y
  unfold ltOf cfM ltK keyL
  by_cases h : y.2 < x.2
  · rw [if_pos h]; simp [h]
  · rw [if_neg h]
    split <;> simp [h]
theorem cmp_is (a b : Int) : cmp_Compare_int.f a b = some (if a < b then -1 else if a > b then 1 else 0) := by
  unfold cmp_Compare_int.f cmp_isNaN_int.f
  simp
  split
  · rfl
  · split <;> rfl
theorem cmpM_calls (x y : Int × Int) (W : World) : Calls Tryz.prog 51 #[.agg #[.int .i64 x.1, .int .i64 x.2], .agg #[.int .i64 y.1, .int .i64 y.2]] W fun e w' => e = .returned (.int .i64 (cfM x y)) ∧ ∃ q os', w' = grow (W.drewN q) os' := by
  have hc := fun W => cmp_Compare_int.calls y.2 x.2 _ W (cmp_is y.2 x.2)
  have hu := Tryz.underlying71
  unfold cfM
  generalize (if y.2 < x.2 then (-1 : Int) else if y.2 > x.2 then 1 else 0) = r at *
  go_enter Tryz.func51, Tryz.ntmps51
  go_wp2_with (go_at_call 52; refine (hc _).mono ?_; rintro e w' ⟨rfl, hd⟩; obtain ⟨nd, rfl⟩ := hd.out)
  go_ret
  refine ⟨rfl, nd, #[.cells #[.int .i64 x.1, .int .i64 x.2] 71, .cells #[.int .i64 y.1, .int .i64 y.2] 71], ?_⟩
  rw [alloc_eq_grow, alloc_eq_grow, grow_grow]
  rfl
theorem cmpLays (blk off size : Nat) (w : World) : CmpLays Tryz.prog 51 #[] encL 2 cfM blk off size w := fun _ _ _ _ x y => cmpM_calls x y _
theorem sortW_kept (w : World) (blk off n : Nat) (d : Array (Int × Int)) (os : Array Obj) : KeptA (fun k => k = blk) w (sortWorldK encL 2 w blk off n d os) := by
  unfold sortWorldK
  refine ⟨rfl, rfl, rfl, ?_, fun k o hk hx => ?_⟩
  · rw [size_grow, size_putRowK]
    exact Nat.le_add_right _ _
  · have hlt := (Array.getElem?_eq_some_iff.1 hk).1
    rw [heap_grow_old _ _ (by rw [size_putRowK]; exact hlt)]
    unfold putRowK putRow mapBlock
    show (w.heap.modify blk _)[k]? = _
    rw [Array.getElem?_modify, if_neg (fun e => hx e.symm)]
    exact hk
def Sorted (w w' : World) (blk off : Nat) (d : Array (Int × Int)) : Prop := HoldsK encL 2 w' blk off d ∧ KeptA (fun k => k = blk) w w'
theorem ins_calls (blk off cap a b : Nat) (d : Array (Int × Int)) (w : World) (hH : HoldsK encL 2 w blk off d) (hblk : blk < w.heap.size) (hab : a ≤ b) (hb : b ≤ d.size) (hsz : d.size ≤ 1000) :
    Calls Tryz.prog 77 #[.slice (some ⟨blk, off, none⟩) d.size cap, .int .i64 a, .int .i64 b, .func (.func 51) #[] #[]] w fun e w' =>
      e = .returned (.tuple #[]) ∧ Sorted w w' blk off (insertionSort ltK d a b) := by
  have eg := Go.Proofs.enters_of Tryz.func51 (by kernel_rfl) rfl
  have h := AnyQ.insertionSortCmpFunc laysIns 2 Tryz.isAgg71 Tryz.sizeOf71 encL (fun _ => rfl) (fun x v hv => by simp [encL] at hv; rcases hv with rfl | rfl <;> rfl) cfM 51 #[] blk off cap a b d w eg (cmpLays blk off d.size w) hH hblk hab hb (by omega)
  change Calls Tryz.prog 77 _ _ _ at h
  rw [lt_cf] at h
  refine h.mono ?_
  rintro e w' ⟨rfl, n, os, rfl⟩
  refine ⟨rfl, ?_, sortW_kept w blk off n _ os⟩
  have hs : (insertionSort ltK d a b).size = d.size := size_ins d a b
  exact holdsK_sortWorldK_c encL 2 w blk off d _ n os hH hblk hs
set_option maxRecDepth 100000 in
theorem ins_none (v : Value) (a b : Nat) (w : World) (h : ¬ a + 1 < b) (ha : a ≤ 1000) :
    Calls Tryz.prog 77 #[v, .int .i64 a, .int .i64 b, .func (.func 51) #[] #[]] w fun e w' => e = .returned (.tuple #[]) ∧ w' = w := by
  have hz : ¬ (a : Int) + 1 < (b : Int) := by omega
  have hw : IntKind.i64.wrap ((a : Int) + 1) = (a : Int) + 1 := by rw [IntKind.wrap_i64]; omega
  go_enter Tryz.func77, Tryz.ntmps77
  go_wp2
  refine wp_loop_rounds 1 ?_
  rw [rounds_succ]
  go_wp2
  go_end0
  exact ⟨rfl, rfl⟩
set_option maxRecDepth 100000 in
theorem stable_few (v : Value) (n : Nat) (w : World) (hn : n < 20) (Q : World → Prop)
    (hI : Calls Tryz.prog 77 #[v, .int .i64 0, .int .i64 n, .func (.func 51) #[] #[]] w fun e w' => e = .returned (.tuple #[]) ∧ Q w') :
    Calls Tryz.prog 68 #[v, .int .i64 n, .func (.func 51) #[] #[]] w fun e w' => e = .returned (.tuple #[]) ∧ Q w' := by
  have hz : ¬ (20 : Int) ≤ (n : Int) := by omega
  have hz2 : ¬ (20 : Int) < (n : Int) := by omega
  go_enter Tryz.func68, Tryz.ntmps68
  go_wp2
  refine wp_loop_rounds 1 ?_
  rw [rounds_succ]
  go_wp2_with (go_at_call 77; refine hI.mono ?_; rintro e w' ⟨rfl, hq⟩)
  refine wp_loop_rounds 1 ?_
  rw [rounds_succ]
  go_wp2
  go_end0
  exact ⟨rfl, hq⟩
set_option maxRecDepth 100000 in
theorem stable_20 (v : Value) (w : World) (Q : World → Prop)
    (hI : Calls Tryz.prog 77 #[v, .int .i64 0, .int .i64 20, .func (.func 51) #[] #[]] w fun e w' => e = .returned (.tuple #[]) ∧ Q w') :
    Calls Tryz.prog 68 #[v, .int .i64 20, .func (.func 51) #[] #[]] w fun e w' => e = .returned (.tuple #[]) ∧ Q w' := by
  have hN := fun W => ins_none v 20 20 W (by omega) (by omega)
  go_enter Tryz.func68, Tryz.ntmps68
  go_wp2
  refine wp_loop_rounds 2 ?_
  rw [rounds_succ]
  go_wp2_with (go_at_call 77; refine hI.mono ?_; rintro e w' ⟨rfl, hq⟩)
  rw [rounds_succ]
  go_wp2_with (go_at_call 77; refine (hN _).mono ?_; rintro e w2 ⟨rfl, rfl⟩)
  refine wp_loop_rounds 1 ?_
  rw [rounds_succ]
  go_wp2
  go_end0
  exact ⟨rfl, hq⟩
theorem stable_calls (v : Value) (n : Nat) (w : World) (hn : n ≤ 20) (Q : World → Prop)
    (hI : Calls Tryz.prog 77 #[v, .int .i64 0, .int .i64 n, .func (.func 51) #[] #[]] w fun e w' => e = .returned (.tuple #[]) ∧ Q w') :
    Calls Tryz.prog 68 #[v, .int .i64 n, .func (.func 51) #[] #[]] w fun e w' => e = .returned (.tuple #[]) ∧ Q w' := by
  by_cases h : n < 20
  · exact stable_few v n w h Q hI
  · obtain rfl : n = 20 := by omega
    exact stable_20 v w Q hI
theorem sortStable_calls (A : Option Addr) (n c : Nat) (w : World) (hn : n ≤ 20) (Q : World → Prop)
    (hI : Calls Tryz.prog 77 #[.slice A n c, .int .i64 0, .int .i64 n, .func (.func 51) #[] #[]] w fun e w' => e = .returned (.tuple #[]) ∧ Q w') :
    Calls Tryz.prog 50 #[.slice A n c, .func (.func 51) #[] #[]] w fun e w' => e = .returned (.tuple #[]) ∧ Q w' := by
  have h := stable_calls (.slice A n c) n w hn Q hI
  clear hI
  go_enter Tryz.func50, Tryz.ntmps50
  go_wp2_with (go_at_call 68; refine h.mono ?_; rintro e w' ⟨rfl, hq⟩)
  go_end0
  exact ⟨rfl, hq⟩
end Go.Proofs.YtaknknfcikdjiaaGreatDoor.Hand
end
section
namespace Go.Proofs.YtaknknfcikdjiaaGreatDoor.Hand
open Go.RowKit Go.Sort Go.Proofs.YtaknknfcikdjiaaGreatDoorW Go.Proofs.YtaknknfcikdjiaaGreatDoorW.PrintWords Go.Proofs.YtaknknfcikdjiaaGreatDoor.RK
abbrev tMt : Nat := 71
abbrev tInt : Nat := 3
theorem infoInt : (Tryz.prog.info? tInt).map (fun i => (i.zero, i.size, i.bytes)) = some (some (.int .i64 0), 1, 8) := by kernel_rfl
theorem row_slice {W : World} {B e m k : Nat} {v : Value} {xs : List Value} (h : W.ownsRow B e k v m xs) : ∃ A m' c, v = .slice A m' c ∧ Hid (m' = m) := by
  rcases h.2 with ⟨rfl, rfl⟩ | ⟨g, cap, cur, rfl, _⟩
  · exact ⟨_, _, _, rfl, Lib.hid rfl⟩
  · exact ⟨_, _, _, rfl, Lib.hid rfl⟩
def flatM (l : List (Int × Int)) : List Value := l.flatMap encL
theorem flatM_at : ∀ (l : List (Int × Int)) (j : Nat), j < l.length * 2 → (flatM l)[j]? = some (encL l[j / 2]!)[j % 2]!
  | [], j, h => by simp at h
  | x :: r, 0, _ => by simp [flatM, encL]
  | x :: r, 1, _ => by simp [flatM, encL]
  | x :: r, j + 2, h => by
    have ih := flatM_at r j (by simp at h; omega)
    have e : (flatM (x :: r))[j + 2]? = (flatM r)[j]? := by
      show (encL x ++ flatM r)[j + 2]? = _
      simp [encL]
    rw [e, ih, show (j + 2) / 2 = j / 2 + 1 by omega, show (j + 2) % 2 = j % 2 by omega]
    simp
theorem holds_of_own {w : World} {base g n cap : Nat} {l : List (Int × Int)} (h : w.ownsRow base tMt 2 (.slice (some ⟨g, 0, none⟩) n cap) l.length (flatM l)) : HoldsK encL 2 w g 0 l.toArray := by
  obtain ⟨hlen, h⟩ := h
  rcases h with ⟨h, _⟩ | ⟨g', cap', cur, he, _, hh, hn, _, hs, ht⟩
  · cases h
  · injection he with e1 e2 e3
    injection e1 with e1
    injection e1 with e1
    subst e1
    intro j hj
    rw [size_flatK] at hj
    have hj' : j < l.length * 2 := by simpa using hj
    refine ⟨?_, frozen_blk hh _⟩
    rw [cell_blk hh, get_flatK _ _ _ _ hj, Nat.zero_add]
    have h2 := flatM_at l j hj'
    rw [← ht, List.getElem?_take_of_lt hj', Array.getElem?_toList] at h2
    rw [h2]
    simp
def kMt : Kd (Int × Int) := Kd.pair (Kd.int .i64) (Kd.int .i64)
theorem kMt_mk (w : World) (x : Int × Int) : kMt.K w x [.int .i64 x.1, .int .i64 x.2] := ⟨[.int .i64 x.1], [.int .i64 x.2], rfl, rfl, rfl⟩
theorem kMt_open {w : World} {x : Int × Int} {cs : List Value} (h : kMt.K w x cs) : cs = [.int .i64 x.1, .int .i64 x.2] := by
  obtain ⟨_, _, rfl, rfl, rfl⟩ := h
  exact rfl
theorem add_head (g n : Nat) : (⟨g, 0, none⟩ : Addr).add n = ⟨g, 0 + n, none⟩ := by
  unfold Addr.add
  split
  · rename_i h; rw [h]
  · rfl
theorem reads_of_holds {w : World} {g : Nat} {d : Array (Int × Int)} (h : HoldsK encL 2 w g 0 d) (hd : d.size ≤ 1000) : Kd.C kMt w (some ⟨g, 0, none⟩) d.size d.toList := by
  refine ⟨Array.length_toList .., by omega, fun _ => ⟨_, rfl, fun j p hp => ⟨_, rfl, kMt_mk w p, fun i u hu => ?_⟩⟩⟩
  have hj : j < d.size := by
    have := (List.getElem?_eq_some_iff.1 hp).1
    simpa using this
  have hdj : d[j]! = p := by
    rw [Array.getElem?_toList, Array.getElem?_eq_getElem hj] at hp
    rw [getElem!_pos d j hj]
    exact Option.some.inj hp
  have hi : i < 2 := by
    have := (List.getElem?_eq_some_iff.1 hu).1
    simpa using this
  have hc := (h.cell hj hi).1
  rw [hdj] at hc
  have e : (encL p)[i]! = u := by
    have hu' : (encL p)[i]? = some u := hu
    rw [List.getElem!_eq_getElem?_getD, hu']
    rfl
  rw [e] at hc
  rw [← hc]
  rw [show kMt.sz = 2 from rfl, add_head]
  show w.cell? ⟨g, 0 + (j * 2 + i), none⟩ = w.cell? ⟨g, 0 + j * 2 + i, none⟩
  rw [Nat.add_assoc]
def rd_Mt (xs : List (Int × Int)) (i : Int) : Int × Int := xs.getD i.toNat (0, 0)
theorem at_Mt {w : World} {A : Option Addr} {n : Nat} {xs : List (Int × Int)} (h : Kd.C kMt w A n xs) (i : Int) (h0 : 0 ≤ i) (h1 : i < n) : ∃ ad, A = some ad ∧ w.cell? (ad.add (i.toNat * 2)) = some (.int .i64 (rd_Mt xs i).1) ∧ w.cell? ⟨(ad.add (i.toNat * 2)).block, (ad.add (i.toNat * 2)).off + 1, none⟩ = some (.int .i64 (rd_Mt xs i).2) := by
  obtain ⟨ad, c, e, _, hK, hc0⟩ := Kd.C_get h (0, 0) i h0 h1
  have hc : ∀ j u, c[j]? = some u → w.cell? (ad.add (i.toNat * 2 + j)) = some u := hc0
  obtain rfl := kMt_open hK
  exact ⟨ad, e, hc 0 _ rfl, by rw [← add_field _ _ 1 (by omega)]; exact hc 1 _ rfl⟩
set_option maxRecDepth 100000 in
set_option maxHeartbeats 2000000 in
theorem byLength_run (A : Option Addr) (c : Nat) (l : List (Int × Int)) (w : World) (B : Nat) (X : Nat → Prop) (hB : B ≤ w.heap.size) (hl : l.length ≤ 20)
    (hS : Calls Tryz.prog 50 #[.slice A l.length c, .func (.func 51) #[] #[]] w fun e w' => e = .returned (.tuple #[]) ∧ Below B w w' ∧ KeptA X w w' ∧ Kd.C kMt w' A l.length (sortR keyL l)) :
    Calls Tryz.prog 38 #[.slice A l.length c] w fun e w' => ∃ v, e = .returned v ∧ Kd.R (Kd.int .i64) tInt w' B (fun _ => True) v ((sortR keyL l).map (·.1)) ∧ Below B w w' ∧ KeptA X w w' := by
  have hu := Tryz.underlying71
  have hlen := sortR_len keyL l
  go_enter Tryz.func38, Tryz.ntmps38
  go_wp2_with (go_at_call 50; refine hS.mono ?_; rintro e w1 ⟨rfl, hb1, hk1, hC⟩)
  clear hS
  have hs1 := hk1.size
  have HK1 := Lib.hid hk1
  have HC := Lib.hid hC
  have HB1 := Lib.hid hb1
  have HS1 := Lib.hid hs1
  clear hC hb1 hs1 hk1
  go_loopg [3, 5, 10] l.length (fun gg s3 _ s10 wr => ∃ (A3 : Option Addr) (c3 kk : Nat), kk ≤ l.length ∧ l.length - kk ≤ gg ∧ s3 = .slice A3 kk c3 ∧ s10 = .int .i64 kk ∧ Hid (Below w1.heap.size w1 wr) ∧ Hid (wr.ownsRow w1.heap.size tInt 1 (.slice A3 kk c3) kk (encs (Value.int .i64) (((sortR keyL l).take kk).map (·.1)))))
  case atStart => exact ⟨none, 0, 0, Nat.zero_le _, by omega, rfl, rfl, Lib.hid (Below.refl _ _), Lib.hid (World.ownsRow_nil _ _ _ _)⟩
  case round =>
    obtain ⟨A3, c3, kk, hkk, hg, rfl, rfl, BW, OW⟩ := hrel
    by_cases hlt : kk < l.length
    · have hltz : (kk : Int) < (l.length : Int) := by omega
      obtain ⟨ad, hA, x0, x1⟩ := at_Mt HC.out (kk : Int) (by omega) hltz
      subst hA
      have htk : ((sortR keyL l).take (kk + 1)).map (·.1) = ((sortR keyL l).take kk).map (·.1) ++ [(rd_Mt (sortR keyL l) (kk : Int)).1] := by
        unfold rd_Mt
        rw [List.getD_eq_getElem?_getD, Int.toNat_natCast, List.getElem?_eq_getElem (by omega), List.take_succ_eq_append_getElem (by omega), List.map_append]
        rfl
      simp only [Int.toNat_natCast] at x0 x1
      replace x0 := (BW.out.cell (World.block_lt_of_cell? w1 _ x0)).trans x0
      replace x1 := (BW.out.cell (World.block_lt_of_cell? w1 _ x1)).trans x1
      generalize rd_Mt (sortR keyL l) (kk : Int) = y at *
      have hll : (((sortR keyL l).take kk).map (·.1)).length = kk := by rw [List.length_map, List.length_take]; omega
      generalize ((sortR keyL l).take kk).map (·.1) = ys at *
      obtain ⟨y0, y1⟩ := y
      have HT := Lib.hid htk
      have HLL := Lib.hid hll
      have OW2 : Hid ((wr.alloc (.cells #[.int .i64 y0, .int .i64 y1] tMt)).ownsRow w1.heap.size tInt 1 (.slice A3 kk c3) ys.length (encs (Value.int .i64) ys)) := Lib.hid (by rw [hll]; exact OW.out.alloc _)
      have BW2 : Hid (Below w1.heap.size w1 (wr.alloc (.cells #[.int .i64 y0, .int .i64 y1] tMt))) := Lib.hid (BW.out.alloc BW.out.size _)
      clear htk hll
      go_wp2_with ((with_reducible refine gate_builtin (b := .append) (xs := #[.tmp 14, .tmp 17]) rfl ?_); at_builtin; go_loud (refine print_append_of (w0 := w1) (Value.int .i64) w1.heap.size rfl (.tmp 14) (.tmp 17) 43 tInt (.int .i64 0) 8 rfl Tryz.underlying43 infoInt rfl (by decide) (.slice A3 kk c3) ys y0 rfl (by show Value.slice (some ⟨wr.heap.size + 1, 0, none⟩) 1 1 = _; simp) rfl OW2.out BW2.out BW2.out.size (by have := HLL.out; omega) ?_); intro v9 w9 hown9 hb9 hg9 hat9; clear hat9 hg9; obtain ⟨A9, m9, c9, rfl, hm9⟩ := row_slice hown9; have HO9 := Lib.hid hown9; have HB9 := Lib.hid hb9; clear hown9 hb9)
      go_roundg (l.length - (kk + 1))
      case measure => omega
      case rel =>
        have e9 : m9 = kk + 1 := by have h1 := hm9.out; have h2 := HLL.out; rw [List.length_append, List.length_singleton] at h1; omega
        subst e9
        exact ⟨A9, c9, kk + 1, by omega, by omega, rfl, by go_num, HB9, Lib.hid (by have := HO9.out; rw [List.length_append, List.length_singleton, HLL.out] at this; rw [HT.out]; exact this)⟩
    · have hltz : ¬ (kk : Int) < (l.length : Int) := by omega
      have hk : kk = l.length := by omega
      subst hk
      have h1 := OW.out
      rw [List.take_of_length_le (by omega)] at h1
      have H1 := Lib.hid h1
      clear h1
      go_wp2
      go_ret
      exact ⟨_, rfl, Kd.R_of_own (own_weaken (by simpa [sortR_len] using H1.out) (Nat.le_trans hB HS1.out)) (fun _ _ => trivial), HB1.out.trans (BW.out.mono (Nat.le_trans hB HS1.out)), HK1.out.trans (KeptA.of_below BW.out)⟩
theorem byLength_calls (v : Value) (l : List (Int × Int)) (B : Nat) (w : World) (hl : l.length ≤ 20) (hrow : w.ownsRow B tMt 2 v l.length (flatM l)) (hB : B ≤ w.heap.size) :
    Calls Tryz.prog 38 #[v] w fun e w' => ∃ v', e = .returned v' ∧ Kd.R (Kd.int .i64) tInt w' B (fun _ => True) v' ((sortR keyL l).map (·.1)) ∧ Below B w w' ∧ KeptA (fun k => v.ownBlock = some k) w w' := by
  have hrow' := hrow
  rcases hrow.2 with ⟨rfl, hn⟩ | ⟨g, cap, cur, rfl, hg, hh, _⟩
  · obtain rfl := List.length_eq_zero_iff.1 hn
    refine byLength_run none 0 [] w B _ hB (by simp) ((sortStable_calls none 0 0 w (by omega) (fun w' => w' = w) (ins_none _ 0 0 w (by omega) (by omega))).mono ?_)
    rintro e w' ⟨rfl, rfl⟩
    exact ⟨rfl, (Below.refl _ w').mono hB, KeptA.refl _ _, rfl, Nat.zero_le _, fun h => absurd h (Nat.lt_irrefl _)⟩
  · have hH := holds_of_own hrow'
    have hgl : g < w.heap.size := (Array.getElem?_eq_some_iff.1 hh).1
    have hI := ins_calls g 0 cap 0 l.toArray.size l.toArray w hH hgl (Nat.zero_le _) (Nat.le_refl _) (by simp; omega)
    have hs : l.toArray.size = l.length := by simp
    rw [hs] at hI
    refine byLength_run (some ⟨g, 0, none⟩) cap l w B _ hB hl ((sortStable_calls (some ⟨g, 0, none⟩) l.length cap w hl _ hI).mono ?_)
    rintro e w' ⟨rfl, hS, hK⟩
    have hsz := sorted_size l.toArray
    have hso := sorted_is l.toArray
    rw [hs] at hsz hso
    refine ⟨rfl, ⟨hK.os, hK.tape, hK.output, hK.size, fun k hk => ?_⟩, ?_, ?_⟩
    · have e1 : w.heap[k]? = some w.heap[k] := Array.getElem?_eq_getElem (by omega)
      rw [hK.block k _ e1 (by omega), e1]
    · exact ⟨hK.os, hK.tape, hK.output, hK.size, fun k o hk hx => hK.block k o hk (fun e => hx (by rw [e]; rfl))⟩
    · have := reads_of_holds hS (by rw [hsz]; omega)
      rw [hsz, hso] at this
      exact this
end Go.Proofs.YtaknknfcikdjiaaGreatDoor.Hand
end
section
namespace Go.Proofs.YtaknknfcikdjiaaGreatDoor.RC
open Go.Proofs.YtaknknfcikdjiaaGreatDoor.Hand
open Go.Proofs.YtaknknfcikdjiaaGreatDoor.SA
open Go.RowKit Go.Proofs.YtaknknfcikdjiaaGreatDoorW.PrintWords Go.Proofs.YtaknknfcikdjiaaGreatDoorW.PrintLast Go.Proofs.YtaknknfcikdjiaaGreatDoorW.PrintMore
attribute [local go_sem] max2_int min2_int max_two min_two max_three min_three max_four min_four
set_option linter.unusedVariables false
set_option linter.unusedSimpArgs false
def errW : Option Int → Value
  | none => .nilIface
  | some c => .iface 0 (.int .i64 c)
theorem errW_none : errW none = .nilIface := rfl
theorem errW_some (c : Int) : errW (some c) = .iface 0 (.int .i64 c) := rfl
end Go.Proofs.YtaknknfcikdjiaaGreatDoor.RC
end
section
namespace Go.Proofs.YtaknknfcikdjiaaGreatDoor.RC
open Go.Proofs.YtaknknfcikdjiaaGreatDoor.Hand
open Go.Proofs.YtaknknfcikdjiaaGreatDoor.SA
open Go.RowKit Go.Proofs.YtaknknfcikdjiaaGreatDoorW.PrintWords Go.Proofs.YtaknknfcikdjiaaGreatDoorW.PrintLast Go.Proofs.YtaknknfcikdjiaaGreatDoorW.PrintMore
attribute [local go_sem] max2_int min2_int max_two min_two max_three min_three max_four min_four
set_option linter.unusedVariables false
set_option linter.unusedSimpArgs false
def eid_Print.f (a0_0 : Int) (a0_1 : ByteArray) (a0_2 : ByteArray) (a0_3 : Int) (a0_4 : Int) : Option (ByteArray × Int) := (eid_Halves.f a0_0 a0_1 a0_2 a0_3 a0_4).bind fun bt102 => (if bt102.1.size + 1 ≤ 9223372036854775807 then (if bt102.1.size + 1 + bt102.2.1.size ≤ 9223372036854775807 then ((eid_either_string.f ((bt102.1 ++ (⟨#[58]⟩ : ByteArray)) ++ bt102.2.1) (bt102.2.2 == 0)).bind fun bt105 => (some (bt105.1, bt105.2))) else (none)) else (none))
set_option maxHeartbeats 8000000 in
set_option maxRecDepth 100000 in
theorem eid_Print.calls (a0_0 : Int) (a0_1 : ByteArray) (a0_2 : ByteArray) (a0_3 : Int) (a0_4 : Int) (r1 : ByteArray) (r2 : Int) (w : World) (hLd : Laid w) (h : eid_Print.f a0_0 a0_1 a0_2 a0_3 a0_4 = some (r1, r2)) :
    Calls Tryz.prog 21 #[.agg #[.int .i64 a0_0, .string a0_1, .string a0_2, .int .i64 a0_3, .int .i64 a0_4]] w fun e w' => e = .returned (.tuple #[.string r1, .int .i64 r2]) ∧ Below w.heap.size w w' := by
  have hu37 := Tryz.underlying37
  have HLD := Aside0.mk hLd
  clear hLd
  have HB := Aside0.mk (Below.refl w.heap.size w)
  have H : ((eid_Halves.f a0_0 a0_1 a0_2 a0_3 a0_4).bind fun bt102 => (if bt102.1.size + 1 ≤ 9223372036854775807 then (if bt102.1.size + 1 + bt102.2.1.size ≤ 9223372036854775807 then ((eid_either_string.f ((bt102.1 ++ (⟨#[58]⟩ : ByteArray)) ++ bt102.2.1) (bt102.2.2 == 0)).bind fun bt105 => (some (bt105.1, bt105.2))) else (none)) else (none))) = some (r1, r2) := h
  clear h
  replace H := Option.bind_eq_some_iff.mp H
  obtain ⟨⟨t102, t103, t104⟩, A20, H⟩ := H
  replace H : (if t102.size + 1 ≤ 9223372036854775807 then (if t102.size + 1 + t103.size ≤ 9223372036854775807 then ((eid_either_string.f ((t102 ++ (⟨#[58]⟩ : ByteArray)) ++ t103) (t104 == 0)).bind fun bt105 => (some (bt105.1, bt105.2))) else (none)) else (none)) = some (r1, r2) := H
  have A2 := Aside0.mk A20
  clear A20
  by_cases c3 : t102.size + 1 ≤ 9223372036854775807
  · rw [if_pos c3] at H
    have c3b0 := eq_true c3
    have c3b1 : decide (t102.size + 1 ≤ 9223372036854775807) = true := decide_eq_true c3
    try have c3b2 : (9223372036854775807 < t102.size + 1) = False := eq_false (Nat.not_lt.2 c3)
    by_cases c4 : t102.size + 1 + t103.size ≤ 9223372036854775807
    · rw [if_pos c4] at H
      have c4b0 := eq_true c4
      have c4b1 : decide (t102.size + 1 + t103.size ≤ 9223372036854775807) = true := decide_eq_true c4
      try have c4b2 : (9223372036854775807 < t102.size + 1 + t103.size) = False := eq_false (Nat.not_lt.2 c4)
      replace H := Option.bind_eq_some_iff.mp H
      obtain ⟨⟨t105, t106⟩, A50, H⟩ := H
      replace H : (some (t105, t106)) = some (r1, r2) := H
      have A5 := Aside0.mk A50
      clear A50
      simp only [Option.some.injEq, Prod.mk.injEq] at H
      obtain ⟨rfl, rfl⟩ := H
      go_enter Tryz.func21, Tryz.ntmps21
      go_wp2_with (first | ((with_reducible refine gate_dst (N := 1) rfl ?_); refine box_event ?hg (N := 1) ?hd (cs := #[.int .i64 a0_0, .string a0_1, .string a0_2, .int .i64 a0_3, .int .i64 a0_4]) (t := 37) ?hr ?_; (case hd => rfl); (case hg => rfl); (case hr => first | (go_simp; done) | (go_simp; rfl) | (go_simp; simp only [isEmpty_ne, isEmpty_eq]; done) | (go_simp; simp only [isEmpty_ne, isEmpty_eq]; rfl)); intro gb101 hg w6 hbox hb; have n0_ := Aside0.mk (below_step (by repeat (first | (with_reducible first | exact HB.out | apply below_alloc | apply pw_below_drewN | apply below_drew1) | exact HB.out)) hb); have n1_ := Aside0.mk (hbox); have n2_ := Aside0.mk ((by rw [hg]; exact (below_size (by repeat (first | (with_reducible first | exact HB.out | apply below_alloc | apply pw_below_drewN | apply below_drew1) | exact HB.out))) : w.heap.size ≤ gb101)); have n3_ := Aside0.mk ((by rw [hg]; exact (below_size (by repeat (first | (with_reducible first | exact HB.out | apply below_alloc | apply pw_below_drewN | apply below_drew1) | exact HB.out))) : w.heap.size ≤ gb101)); clear HB; have HB := n0_; have BK101 := n1_; have GW101 := n2_; have GE101 := n3_; clear n0_ n1_ n2_ n3_; clear hb hbox hg; have hcz7_0 : w6.cell? ⟨gb101, 0, none⟩ = some (.int .i64 a0_0) := (blk_cell BK101.out 0).trans rfl; have hcz7_1 : w6.cell? ⟨gb101, 1, none⟩ = some (.string a0_1) := (blk_cell BK101.out 1).trans rfl; have hcz7_2 : w6.cell? ⟨gb101, 2, none⟩ = some (.string a0_2) := (blk_cell BK101.out 2).trans rfl; have hcz7_3 : w6.cell? ⟨gb101, 3, none⟩ = some (.int .i64 a0_3) := (blk_cell BK101.out 3).trans rfl; have hcz7_4 : w6.cell? ⟨gb101, 4, none⟩ = some (.int .i64 a0_4) := (blk_cell BK101.out 4).trans rfl; have hfz7_0 := blk_frozen BK101.out 0; have hfz7_1 := blk_frozen BK101.out 1; have hfz7_2 := blk_frozen BK101.out 2; have hfz7_3 := blk_frozen BK101.out 3; have hfz7_4 := blk_frozen BK101.out 4) | ((with_reducible refine gate_callee (f := 39) rfl ?_); refine goesL_ (some 9) rfl rfl Tryz.func39 (by kernel_rfl) rfl #[.agg #[.int .i64 a0_0, .string a0_1, .string a0_2, .int .i64 a0_3, .int .i64 a0_4]] rfl (by (try simp only [List.map_toArray, List.map_cons, List.map_nil]); first | done | rfl | (simp only [List.length_drop, List.length_take]; rfl)) ?_; (with_reducible refine (eid_Halves.calls a0_0 a0_1 a0_2 a0_3 a0_4 t102 t103 t104 _ ?side1 A2.out).mono ?_); (case side1 => exact Laid.below HLD.out (by repeat (first | (with_reducible first | exact HB.out | apply below_alloc | apply pw_below_drewN | apply below_drew1 | refine below_set ?_ GE101.out) | exact HB.out))); rintro e w8 ⟨rfl, hb⟩; refine ⟨_, rfl, ?_⟩; have n0_ := Aside0.mk (blk_below (g := gb101) (o := .cells #[.int .i64 a0_0, .string a0_1, .string a0_2, .int .i64 a0_3, .int .i64 a0_4] 37 (0, 0)) (by (with_reducible repeat (first | refine blk_drewN ?_ _ | refine blk_drew ?_ | refine blk_alloc ?_ _)); exact BK101.out) hb); have n1_ := Aside0.mk (below_step (by repeat (first | (with_reducible first | exact HB.out | apply below_alloc | apply pw_below_drewN | apply below_drew1 | refine below_set ?_ GE101.out) | exact HB.out)) hb); clear BK101; clear HB; have BK101 := n0_; have HB := n1_; clear n0_ n1_; (try clear hb); (try clear hb2); (try clear hk); (try clear hi)) | ((with_reducible refine gate_callee (f := 40) rfl ?_); refine goesL_ (some 19) rfl rfl Tryz.func40 (by kernel_rfl) rfl #[.string ((t102 ++ (⟨#[58]⟩ : ByteArray)) ++ t103), .bool (t104 == 0)] rfl (by (try simp only [List.map_toArray, List.map_cons, List.map_nil]); first | done | rfl | (simp only [List.length_drop, List.length_take]; rfl)) ?_; (with_reducible refine (eid_either_string.calls ((t102 ++ (⟨#[58]⟩ : ByteArray)) ++ t103) (t104 == 0) t105 t106 _ A5.out).mono ?_); rintro e w' ⟨rfl, ⟨nd, rfl⟩⟩; refine ⟨_, rfl, ?_⟩))
      all_goals (first | (go_ret2; exact ⟨by first | rfl | (simp [errW_none, errW_some] <;> rfl) | (simp [*, errW_none, errW_some] <;> rfl) | (simp_all; done) | fail, by repeat (first | (with_reducible first | exact HB.out | apply below_alloc | apply pw_below_drewN | apply below_drew1 | refine below_set ?_ GE101.out) | exact HB.out)⟩) | (exfalso; simp_all; done) | (exfalso; simp only [isEmpty_eq, isEmpty_ne] at *; simp_all; done) | (exfalso; exact isEmpty_clash (by assumption) (by assumption)) | (exfalso; exact isEmpty_clash' (by assumption) (by assumption)) | (exfalso; exact isEmpty_clash2 (by assumption) (by assumption)))
    · rw [if_neg c4] at H
      exact absurd H (by simp)
  · rw [if_neg c3] at H
    exact absurd H (by simp)
end Go.Proofs.YtaknknfcikdjiaaGreatDoor.RC
end
section
namespace Go.Proofs.YtaknknfcikdjiaaGreatDoor.Hand
open Go.RowKit Go.Proofs.YtaknknfcikdjiaaGreatDoor.SA Go.Proofs.YtaknknfcikdjiaaGreatDoor.RC
def textS (n : Int) (a1 a2 : ByteArray) (a3 a4 : Int) : ByteArray := (wordS n ++ (⟨#[58]⟩ : ByteArray)) ++ restS n a1 a2 a3 a4
theorem Print_is (n : Int) (a1 a2 : ByteArray) (a3 a4 : Int) (h1 : a1.size ≤ maxLen) (h2 : a2.size ≤ maxLen) :
    eid_Print.f n a1 a2 a3 a4 = some (if rightS n a1 a2 a3 a4 = true then (textS n a1 a2 a3 a4, 0) else (⟨#[]⟩, 60)) := by
  unfold eid_Print.f
  rw [Halves_is n a1 a2 a3 a4 h1 h2, Option.bind_some]
  unfold halvesS
  by_cases hr : rightS n a1 a2 a3 a4 = true
  · rw [if_pos hr, if_pos hr]
    have := rest_size hr
    have := word_size n
    simp only
    rw [if_pos (by omega), if_pos (by omega)]
    rfl
  · rw [if_neg hr, if_neg hr]
    rfl
def printT (n : Int) (a1 a2 : ByteArray) (a3 a4 : Int) : ByteArray × Int := if rightS n a1 a2 a3 a4 = true then (textS n a1 a2 a3 a4, 0) else (⟨#[]⟩, 60)
theorem Print_at (n : Int) (a1 a2 : ByteArray) (a3 a4 : Int) (h1 : a1.size ≤ maxLen) (h2 : a2.size ≤ maxLen) : eid_Print.f n a1 a2 a3 a4 = some (printT n a1 a2 a3 a4) := Print_is n a1 a2 a3 a4 h1 h2
end Go.Proofs.YtaknknfcikdjiaaGreatDoor.Hand
end
section
namespace Go.Proofs.YtaknknfcikdjiaaGreatDoor.Hand
open Go.RowKit Go.Proofs.YtaknknfcikdjiaaGreatDoorW Go.Proofs.YtaknknfcikdjiaaGreatDoorW.PrintWords Go.Proofs.YtaknknfcikdjiaaGreatDoor.RK Go.Proofs.YtaknknfcikdjiaaGreatDoor.RC
def allT (l : List Rt) (n : Int) (a1 a2 : ByteArray) (a3 a4 : Int) : List Int × Int :=
  if rightRt l = true then (if rightS n a1 a2 a3 a4 = true then (allP (textS n a1 a2 a3 a4).data.toList (pfx l), 0) else ([], 60)) else ([], 160)
def route_All.f (l : List Rt) (n : Int) (a1 a2 : ByteArray) (a3 a4 : Int) : Option (List Int × Int) := if a1.size ≤ maxLen ∧ a2.size ≤ maxLen then some (allT l n a1 a2 a3 a4) else none
theorem alloc2w (w : World) (o0 o1 : Obj) : ((w.alloc o0).alloc o1).heap.size = w.heap.size + 2 ∧ ((w.alloc o0).alloc o1).heap[w.heap.size]? = some o0 ∧ ((w.alloc o0).alloc o1).heap[w.heap.size + 1]? = some o1 := by
  have h1 := World.alloc_heap_new (w.alloc o0) o1
  simp only [World.size_alloc] at h1
  exact ⟨by simp, (Below.heap_alloc _ _ _ (by simp)).trans (World.alloc_heap_new _ _), h1⟩
def alI (base B0 : Nat) (w : World) (pre : List (Int × Int)) (W : World) : Prop :=
  Below w.heap.size w W ∧ ∃ v, W.heap[B0]? = some (.cells #[v] 66) ∧ W.ownsRow base tMt 2 v pre.length (flatM pre)
theorem alI_keep {base B0 B1 : Nat} {w A B : World} {pre : List (Int × Int)} (h : alI base B0 w pre A) (hk : KeptX (fun _ => False) B1 A B) (h0 : w.heap.size ≤ B1) : alI base B0 w pre B := by
  obtain ⟨hb, v, q1, q2⟩ := h
  refine ⟨hk.below hb h0 (Nat.le_refl _) (fun _ _ => id), v, hk.blk q1 id, own_move q2 (fun k hk2 => ?_)⟩
  obtain ⟨cs, hc⟩ := own_typed q2 k hk2
  exact (hk.blk hc id).trans hc.symm
theorem alI_alloc {base B0 : Nat} {w A : World} {pre : List (Int × Int)} (h : alI base B0 w pre A) (hsz : w.heap.size ≤ A.heap.size) (o : Obj) : alI base B0 w pre (A.alloc o) := by
  obtain ⟨hb, v, q1, q2⟩ := h
  exact ⟨hb.alloc hsz _, v, blk_alloc q1 _, q2.alloc _⟩
theorem infoMt : (Tryz.prog.info? tMt).map (fun i => (i.zero, i.size, i.bytes)) = some (some (.agg #[.int .i64 0, .int .i64 0]), 2, 16) := by kernel_rfl
theorem cells_two_new (W : World) (a b : Value) (t : TypeId) : ∀ j u, [a, b][j]? = some u → (W.alloc (.cells #[a, b] t)).cell? ((⟨W.heap.size, 0, none⟩ : Addr).add j) = some u := fun j u h => by
  rw [add_head, Nat.zero_add, cell_blk (World.alloc_heap_new W (.cells #[a, b] t))]
  simpa using h
set_option maxRecDepth 100000 in
set_option maxHeartbeats 4000000 in
theorem all_bad (A0 : Option Addr) (c0 : Nat) (l0 : List Rt) (n : Int) (a1 a2 : ByteArray) (a3 a4 : Int) (w : World) (hr0 : Kd.C kRt w A0 l0.length l0) (hLd : LaidR w) (h : rightRt l0 = false) :
    Calls Tryz.prog 20 #[.slice A0 l0.length c0, .agg #[.int .i64 n, .string a1, .string a2, .int .i64 a3, .int .i64 a4]] w fun e w' => e = .returned (.tuple #[.slice none 0 0, .int .i64 160]) ∧ Below w.heap.size w w' := by
  have hu := Tryz.underlying65
  have hu2 := Tryz.underlying63
  have hu3 := Tryz.underlying37
  obtain ⟨wA, hwA⟩ : ∃ wA, wA = (w.alloc (.cells #[.int .i64 n, .string a1, .string a2, .int .i64 a3, .int .i64 a4] 37)).alloc (.cells #[.slice A0 l0.length c0, .string ⟨#[]⟩] 65) := ⟨_, rfl⟩
  have hbA : Below w.heap.size w wA := by rw [hwA]; exact b_alloc (b_alloc (Below.refl _ _) _) _
  have hR := areRight_calls A0 c0 l0 wA (Kd.C_below hr0 hbA)
  rw [h] at hR
  obtain ⟨hL, b0, b1, b2, b3, b4, b5, hE⟩ := hLd.below hbA
  have HE := Lib.hid hE
  have HB := Lib.hid hbA
  have HW := Lib.hid hwA
  rw [hwA] at hR
  clear hr0 hLd h hL hE hbA hwA
  go_enter Tryz.func20, Tryz.ntmps20
  go_wp2_with (first | (go_at_call 36; refine hR.mono ?_; rintro e w1 ⟨rfl, hb1⟩; rw [← HW.out] at hb1; have hE1 := HE.out.below hb1; obtain ⟨ge, _⟩ := hE1.e0; unfold errV at *; have hT := told_e0 w1 b0 b1 b2 b3 b4 b5 hE1; unfold errV at hT) | (go_at_call 32; refine hT.mono ?_; rintro e w2 ⟨rfl, rfl⟩))
  go_ret2
  exact ⟨rfl, HB.out.trans (hb1.mono HB.out.size)⟩
set_option maxRecDepth 100000 in
set_option maxHeartbeats 4000000 in
theorem all_none (A0 : Option Addr) (c0 : Nat) (l0 : List Rt) (n : Int) (a1 a2 : ByteArray) (a3 a4 : Int) (w : World) (hr0 : Kd.C kRt w A0 l0.length l0) (hLd : LaidR w) (h : rightRt l0 = true) (h1 : a1.size ≤ maxLen) (h2 : a2.size ≤ maxLen) (hn : rightS n a1 a2 a3 a4 = false) :
    Calls Tryz.prog 20 #[.slice A0 l0.length c0, .agg #[.int .i64 n, .string a1, .string a2, .int .i64 a3, .int .i64 a4]] w fun e w' => e = .returned (.tuple #[.slice none 0 0, .int .i64 60]) ∧ Below w.heap.size w w' := by
  have hu := Tryz.underlying65
  have hu2 := Tryz.underlying63
  have hu3 := Tryz.underlying37
  obtain ⟨wA, hwA⟩ : ∃ wA, wA = (w.alloc (.cells #[.int .i64 n, .string a1, .string a2, .int .i64 a3, .int .i64 a4] 37)).alloc (.cells #[.slice A0 l0.length c0, .string ⟨#[]⟩] 65) := ⟨_, rfl⟩
  have hbA : Below w.heap.size w wA := by rw [hwA]; exact b_alloc (b_alloc (Below.refl _ _) _) _
  obtain ⟨hsA, hz0, hz1⟩ := alloc2w w (.cells #[.int .i64 n, .string a1, .string a2, .int .i64 a3, .int .i64 a4] 37) (.cells #[.slice A0 l0.length c0, .string ⟨#[]⟩] 65)
  rw [← hwA] at hsA hz0 hz1
  have hR := areRight_calls A0 c0 l0 wA (Kd.C_below hr0 hbA)
  rw [h] at hR
  obtain ⟨hL, b0, b1, b2, b3, b4, b5, hE⟩ := hLd.below hbA
  have hP := fun W (hb : Below wA.heap.size wA W) => eid_Print.calls n a1 a2 a3 a4 ⟨#[]⟩ 60 W (hL.below hb) (by rw [Print_at n a1 a2 a3 a4 h1 h2]; unfold printT; rw [if_neg (by rw [hn]; decide)])
  have hZ : ∀ W, Below wA.heap.size wA W → W.heap[w.heap.size]? = some (.cells #[.int .i64 n, .string a1, .string a2, .int .i64 a3, .int .i64 a4] 37) := fun W hb => (hb.block _ (by omega)).trans hz0
  have HP := Lib.hid hP
  have HZ := Lib.hid hZ
  have HE := Lib.hid hE
  have HB := Lib.hid hbA
  have HW := Lib.hid hwA
  rw [hwA] at hR
  clear hr0 hLd h hL hE hbA hwA hP hZ hz0 hz1 hsA hn
  go_enter Tryz.func20, Tryz.ntmps20
  go_wp2_with (first | (go_at_call 36; refine hR.mono ?_; rintro e w1 ⟨rfl, hb1⟩; rw [← HW.out] at hb1; have hz := HZ.out w1 hb1; have z0 := cell_blk hz 0; have z1 := cell_blk hz 1; have z2 := cell_blk hz 2; have z3 := cell_blk hz 3; have z4 := cell_blk hz 4; simp at z0 z1 z2 z3 z4; clear hz) | (go_at_call 21; refine (HP.out _ hb1).mono ?_; rintro e w2 ⟨rfl, hb2⟩; have hb3 := hb1.trans (hb2.mono hb1.size); have hE1 := HE.out.below hb3; obtain ⟨ge, _⟩ := hE1.e1; unfold errV at *; have hT := told_e1 w2 b0 b1 b2 b3 b4 b5 hE1; unfold errV at hT) | (go_at_call 32; refine hT.mono ?_; rintro e w3 ⟨rfl, rfl⟩))
  go_ret2
  exact ⟨rfl, HB.out.trans (hb3.mono HB.out.size)⟩
attribute [local go_sem] Oper.semAt_some
set_option maxRecDepth 100000 in
set_option maxHeartbeats 4000000 in
theorem all_full (A0 : Option Addr) (c0 : Nat) (l0 : List Rt) (n : Int) (a1 a2 : ByteArray) (a3 a4 : Int) (w : World) (hr0 : Kd.C kRt w A0 l0.length l0) (hLd : LaidR w) (h : rightRt l0 = true) (h1 : a1.size ≤ maxLen) (h2 : a2.size ≤ maxLen) (s : ByteArray) (hs : printT n a1 a2 a3 a4 = (s, 0)) :
    Calls Tryz.prog 20 #[.slice A0 l0.length c0, .agg #[.int .i64 n, .string a1, .string a2, .int .i64 a3, .int .i64 a4]] w fun e w' => ∃ v1_ : Value, e = .returned (.tuple #[v1_, .int .i64 0]) ∧ Kd.R (Kd.int .i64) tInt w' w.heap.size (fun _ => True) v1_ (allP s.data.toList (pfx l0)) ∧ Below w.heap.size w w' := by
  have hu := Tryz.underlying65
  have hu2 := Tryz.underlying63
  have hu3 := Tryz.underlying37
  have hu4 := Tryz.underlying71
  obtain ⟨wA, hwA⟩ : ∃ wA, wA = (w.alloc (.cells #[.int .i64 n, .string a1, .string a2, .int .i64 a3, .int .i64 a4] 37)).alloc (.cells #[.slice A0 l0.length c0, .string ⟨#[]⟩] 65) := ⟨_, rfl⟩
  have hbA : Below w.heap.size w wA := by rw [hwA]; exact b_alloc (b_alloc (Below.refl _ _) _) _
  obtain ⟨hsA, hz0, hz1⟩ := alloc2w w (.cells #[.int .i64 n, .string a1, .string a2, .int .i64 a3, .int .i64 a4] 37) (.cells #[.slice A0 l0.length c0, .string ⟨#[]⟩] 65)
  rw [← hwA] at hsA hz0 hz1
  have hR := areRight_calls A0 c0 l0 wA (Kd.C_below hr0 hbA)
  rw [h] at hR
  have h20 : l0.length ≤ 20 := by
    unfold rightRt at h
    simp only [Bool.and_eq_true, decide_eq_true_eq] at h
    exact h.1
  obtain ⟨hL, b0, b1, b2, b3, b4, b5, hE⟩ := hLd.below hbA
  have hP := fun W (hb : Below wA.heap.size wA W) => eid_Print.calls n a1 a2 a3 a4 s 0 W (hL.below hb) (by rw [Print_at n a1 a2 a3 a4 h1 h2, hs])
  have hZ : ∀ W, Below wA.heap.size wA W → W.heap[w.heap.size]? = some (.cells #[.int .i64 n, .string a1, .string a2, .int .i64 a3, .int .i64 a4] 37) := fun W hb => (hb.block _ (by omega)).trans hz0
  have hY : ∀ W, Below wA.heap.size wA W → W.heap[w.heap.size + 1]? = some (.cells #[.slice A0 l0.length c0, .string ⟨#[]⟩] 65) := fun W hb => (hb.block _ (by omega)).trans hz1
  have HP := Lib.hid hP
  have HZ := Lib.hid hZ
  have HY := Lib.hid hY
  have HB := Lib.hid hbA
  have HW := Lib.hid hwA
  have HSA := Lib.hid hsA
  have HR0 := Lib.hid hr0
  rw [hwA] at hR
  clear hr0 hLd h hL hE hbA hwA hP hZ hY hz0 hz1 hsA hs
  refine (callsIn_wide (n := 11)).1 (callsIn_of_wp_marks Tryz.func20 rfl trivial (wpIn_wide.2 ?_) rfl)
  simp only [Tryz.ntmps20, List.size_toArray, List.length_cons, List.length_nil, Nat.reduceAdd, Nat.reduceSub, Array.replicate_succ, Array.replicate_zero, List.push_toArray, List.append_toArray, List.nil_append, List.cons_append]
  go_wp2_with (first | (go_at_call 36; refine hR.mono ?_; rintro e w1 ⟨rfl, hb1⟩; rw [← HW.out] at hb1; have hz := HZ.out w1 hb1; have z0 := cell_blk hz 0; have z1 := cell_blk hz 1; have z2 := cell_blk hz 2; have z3 := cell_blk hz 3; have z4 := cell_blk hz 4; simp at z0 z1 z2 z3 z4; clear hz) | (go_at_call 21; refine (HP.out _ hb1).mono ?_; rintro e w2 ⟨rfl, hb2⟩; have hb3 := hb1.trans (hb2.mono hb1.size); have hy := HY.out w2 hb3; have y0 := cell_blk hy 0; have y1 := cell_blk hy 1; have f1 := frozen_blk hy 1; simp at y0 y1; have hy3 := blk_alloc (blk_set hy 1 (.string s)) (.cells #[.slice none 0 0] 66); have x0 : ((w2.setCell ⟨w.heap.size + 1, 1, none⟩ (.string s)).alloc (.cells #[.slice none 0 0] 66)).cell? ⟨w.heap.size + 1, 0, none⟩ = some (.slice A0 l0.length c0) := cell_blk hy3 0; have x1 : ((w2.setCell ⟨w.heap.size + 1, 1, none⟩ (.string s)).alloc (.cells #[.slice none 0 0] 66)).cell? ⟨w.heap.size + 1, 1, none⟩ = some (.string s) := cell_blk hy3 1; have HY2 := Lib.hid hy; have HB3 := Lib.hid hb3; clear hy hy3))
  obtain ⟨w3, hw3⟩ : ∃ w3, w3 = ((w2.setCell ⟨w.heap.size + 1, 1, none⟩ (.string s)).alloc (.cells #[.slice none 0 0] 66)) := ⟨_, rfl⟩
  have hs3 : w3.heap.size = w2.heap.size + 1 := by rw [hw3]; simp [World.setCell]
  have hz3 : w3.heap[w2.heap.size]? = some (.cells #[.slice none 0 0] 66) := by
    rw [hw3]
    have := World.alloc_heap_new (w2.setCell ⟨w.heap.size + 1, 1, none⟩ (.string s)) (.cells #[.slice none 0 0] 66)
    simpa [World.setCell] using this
  have hbw2 : Below w.heap.size w w2 := HB.out.trans (HB3.out.mono HB.out.size)
  have hb3 : Below w.heap.size w w3 := by
    rw [hw3]
    exact (hbw2.setCell (p := ⟨w.heap.size + 1, 1, none⟩) (by show w.heap.size ≤ w.heap.size + 1; omega) _).alloc (by simp [World.setCell]; exact hbw2.size) _
  have hs2 : w.heap.size + 2 ≤ w2.heap.size := by have := HB3.out.size; have := HSA.out; omega
  rw [← hw3]
  rw [← hw3] at x0 x1
  clear hw3
  refine (matches_make A0 l0.length c0 s w3).mono ?_
  rintro e w4' ⟨rfl, hw4⟩
  have hb4 : Below w3.heap.size w3 w4' := by rw [← hw4]; exact b_alloc (Below.refl _ _) _
  have hy4 : w4'.heap[w3.heap.size]? = some (.cells #[.slice A0 l0.length c0, .string s] 65) := by rw [← hw4]; exact World.alloc_heap_new _ _
  have hs4 : w4'.heap.size = w3.heap.size + 1 := by rw [← hw4, World.size_alloc]
  clear hw4
  obtain ⟨w4, rfl⟩ : ∃ w4, w4 = w4' := ⟨_, rfl⟩
  have HZ4 := Lib.hid ((hb4.block _ (Array.getElem?_eq_some_iff.1 hz3).1).trans hz3)
  have HB4 := Lib.hid (hb3.trans (hb4.mono hb3.size))
  have HS3 := Lib.hid hs3
  have HS4 := Lib.hid hs4
  have HS2 := Lib.hid hs2
  have HY4 := Lib.hid hy4
  clear hs3 hz3 hbw2 hb3 hs2 hb4 hy4 hs4 x0 x1 y0 y1 f1 z0 z1 z2 z3 z4 hR HY2 HB3 hb1
  go_wp2_with (fail)
  refine rangeFuncW (gf := 49) (lb := #[.pointer (some ⟨w3.heap.size, 0, none⟩)]) rfl (Go.Proofs.enters_of Tryz.func49 (by kernel_rfl) rfl)
    (matches_iter s A0 c0 l0 w3.heap.size w.heap.size w w4 rfl HR0.out (SameB.below HB4.out) HY4.out HB4.out.size) (fun _ h => h.elim) ?hR (Below.refl _ _) (fun _ => rfl)
    (alI w4.heap.size w2.heap.size w) (fun _ _ _ => False) ?hI ?hIx ?h0 ?hround ?hdone ?hstop
  case hR =>
    have e1 := HS4.out
    have e2 := HB4.out.size
    rintro k (rfl | h)
    · omega
    · omega
  case hI =>
    exact fun pre A B hs hk => alI_keep hs hk (by have := HB4.out.size; omega)
  case hIx => exact fun c s A B hs _ => hs.elim
  case h0 => exact ⟨HB4.out, _, HZ4.out, World.ownsRow_nil _ _ _ _⟩
  case hstop => exact fun _ _ _ _ _ _ h _ => h.elim
  case hround =>
    intro l pre x W K hlw hloop hi hpre hK
    have HK := Lib.hid hK
    have HI := Lib.hid hi
    have hpl : pre.length + 1 ≤ 21 := by
      have h1 := hpre.length_le
      have h2 := hitsF_len s.data.toList (pfx l0) 0
      simp only [List.length_append, List.length_cons, List.length_nil, List.length_map] at h1 h2
      omega
    have HPL := Lib.hid hpl
    obtain ⟨x1, x2⟩ := x
    clear hK hi hpre hpl
    gi_wp2
    have hszW : w4.heap.size ≤ W.heap.size := by
      obtain ⟨r, hr⟩ := hloop
      have := (Array.getElem?_eq_some_iff.1 hr).1
      omega
    have HSZW := Lib.hid hszW
    refine HK.out _ _ ((KeepsOthers.alloc W _).from _) (fun k hk => Below.heap_alloc W _ k ?_) ?_
    · have e1 := HS4.out
      have e2 := HB4.out.size
      rcases hk with rfl | h
      · omega
      · omega
    intro W1 hkx hl1 hsz1
    have hbox := hkx.blk (World.alloc_heap_new W (.cells #[.int .i64 x1, .int .i64 x2] tMt)) id
    obtain ⟨hb1, v1, hc1, ho1⟩ := alI_keep (alI_alloc HI.out (by have := HB4.out.size; omega) (.cells #[.int .i64 x1, .int .i64 x2] tMt)) hkx (by have := HB4.out.size; omega)
    obtain ⟨A1, m1, c1, rfl, hm1⟩ := row_slice ho1
    have k0 := cell_blk hc1 0
    have f0 := frozen_blk hc1 0
    have j0 := cell_blk hbox 0
    have j1 := cell_blk hbox 1
    simp at k0 j0 j1
    have HB1' := Lib.hid hb1
    have HC1 := Lib.hid hc1
    have HO1 := Lib.hid ho1
    have HSZ := Lib.hid hsz1
    obtain ⟨i0, hi0, hii⟩ := Option.map_eq_some_iff.1 infoMt
    simp only [Prod.mk.injEq] at hii
    obtain ⟨hi1, hi2, hi3⟩ := hii
    clear hb1 hc1 ho1 hkx hl1 hsz1 hbox hszW
    gi_wp2_with (gi_at_builtin; refine wpListIn_append_own_at _ rfl _ _ 66 rfl w4.heap.size tMt i0 (.agg #[.int .i64 0, .int .i64 0]) 2 16 Tryz.underlying66 hi0 hi1 hi2 hi3 rfl (by decide) (.slice A1 m1 c1) pre.length _ rfl (HO1.out.alloc _) ⟨W1.heap.size, 0, none⟩ 1 1 [.int .i64 x1, .int .i64 x2] rfl rfl (cells_two_new _ _ _ _) (fun u hu => by simp at hu; rcases hu with rfl | rfl <;> rfl) (by have := HPL.out; unfold maxLen; omega) (by have := HPL.out; omega) (by have := HSZ.out; simp; omega) ?_; intro v3 w9 hown3 hgrow3 _ hat3; clear hat3; obtain ⟨A3, m3, c3, rfl, hm3⟩ := row_slice hown3; have hg13 := World.grownBy.trans (World.grownBy_alloc W1 (.cells #[.int .i64 x1, .int .i64 x2] tMt) _) hgrow3; have hbase := fun k hk => own_base (HO1.out.alloc (.cells #[.int .i64 x1, .int .i64 x2] tMt)) k hk; have hk3 := (hg13.block _ (Array.getElem?_eq_some_iff.1 HC1.out).1 (fun e => by have := hbase _ e.symm; have := HS4.out; have := HS3.out; omega)).trans HC1.out; have d0 := cell_blk hk3 0; have g0 := frozen_blk hk3 0; simp at d0)
    have hrow3 : ∀ k, (Value.slice A3 m3 c3).ownBlock = some k → w4.heap.size ≤ k := fun k hk => own_base hown3 k hk
    have e1 := HS4.out
    have e2 := HB4.out.size
    have e3 := HS3.out
    have e4 := HSZ.out
    have e5 := HS2.out
    refine ⟨?_, ?_, ?_, .slice A3 m3 c3, blk_set hk3 0 _, ?_⟩
    · refine KeepsFrom.trans ((KeepsOthers.of_grownBy hg13 (fun j o e ho => ?_)).from _) ((KeepsOthers.setCell _ _ _).from _)
      obtain ⟨cs, hcs⟩ := own_typed HO1.out j e
      rw [hcs] at ho
      cases ho
      rfl
    · intro k hk
      have hk2 : k < w4.heap.size ∧ k ≠ w2.heap.size := by
        rcases hk with rfl | hk
        · omega
        · omega
      have hk4 : k < W1.heap.size := Nat.lt_of_lt_of_le hk2.1 e4
      exact (Below.heap_setCell _ _ _ k hk2.2).trans (hg13.block k hk4 (fun e => by have := own_base HO1.out k e.symm; omega))
    · exact Below.setCell (HB1'.out.grown hg13 HB1'.out.size (fun k e => by have := own_base HO1.out k e; omega)) (by show w.heap.size ≤ w2.heap.size; omega) _
    · refine own_move (w := w9) (by
        have h9 := hown3
        rw [show flatM pre ++ [.int .i64 x1, .int .i64 x2] = flatM (pre ++ [(x1, x2)]) by simp [flatM, encL]] at h9
        rw [List.length_append]
        exact h9) (fun k hk => Below.heap_setCell _ _ _ k (fun e => ?_))
      have := hrow3 k hk
      have e' : k = w2.heap.size := e
      omega
  case hdone =>
    intro D W hD hi hd
    obtain ⟨hb, v, hc, ho⟩ := hi
    have k0 := cell_blk hc 0
    simp at k0
    have hszW : w4.heap.size ≤ W.heap.size := by
      have := (Array.getElem?_eq_some_iff.1 hd).1
      omega
    have hl := hitsF_len s.data.toList (pfx l0) 0
    have hl20 : (hitsF s.data.toList 0 (pfx l0)).length ≤ 20 := by rw [List.length_map] at hl; omega
    have hC := byLength_calls v _ w4.heap.size W hl20 ho hszW
    have HB5 := Lib.hid hb
    have HO5 := Lib.hid ho
    have HDD := Lib.hid hd
    have HSZ := Lib.hid hszW
    clear hb ho hd hc hl hszW hl20
    go_wp2_with (go_at_call 38; refine hC.mono ?_; rintro e w5 ⟨v5, rfl, hR5, hb5, hk5⟩; have HR5 := Lib.hid hR5; have HBB5 := Lib.hid hb5; have HK5 := Lib.hid hk5; clear hR5 hb5 hk5)
    have hd5 : w5.heap[D]? = some (.deferred (some [])) := HK5.out.block _ _ HDD.out (fun e => by
      obtain ⟨cs, hcs⟩ := own_typed HO5.out D e
      rw [HDD.out] at hcs
      cases hcs)
    show LeavesInM Fence.wide 11 Tryz.prog Tryz.f20 _ _ _ .returning _
    refine ⟨by simp, .inl ⟨_, _, rfl, run_takeDeferred hd5, ?_⟩⟩
    refine ⟨_, results_tmp2 rfl _ _ _, v5, rfl, ?_, ?_⟩
    · have e2 := HB4.out.size
      refine Kd.R_lower (Kd.R_move (Kd.R_tight rfl HR5.out) (fun k hk => World.putObj_heap_other (fun e => ?_))) e2 |> fun h => Kd.R_mono h (fun _ _ => trivial)
      obtain ⟨inner, ho⟩ := Kd.R_own HR5.out
      obtain ⟨cs, hcs⟩ := own_typed ho k hk.symm
      rw [e, hd5] at hcs
      cases hcs
    · have e2 := HB4.out.size
      exact (HB5.out.trans (HBB5.out.mono e2)).trans ⟨rfl, rfl, rfl, by simp, fun k hk => World.putObj_heap_other (by omega)⟩
theorem route_All.calls (A0 : Option Addr) (c0 : Nat) (l0 : List Rt) (a1_0 : Int) (a1_1 a1_2 : ByteArray) (a1_3 a1_4 : Int) (r1 : List Int) (r2 : Int) (w : World) (hr0 : Kd.C kRt w A0 l0.length l0) (_hc0 : l0.length ≤ c0) (hLd : LaidR w) (h : route_All.f l0 a1_0 a1_1 a1_2 a1_3 a1_4 = some (r1, r2)) :
    Calls Tryz.prog 20 #[.slice A0 l0.length c0, .agg #[.int .i64 a1_0, .string a1_1, .string a1_2, .int .i64 a1_3, .int .i64 a1_4]] w fun e w' => ∃ v1_ : Value, e = .returned (.tuple #[v1_, .int .i64 r2]) ∧ Kd.R (Kd.int .i64) tInt w' w.heap.size (fun _ => True) v1_ r1 ∧ Below w.heap.size w w' := by
  unfold route_All.f at h
  split at h
  case isFalse => cases h
  rename_i hc
  obtain ⟨h1, h2⟩ := hc
  replace h := Option.some.inj h
  unfold allT at h
  by_cases hr : rightRt l0 = true
  · rw [if_pos hr] at h
    by_cases hn : rightS a1_0 a1_1 a1_2 a1_3 a1_4 = true
    · rw [if_pos hn] at h
      simp only [Prod.mk.injEq] at h
      obtain ⟨rfl, rfl⟩ := h
      exact all_full A0 c0 l0 a1_0 a1_1 a1_2 a1_3 a1_4 w hr0 hLd hr h1 h2 _ (by unfold printT; rw [if_pos hn])
    · rw [if_neg hn] at h
      simp only [Prod.mk.injEq] at h
      obtain ⟨rfl, rfl⟩ := h
      exact (all_none A0 c0 l0 a1_0 a1_1 a1_2 a1_3 a1_4 w hr0 hLd hr h1 h2 (Bool.eq_false_iff.2 hn)).mono fun e w' ⟨he, hb⟩ => ⟨_, he, Kd.R_nil _ _ _ _ _, hb⟩
  · rw [if_neg hr] at h
    simp only [Prod.mk.injEq] at h
    obtain ⟨rfl, rfl⟩ := h
    exact (all_bad A0 c0 l0 a1_0 a1_1 a1_2 a1_3 a1_4 w hr0 hLd (Bool.eq_false_iff.2 hr)).mono fun e w' ⟨he, hb⟩ => ⟨_, he, Kd.R_nil _ _ _ _ _, hb⟩
end Go.Proofs.YtaknknfcikdjiaaGreatDoor.Hand
end
section
namespace Go.Proofs.YtaknknfcikdjiaaGreatDoor.Hand
open Go.RowKit Go.Proofs.YtaknknfcikdjiaaGreatDoorW Go.Proofs.YtaknknfcikdjiaaGreatDoorW.PrintWords Go.Proofs.YtaknknfcikdjiaaGreatDoor.RK Go.Proofs.YtaknknfcikdjiaaGreatDoor.RC
def PredSt (g : Nat) (lb : Array Value) (p : ByteArray → Bool) (w : World) : Prop := ∀ (W : World) (x : ByteArray), Below w.heap.size w W → Calls Tryz.prog g (#[.string x] ++ lb) W fun e w' => e = .returned (.bool (p x)) ∧ Drawn0 W w'
theorem drawn_below {W w' : World} (h : Drawn0 W w') : Below W.heap.size W w' := by
  obtain ⟨n, rfl⟩ := h.out
  exact below_drewN W n
theorem drawn_trans {W w' w2 : World} (h : Drawn0 W w') (h2 : Drawn0 w' w2) : Drawn0 W w2 := by
  obtain ⟨n, rfl⟩ := h.out
  obtain ⟨m, rfl⟩ := h2.out
  exact ⟨⟨n + m, World.drewN_drewN _ _ _⟩⟩
theorem drawn_refl (W : World) : Drawn0 W W := ⟨⟨0, rfl⟩⟩
set_option maxHeartbeats 2000000 in
theorem index_st (g : Nat) (lb : Array Value) (p : ByteArray → Bool) (eg : ∀ args w, (callFunc g args).run Tryz.prog w = .ok (.enter g args) w) (A : Option Addr) (c : Nat) (l : List ByteArray) (w : World)
    (hp : PredSt g lb p w) (hr : Kd.C Kd.string w A l.length l) (hbig : l.length ≤ 9223372036854775807) :
    Calls Tryz.prog 42 #[.slice A l.length c, .func (.func g) #[] lb] w fun e w' => (∃ i : Int, e = .returned (.int .i64 i) ∧ decide (0 ≤ i) = l.any p) ∧ Drawn0 w w' := by
  have HR := Lib.hid hr
  have HP := Lib.hid hp
  clear hr hp
  go_enter Tryz.func42, Tryz.ntmps42
  go_wp2
  go_loopg [5, 8] l.length (fun gg _ s8 wr => ∃ kk : Nat, kk ≤ l.length ∧ l.length - kk ≤ gg ∧ s8 = .int .i64 kk ∧ Hid (Drawn0 w wr) ∧ Hid ((l.take kk).any p = false))
  case atStart => exact ⟨0, Nat.zero_le _, by omega, rfl, Lib.hid (drawn_refl w), Lib.hid (by simp)⟩
  case round =>
    obtain ⟨kk, hkk, hg, rfl, BW, AA⟩ := hrel
    by_cases hlt : kk < l.length
    · have hltz : (kk : Int) < (l.length : Int) := by omega
      obtain ⟨_, _, hrd⟩ := Kd.reads_of_C (d := (⟨#[]⟩ : ByteArray)) HR.out
      obtain ⟨ad, hA, hcell⟩ := hrd (by omega)
      subst hA
      have x0 := ((drawn_below BW.out).cell (World.block_lt_of_cell? w _ (hcell kk hlt))).trans (hcell kk hlt)
      have htk : (l.take (kk + 1)).any p = ((l.take kk).any p || p (l.getD kk ⟨#[]⟩)) := by
        rw [List.getD_eq_getElem?_getD, List.getElem?_eq_getElem hlt, List.take_succ_eq_append_getElem hlt, List.any_append]
        simp only [List.any_cons, List.any_nil, Bool.or_false, Option.getD_some]
      have hcall := HP.out wr (l.getD kk ⟨#[]⟩) (drawn_below BW.out)
      generalize l.getD kk ⟨#[]⟩ = y at *
      have HT := Lib.hid htk
      clear htk hcell hrd
      cases hq : p y with
      | true =>
        rw [hq] at hcall
        go_wp2_with (go_at_fn g; refine hcall.mono ?_; rintro e w' ⟨rfl, hb'⟩)
        go_ret
        refine ⟨⟨_, rfl, ?_⟩, drawn_trans BW.out hb'⟩
        rw [show l.any p = true from ?_]
        · simp
        · have h1 : (l.take (kk + 1)).any p = true := by rw [HT.out, hq]; simp
          rw [← List.take_append_drop (kk + 1) l, List.any_append, h1]
          rfl
      | false =>
        rw [hq] at hcall
        go_wp2_with (go_at_fn g; refine hcall.mono ?_; rintro e w' ⟨rfl, hb'⟩)
        go_roundg (l.length - (kk + 1))
        case measure => omega
        case rel => exact ⟨kk + 1, by omega, by omega, by go_num, Lib.hid (drawn_trans BW.out hb'), Lib.hid (by rw [HT.out, hq, AA.out]; rfl)⟩
    · have hltz : ¬ (kk : Int) < (l.length : Int) := by omega
      have hk : kk = l.length := by omega
      subst hk
      go_wp2
      go_ret
      refine ⟨⟨_, rfl, ?_⟩, BW.out⟩
      have := AA.out
      rw [List.take_length] at this
      rw [this]
      rfl
theorem contains_st (g : Nat) (lb : Array Value) (p : ByteArray → Bool) (eg : ∀ args w, (callFunc g args).run Tryz.prog w = .ok (.enter g args) w) (A : Option Addr) (c : Nat) (l : List ByteArray) (w : World)
    (hp : PredSt g lb p w) (hr : Kd.C Kd.string w A l.length l) (hbig : l.length ≤ 9223372036854775807) :
    Calls Tryz.prog 29 #[.slice A l.length c, .func (.func g) #[] lb] w fun e w' => e = .returned (.bool (l.any p)) ∧ Drawn0 w w' := by
  have hI := index_st g lb p eg A c l w hp hr hbig
  clear hp hr
  go_enter Tryz.func29, Tryz.ntmps29
  go_wp2_with (go_at_call 42; refine hI.mono ?_; rintro e w' ⟨⟨i, rfl, hi⟩, hb'⟩)
  all_goals (go_ret; refine ⟨?_, hb'⟩; rw [← hi]; simp_all)
def otherSt (x : ByteArray) : Bool := x.toList == [] || decide (60 < x.size)
theorem otherSt_calls (w : World) : PredSt 28 #[] otherSt w := fun W x _ => by
  have h := route_RightPolicy_1.calls x (otherSt x) W (by
    unfold route_RightPolicy_1.f otherSt
    by_cases h : x.toList = []
    · rw [if_pos h, h]; rfl
    · rw [if_neg h]
      have e : (x.toList == []) = false := beq_eq_false_iff_ne.2 h
      rw [e, Bool.false_or]
      congr 1
      exact decide_eq_decide.2 (by omega))
  exact h
theorem begins_calls (s : ByteArray) (b : Nat) (w : World) (hb : w.heap[b]? = some (.cells #[.string s] 9)) : PredSt 30 #[.pointer (some ⟨b, 0, none⟩)] (fun t => t.data.toList.isPrefixOf s.data.toList) w := fun W x hW => by
  have k1 := (hW.block _ (Array.getElem?_eq_some_iff.1 hb).1).trans hb
  have c1 := cell_blk k1 0
  simp at c1
  have hpf := Tryz.strings_HasPrefix s x W
  unfold Lib.hasPrefix at hpf
  simp only
  generalize x.data.toList.isPrefixOf s.data.toList = r at *
  go_enter Tryz.func30, Tryz.ntmps30
  go_wp2_with (go_at_call 31; refine hpf.mono ?_; rintro e w' ⟨rfl, rfl⟩)
  go_ret
  exact ⟨rfl, drawn_refl _⟩
def rightPol (m1 m2 : Int) (deny : List ByteArray) : Bool := decide (m1 ≥ 0) && (decide (m2 ≥ 0) && (decide (deny.length ≤ 20) && !deny.any otherSt))
set_option maxRecDepth 100000 in
theorem route_RightPolicy.calls0 (m1 m2 : Int) (A : Option Addr) (c : Nat) (l : List ByteArray) (cu : Bool) (w : World) (hr : Kd.C Kd.string w A l.length l) :
    Calls Tryz.prog 13 #[.agg #[.int .i64 m1, .int .i64 m2, .slice A l.length c, .bool cu]] w fun e w' => e = .returned (.bool (rightPol m1 m2 l)) ∧ Below w.heap.size w w' := by
  have hu := Tryz.underlying24
  obtain ⟨w1, hw1⟩ : ∃ w1, w1 = w.alloc (.cells #[.int .i64 m1, .int .i64 m2, .slice A l.length c, .bool cu] 24) := ⟨_, rfl⟩
  have hB1 : Below w.heap.size w w1 := by rw [hw1]; exact b_alloc (Below.refl _ _) _
  have hC := contains_st 28 #[] otherSt (Go.Proofs.enters_of Tryz.func28 (by kernel_rfl) rfl) A c l w1 (otherSt_calls w1) (Kd.C_below hr hB1) (Nat.le_trans hr.2.1 (by decide))
  have HB := Lib.hid hB1
  have HW := Lib.hid hw1
  clear hr hB1
  rw [hw1] at hC
  clear hw1
  unfold rightPol
  by_cases h1 : m1 ≥ 0
  case neg =>
    rw [decide_eq_false h1, Bool.false_and]
    go_enter Tryz.func13, Tryz.ntmps13
    go_wp2
    go_ret
    exact ⟨rfl, by rw [← HW.out]; exact HB.out⟩
  by_cases h2 : m2 ≥ 0
  case neg =>
    rw [decide_eq_true h1, decide_eq_false h2, Bool.false_and, Bool.true_and]
    go_enter Tryz.func13, Tryz.ntmps13
    go_wp2
    go_ret
    exact ⟨rfl, by rw [← HW.out]; exact HB.out⟩
  by_cases h3 : l.length ≤ 20
  case neg =>
    have hz : ¬ (l.length : Int) ≤ 20 := by omega
    rw [decide_eq_true h1, decide_eq_true h2, decide_eq_false h3, Bool.false_and, Bool.true_and, Bool.true_and]
    go_enter Tryz.func13, Tryz.ntmps13
    go_wp2
    go_ret
    exact ⟨rfl, by rw [← HW.out]; exact HB.out⟩
  have hz : (l.length : Int) ≤ 20 := by omega
  rw [decide_eq_true h1, decide_eq_true h2, decide_eq_true h3, Bool.true_and, Bool.true_and, Bool.true_and]
  generalize l.any otherSt = r at *
  go_enter Tryz.func13, Tryz.ntmps13
  go_wp2_with (go_at_call 29; refine hC.mono ?_; rintro e w' ⟨rfl, hd⟩)
  go_ret
  exact ⟨rfl, by rw [← HW.out] at hd; exact HB.out.trans ((drawn_below hd).mono HB.out.size)⟩
def firstE (rs : List (Bool × Addr)) : Value := match rs.find? (·.1) with | some r => errV r.2 | none => .nilIface
set_option maxRecDepth 100000 in
set_option maxHeartbeats 2000000 in
theorem first_calls (rs : List (Bool × Addr)) (ad : Addr) (c : Nat) (w : World) (hbig : rs.length ≤ 1000)
    (hrd : ∀ j, j < rs.length → w.cell? (ad.add (j * 2)) = some (.bool (rs.getD j (false, ad)).1) ∧ w.cell? ⟨(ad.add (j * 2)).block, (ad.add (j * 2)).off + 1, none⟩ = some (errV (rs.getD j (false, ad)).2)) :
    Calls Tryz.prog 33 #[.slice (some ad) rs.length c] w fun e w' => e = .returned (firstE rs) ∧ Below w.heap.size w w' := by
  have hu := Tryz.underlying61
  have HR := Lib.hid hrd
  clear hrd
  go_enter Tryz.func33, Tryz.ntmps33
  go_wp2
  go_loopg [4, 7] rs.length (fun gg _ s7 wr => ∃ kk : Nat, kk ≤ rs.length ∧ rs.length - kk ≤ gg ∧ s7 = .int .i64 kk ∧ Hid (Below w.heap.size w wr) ∧ Hid (rs.find? (·.1) = (rs.drop kk).find? (·.1)))
  case atStart => exact ⟨0, Nat.zero_le _, by omega, rfl, Lib.hid (Below.refl _ w), Lib.hid rfl⟩
  case round =>
    obtain ⟨kk, hkk, hg, rfl, BW, AA⟩ := hrel
    by_cases hlt : kk < rs.length
    · have hltz : (kk : Int) < (rs.length : Int) := by omega
      obtain ⟨x0, x1⟩ := HR.out kk hlt
      replace x0 := (BW.out.cell (World.block_lt_of_cell? w _ x0)).trans x0
      replace x1 := (BW.out.cell (World.block_lt_of_cell? w _ x1)).trans x1
      have hdr : rs.drop kk = rs.getD kk (false, ad) :: rs.drop (kk + 1) := by
        rw [List.drop_eq_getElem_cons hlt, List.getD_eq_getElem?_getD, List.getElem?_eq_getElem hlt]
        rfl
      have ha := AA.out
      rw [hdr, List.find?_cons] at ha
      generalize rs.getD kk (false, ad) = y at *
      obtain ⟨y0, y1⟩ := y
      have HA := Lib.hid ha
      clear ha AA hdr
      unfold errV at x1
      cases y0 with
      | true =>
        go_wp2
        go_ret
        exact ⟨by unfold firstE; rw [HA.out]; rfl, BW.out.alloc BW.out.size _⟩
      | false =>
        go_wp2
        go_roundg (rs.length - (kk + 1))
        case measure => omega
        case rel => exact ⟨kk + 1, by omega, by omega, by go_num, Lib.hid (BW.out.alloc BW.out.size _), Lib.hid HA.out⟩
    · have hltz : ¬ (kk : Int) < (rs.length : Int) := by omega
      have hk : kk = rs.length := by omega
      subst hk
      have ha := AA.out
      rw [List.drop_length] at ha
      have HA := Lib.hid ha
      clear ha AA
      go_wp2
      go_ret
      exact ⟨by unfold firstE; rw [HA.out]; rfl, BW.out⟩
end Go.Proofs.YtaknknfcikdjiaaGreatDoor.Hand
end
section
namespace Go.Proofs.YtaknknfcikdjiaaGreatDoor.Hand
open Go.RowKit Go.Proofs.YtaknknfcikdjiaaGreatDoorW Go.Proofs.YtaknknfcikdjiaaGreatDoorW.PrintWords Go.Proofs.YtaknknfcikdjiaaGreatDoorW.PrintLast Go.Proofs.YtaknknfcikdjiaaGreatDoor.RK Go.Proofs.YtaknknfcikdjiaaGreatDoor.RC
abbrev Nm := S37
abbrev kNm : Kd Nm := k37
def Nm.right (x : Nm) : Bool := rightS x.f0 x.f1 x.f2 x.f3 x.f4
def okB (l : List Nm) : Bool := l.all fun x => decide (x.f1.size ≤ maxLen) && decide (x.f2.size ≤ maxLen)
def Nm.text (x : Nm) : ByteArray := (printT x.f0 x.f1 x.f2 x.f3 x.f4).1
def begun (deny : List ByteArray) (x : Nm) : Bool := deny.any fun t => t.data.toList.isPrefixOf x.text.data.toList
def passT (m1 m2 : Int) (deny : List ByteArray) (cu : Bool) (size life : Int) (custody : Bool) (names : List Nm) : Int :=
  if rightPol m1 m2 deny = false then 160 else if names.all Nm.right = false then 60 else if names.any (begun deny) = true then 161 else if size > m1 then 162 else if life > m2 then 163 else if (custody && !cu) = true then 164 else 0
def route_Pass.f (m1 m2 : Int) (deny : List ByteArray) (cu : Bool) (size life : Int) (custody : Bool) (names : List Nm) : Option Int := if okB names = true then some (passT m1 m2 deny cu size life custody names) else none
theorem first6 (B0 B1 B2 B3 B4 B5 : Bool) (a0 a1 a2 a3 a4 a5 : Addr) (W : World) :
    Calls Tryz.prog 33 #[.slice (some ⟨W.heap.size, 0, none⟩) 6 6] (W.alloc (.cells #[.bool B0, .iface 163 (.pointer (some a0)), .bool B1, .iface 163 (.pointer (some a1)), .bool B2, .iface 163 (.pointer (some a2)), .bool B3, .iface 163 (.pointer (some a3)), .bool B4, .iface 163 (.pointer (some a4)), .bool B5, .iface 163 (.pointer (some a5))] 61)) fun e w' => e = .returned (firstE [(B0, a0), (B1, a1), (B2, a2), (B3, a3), (B4, a4), (B5, a5)]) ∧ Below W.heap.size W w' := by
  have hn := World.alloc_heap_new W (.cells #[.bool B0, .iface 163 (.pointer (some a0)), .bool B1, .iface 163 (.pointer (some a1)), .bool B2, .iface 163 (.pointer (some a2)), .bool B3, .iface 163 (.pointer (some a3)), .bool B4, .iface 163 (.pointer (some a4)), .bool B5, .iface 163 (.pointer (some a5))] 61)
  refine (first_calls [(B0, a0), (B1, a1), (B2, a2), (B3, a3), (B4, a4), (B5, a5)] ⟨W.heap.size, 0, none⟩ 6 _ (by simp) (fun j hj => ?_)).mono ?_
  · rw [add_head]
    match j, hj with
    | 0, _ => exact ⟨cell_blk hn _, cell_blk hn _⟩
    | 1, _ => exact ⟨cell_blk hn _, cell_blk hn _⟩
    | 2, _ => exact ⟨cell_blk hn _, cell_blk hn _⟩
    | 3, _ => exact ⟨cell_blk hn _, cell_blk hn _⟩
    | 4, _ => exact ⟨cell_blk hn _, cell_blk hn _⟩
    | 5, _ => exact ⟨cell_blk hn _, cell_blk hn _⟩
    | n + 6, h => exact absurd h (by simp)
  · rintro e w' ⟨he, hb⟩
    exact ⟨he, (b_alloc (Below.refl _ W) _).trans (hb.mono (by simp))⟩
def codeE (B0 B1 B2 B3 B4 B5 : Bool) : Int := if B0 = true then 160 else if B1 = true then 60 else if B2 = true then 161 else if B3 = true then 162 else if B4 = true then 163 else if B5 = true then 164 else 0
theorem told_code (B0 B1 B2 B3 B4 B5 : Bool) (a0 a1 a2 a3 a4 a5 : Addr) (W : World) (h : LaidAt W a0 a1 a2 a3 a4 a5) :
    Calls Tryz.prog 32 #[firstE [(B0, a0), (B1, a1), (B2, a2), (B3, a3), (B4, a4), (B5, a5)]] W fun e w' => e = .returned (.int .i64 (codeE B0 B1 B2 B3 B4 B5)) ∧ w' = W := by
  cases B0 with
  | true => exact told_e0 W a0 a1 a2 a3 a4 a5 h
  | false =>
  cases B1 with
  | true => exact told_e1 W a0 a1 a2 a3 a4 a5 h
  | false =>
  cases B2 with
  | true => exact told_e2 W a0 a1 a2 a3 a4 a5 h
  | false =>
  cases B3 with
  | true => exact told_e3 W a0 a1 a2 a3 a4 a5 h
  | false =>
  cases B4 with
  | true => exact told_e4 W a0 a1 a2 a3 a4 a5 h
  | false =>
  cases B5 with
  | true => exact told_e5 W a0 a1 a2 a3 a4 a5 h
  | false => exact told_nil W a0 a1 a2 a3 a4 a5 h
def passB : List Nat := [0, 1, 3, 0, 15, 0, 32, 0, 224, 0, 0, 1536, 0, 0, 8192, 28672, 0, 126976, 0, 0, 524288, 1835008, 0, 8126464, 0, 16777219, 50331651, 117440515, 251658243, 520093699, 0, 2130706435, 4294967295, 8589934591, 17179869183, 34359738367]
theorem pass_tab : rtab .any (opsOf Tryz.f15 10) = rtab .any (opsOf Tryz.f15 10) := rfl
theorem pass_bits : waitsOk (rtab .any (opsOf Tryz.f15 10)).2 passB = true := by kernel_rfl
theorem code_pass (m1 m2 : Int) (deny : List ByteArray) (cu : Bool) (size life : Int) (custody : Bool) (names : List Nm) :
    codeE (!rightPol m1 m2 deny) (!names.all Nm.right) (names.any (begun deny)) (decide (m1 < size)) (decide (m2 < life)) (custody && !cu) = passT m1 m2 deny cu size life custody names := by
  unfold codeE passT
  cases rightPol m1 m2 deny <;> cases names.all Nm.right <;> simp
set_option maxRecDepth 100000 in
set_option maxHeartbeats 4000000 in
theorem pass_walk (m1 m2 : Int) (A0 : Option Addr) (c0 : Nat) (deny : List ByteArray) (cu : Bool) (size life : Int) (custody : Bool) (A4 : Option Addr) (c4 : Nat) (names : List Nm) (w : World) (hr0 : Kd.C Kd.string w A0 deny.length deny) (hr4 : Kd.C kNm w A4 names.length names) (hLd : LaidR w) (hok : okB names = true) :
    Calls Tryz.prog 15 #[.agg #[.int .i64 m1, .int .i64 m2, .slice A0 deny.length c0, .bool cu], .int .i64 size, .int .i64 life, .bool custody, .slice A4 names.length c4] w fun e w' => e = .returned (.int .i64 (passT m1 m2 deny cu size life custody names)) ∧ Below w.heap.size w w' := by
  have hu := Tryz.underlying24
  have hu2 := Tryz.underlying61
  have hu3 := Tryz.underlying37
  obtain ⟨w1, hw1⟩ : ∃ w1, w1 = w.alloc (.cells #[.int .i64 m1, .int .i64 m2, .slice A0 deny.length c0, .bool cu] 24) := ⟨_, rfl⟩
  have hB1 : Below w.heap.size w w1 := by rw [hw1]; exact b_alloc (Below.refl _ _) _
  have hs1 : w1.heap.size = w.heap.size + 1 := by rw [hw1]; simp
  have hz : w1.heap[w.heap.size]? = some (.cells #[.int .i64 m1, .int .i64 m2, .slice A0 deny.length c0, .bool cu] 24) := by rw [hw1]; exact World.alloc_heap_new _ _
  have eg := Go.Proofs.enters_of Tryz.func30 (by kernel_rfl) rfl
  have hL := hLd.below hB1
  have hD1 := Kd.C_below hr0 hB1
  have hN1 := Kd.C_below hr4 hB1
  have hCN : ∀ (W : World) (s : ByteArray) (b : Nat), Below w1.heap.size w1 W → W.heap[b]? = some (.cells #[.string s] 9) → Calls Tryz.prog 29 #[.slice A0 deny.length c0, .func (.func 30) #[] #[.pointer (some ⟨b, 0, none⟩)]] W fun e w' => e = .returned (.bool (deny.any fun t => t.data.toList.isPrefixOf s.data.toList)) ∧ Drawn0 W w' :=
    fun W s b hb hc => contains_st 30 _ _ eg A0 c0 deny W (begins_calls s b W hc) (Kd.C_below hD1 hb) (Nat.le_trans hr0.2.1 (by decide))
  have hP : ∀ (W : World) (x : Nm), Below w1.heap.size w1 W → x ∈ names → ∃ s r, Calls Tryz.prog 21 #[.agg #[.int .i64 x.f0, .string x.f1, .string x.f2, .int .i64 x.f3, .int .i64 x.f4]] W (fun e w' => e = .returned (.tuple #[.string s, .int .i64 r]) ∧ Below W.heap.size W w') ∧ (r == 0) = x.right ∧ s = x.text := fun W x hb hx => by
    have ho := (List.all_eq_true.1 hok) x hx
    simp only [Bool.and_eq_true, decide_eq_true_eq] at ho
    refine ⟨(printT x.f0 x.f1 x.f2 x.f3 x.f4).1, (printT x.f0 x.f1 x.f2 x.f3 x.f4).2, eid_Print.calls x.f0 x.f1 x.f2 x.f3 x.f4 _ _ W (hL.laid.below hb) (by rw [Print_at _ _ _ _ _ ho.1 ho.2]), ?_, rfl⟩
    unfold printT Nm.right
    split
    · rename_i h; rw [h]; rfl
    · rename_i h; rw [Bool.eq_false_iff.2 h]; rfl
  have hY : ∀ W, Below w1.heap.size w1 W → W.heap[w.heap.size]? = some (.cells #[.int .i64 m1, .int .i64 m2, .slice A0 deny.length c0, .bool cu] 24) := fun W hb => (hb.block _ (by omega)).trans hz
  have HL := Lib.hid hL
  have HB := Lib.hid hB1
  have HD := Lib.hid hD1
  have HN := Lib.hid hN1
  have HCN := Lib.hid hCN
  have HP := Lib.hid hP
  have HY := Lib.hid hY
  have hbig := hr4.2.1
  clear hr0 hr4 hLd hok hB1 hL hD1 hN1 hCN hP hY hz eg
  go_enter Tryz.func15, Tryz.ntmps15
  go_wp2
  rw [← hw1]
  clear hw1
  go_loopg [11, 12, 14, 15, 16, 17, 20] names.length (fun gg s11 s12 _ _ _ _ s20 wr => ∃ kk : Nat, ∃ b1 b2 : Bool, kk ≤ names.length ∧ names.length - kk ≤ gg ∧ s11 = .bool b1 ∧ s12 = .bool b2 ∧ s20 = .int .i64 kk ∧ Hid (Below w1.heap.size w1 wr) ∧ Hid ((names.take kk).all Nm.right = b1) ∧ Hid ((names.take kk).any (begun deny) = b2))
  case atStart => exact ⟨0, true, false, Nat.zero_le _, by omega, rfl, rfl, rfl, Lib.hid (Below.refl _ _), Lib.hid rfl, Lib.hid rfl⟩
  case round =>
    obtain ⟨kk, b1, b2, hkk, hg, rfl, rfl, rfl, BW, AR, AB⟩ := hrel
    by_cases hlt : kk < names.length
    · have hltz : (kk : Int) < (names.length : Int) := by omega
      obtain ⟨ad, hA, x0, x1, x2, x3, x4⟩ := at_T37 HN.out (kk : Int) (by omega) hltz
      subst hA
      have hmem : rd_T37 names (kk : Int) ∈ names := by
        unfold rd_T37
        rw [List.getD_eq_getElem?_getD, Int.toNat_natCast, List.getElem?_eq_getElem hlt]
        exact List.getElem_mem _
      have htk : names.take (kk + 1) = names.take kk ++ [rd_T37 names (kk : Int)] := by
        unfold rd_T37
        rw [List.getD_eq_getElem?_getD, Int.toNat_natCast, List.getElem?_eq_getElem hlt, List.take_succ_eq_append_getElem hlt]
        rfl
      simp only [Int.toNat_natCast] at x0 x1 x2 x3 x4
      replace x0 := (BW.out.cell (World.block_lt_of_cell? w1 _ x0)).trans x0
      replace x1 := (BW.out.cell (World.block_lt_of_cell? w1 _ x1)).trans x1
      replace x2 := (BW.out.cell (World.block_lt_of_cell? w1 _ x2)).trans x2
      replace x3 := (BW.out.cell (World.block_lt_of_cell? w1 _ x3)).trans x3
      replace x4 := (BW.out.cell (World.block_lt_of_cell? w1 _ x4)).trans x4
      generalize rd_T37 names (kk : Int) = y at *
      have BW2 : Hid (Below w1.heap.size w1 (wr.alloc (.cells #[.int .i64 y.f0, .string y.f1, .string y.f2, .int .i64 y.f3, .int .i64 y.f4] 37))) := Lib.hid (BW.out.alloc BW.out.size _)
      obtain ⟨s, r, hp, hr, hs⟩ := HP.out _ y BW2.out hmem
      have HR2 : Hid ((names.take (kk + 1)).all Nm.right = (b1 && (r == 0))) := Lib.hid (by rw [htk, List.all_append, AR.out, hr]; simp)
      have HB2 : Hid ((names.take (kk + 1)).any (begun deny) = (b2 || deny.any fun t => t.data.toList.isPrefixOf s.data.toList)) := Lib.hid (by rw [htk, List.any_append, AB.out, hs]; simp [begun])
      clear hmem htk hr hs
      cases b1 with
      | true =>
        cases b2 with
        | true =>
          go_wp2_with (go_at_call 21; refine hp.mono ?_; rintro e w2 ⟨rfl, hb2⟩; have BW3 : Hid (Below w1.heap.size w1 (w2.alloc (.cells #[.string s] 9))) := Lib.hid ((BW2.out.trans (hb2.mono BW2.out.size)).alloc (Nat.le_trans BW2.out.size hb2.size) _))
          go_roundg (names.length - (kk + 1))
          case measure => omega
          case rel => exact ⟨kk + 1, _, _, by omega, by omega, rfl, rfl, by go_num, BW3, HR2, HB2⟩
        | false =>
          obtain ⟨q, hq⟩ : ∃ q, (deny.any fun t => t.data.toList.isPrefixOf s.data.toList) = q := ⟨_, rfl⟩
          rw [hq] at HB2
          go_wp2_with (first | (go_at_call 21; refine hp.mono ?_; rintro e w2 ⟨rfl, hb2⟩; have BW3 : Hid (Below w1.heap.size w1 (w2.alloc (.cells #[.string s] 9))) := Lib.hid ((BW2.out.trans (hb2.mono BW2.out.size)).alloc (Nat.le_trans BW2.out.size hb2.size) _); have hcn := HCN.out _ s w2.heap.size BW3.out (World.alloc_heap_new _ _); rw [hq] at hcn; have py := HY.out _ BW3.out; have p2 : (w2.alloc (.cells #[.string s] 9)).cell? ⟨w.heap.size, 2, none⟩ = some (.slice A0 deny.length c0) := cell_blk py 2; clear py) | (go_at_call 29; refine hcn.mono ?_; rintro e w3 ⟨rfl, hd3⟩))
          go_roundg (names.length - (kk + 1))
          case measure => omega
          case rel => exact ⟨kk + 1, _, _, by omega, by omega, rfl, rfl, by go_num, Lib.hid (BW3.out.trans ((drawn_below hd3).mono BW3.out.size)), HR2, HB2⟩
      | false =>
        cases b2 with
        | true =>
          go_wp2_with (go_at_call 21; refine hp.mono ?_; rintro e w2 ⟨rfl, hb2⟩; have BW3 : Hid (Below w1.heap.size w1 (w2.alloc (.cells #[.string s] 9))) := Lib.hid ((BW2.out.trans (hb2.mono BW2.out.size)).alloc (Nat.le_trans BW2.out.size hb2.size) _))
          go_roundg (names.length - (kk + 1))
          case measure => omega
          case rel => exact ⟨kk + 1, _, _, by omega, by omega, rfl, rfl, by go_num, BW3, HR2, HB2⟩
        | false =>
          obtain ⟨q, hq⟩ : ∃ q, (deny.any fun t => t.data.toList.isPrefixOf s.data.toList) = q := ⟨_, rfl⟩
          rw [hq] at HB2
          go_wp2_with (first | (go_at_call 21; refine hp.mono ?_; rintro e w2 ⟨rfl, hb2⟩; have BW3 : Hid (Below w1.heap.size w1 (w2.alloc (.cells #[.string s] 9))) := Lib.hid ((BW2.out.trans (hb2.mono BW2.out.size)).alloc (Nat.le_trans BW2.out.size hb2.size) _); have hcn := HCN.out _ s w2.heap.size BW3.out (World.alloc_heap_new _ _); rw [hq] at hcn; have py := HY.out _ BW3.out; have p2 : (w2.alloc (.cells #[.string s] 9)).cell? ⟨w.heap.size, 2, none⟩ = some (.slice A0 deny.length c0) := cell_blk py 2; clear py) | (go_at_call 29; refine hcn.mono ?_; rintro e w3 ⟨rfl, hd3⟩))
          go_roundg (names.length - (kk + 1))
          case measure => omega
          case rel => exact ⟨kk + 1, _, _, by omega, by omega, rfl, rfl, by go_num, Lib.hid (BW3.out.trans ((drawn_below hd3).mono BW3.out.size)), HR2, HB2⟩
    · have hltz : ¬ (kk : Int) < (names.length : Int) := by omega
      have hk : kk = names.length := by omega
      subst hk
      have ar := AR.out
      have ab := AB.out
      rw [List.take_length] at ar ab
      have AR2 := Lib.hid ar
      have AB2 := Lib.hid ab
      clear ar ab AR AB
      obtain ⟨a0, a1, a2, a3, a4, a5, hE⟩ := HL.out.errs
      have HE := Lib.hid hE
      have hS : ∀ W, Below w1.heap.size w1 W → W.cell? ⟨0, 0, none⟩ = some (.iface 163 (.pointer (some a0))) ∧ W.cell? ⟨1, 0, none⟩ = some (.iface 163 (.pointer (some a1))) ∧ W.cell? ⟨2, 0, none⟩ = some (.iface 163 (.pointer (some a2))) ∧ W.cell? ⟨3, 0, none⟩ = some (.iface 163 (.pointer (some a3))) ∧ W.cell? ⟨4, 0, none⟩ = some (.iface 163 (.pointer (some a4))) ∧ W.cell? ⟨5, 0, none⟩ = some (.iface 163 (.pointer (some a5))) ∧
          W.cell? ⟨w.heap.size, 0, none⟩ = some (.int .i64 m1) ∧ W.cell? ⟨w.heap.size, 1, none⟩ = some (.int .i64 m2) ∧ W.cell? ⟨w.heap.size, 2, none⟩ = some (.slice A0 deny.length c0) ∧ W.cell? ⟨w.heap.size, 3, none⟩ = some (.bool cu) := fun W hb => by
        have hE' := HE.out.below hb
        have hy := HY.out W hb
        exact ⟨hE'.e0.1, hE'.e1.1, hE'.e2.1, hE'.e3.1, hE'.e4.1, hE'.e5.1, cell_blk hy 0, cell_blk hy 1, cell_blk hy 2, cell_blk hy 3⟩
      have HS := Lib.hid hS
      have hR := fun W (hb : Below w1.heap.size w1 W) => route_RightPolicy.calls0 m1 m2 A0 c0 deny cu W (Kd.C_below HD.out hb)
      have HRP := Lib.hid hR
      have BWd : Hid (Below w1.heap.size w1 wr.drew) := Lib.hid (BW.out.trans ((below_drewN wr 1).mono BW.out.size))
      obtain ⟨s0, s1, s2, s3, s4, s5, s6, s7, s8, s9⟩ := hS wr.drew BWd.out
      clear hS hR hE
      cases custody with
      | true =>
        obtain ⟨v, hv⟩ : ∃ v, firstE [(!rightPol m1 m2 deny, a0), (!b1, a1), (b2, a2), (decide (m1 < size), a3), (decide (m2 < life), a4), (!cu, a5)] = v := ⟨_, rfl⟩
        have hF := fun W => first6 (!rightPol m1 m2 deny) (!b1) b2 (decide (m1 < size)) (decide (m2 < life)) (!cu) a0 a1 a2 a3 a4 a5 W
        have hT := fun W hb => told_code (!rightPol m1 m2 deny) (!b1) b2 (decide (m1 < size)) (decide (m2 < life)) (!cu) a0 a1 a2 a3 a4 a5 W (HE.out.below (w' := W) hb)
        rw [hv] at hF hT
        have HT := Lib.hid hT
        clear hv hT
        go_wp2_with (fail)
        go_region_held3 (fun W => W.cell? ⟨0, 0, none⟩ = some (.iface 163 (.pointer (some a0))) ∧ W.cell? ⟨1, 0, none⟩ = some (.iface 163 (.pointer (some a1))) ∧ W.cell? ⟨2, 0, none⟩ = some (.iface 163 (.pointer (some a2))) ∧ W.cell? ⟨3, 0, none⟩ = some (.iface 163 (.pointer (some a3))) ∧ W.cell? ⟨4, 0, none⟩ = some (.iface 163 (.pointer (some a4))) ∧ W.cell? ⟨5, 0, none⟩ = some (.iface 163 (.pointer (some a5))) ∧ W.cell? ⟨w.heap.size, 0, none⟩ = some (.int .i64 m1) ∧ W.cell? ⟨w.heap.size, 1, none⟩ = some (.int .i64 m2) ∧ W.cell? ⟨w.heap.size, 2, none⟩ = some (.slice A0 deny.length c0) ∧ W.cell? ⟨w.heap.size, 3, none⟩ = some (.bool cu)) (go_keep) (first | (go_at_call 13; refine (HRP.out _ BWd.out).mono ?_; rintro e w5 ⟨rfl, hb5⟩; have BW5 : Hid (Below w1.heap.size w1 w5) := Lib.hid (BWd.out.trans (hb5.mono BWd.out.size)); obtain ⟨t0, t1, t2, t3, t4, t5, t6, t7, t8, t9⟩ := HS.out w5 BW5.out; clear hb5) | (go_at_call 33; refine (hF _).mono ?_; rintro e w6 ⟨rfl, hb6⟩; have BW6 : Hid (Below w1.heap.size w1 w6) := Lib.hid (BW5.out.trans (hb6.mono BW5.out.size)); obtain ⟨u0, u1, u2, u3, u4, u5, u6, u7, u8, u9⟩ := HS.out w6 BW6.out; clear hb6) | (go_at_call 32; refine (HT.out _ BW6.out).mono ?_; rintro e w7 ⟨rfl, rfl⟩))
        all_goals (try go_wp2)
        all_goals go_ret
        all_goals exact ⟨by rw [← AR2.out, ← AB2.out]; exact congrArg (fun c => Ending.returned (Value.int .i64 c)) (code_pass m1 m2 deny cu size life true names), HB.out.trans (BW6.out.mono HB.out.size)⟩
      | false =>
        obtain ⟨v, hv⟩ : ∃ v, firstE [(!rightPol m1 m2 deny, a0), (!b1, a1), (b2, a2), (decide (m1 < size), a3), (decide (m2 < life), a4), (false, a5)] = v := ⟨_, rfl⟩
        have hF := fun W => first6 (!rightPol m1 m2 deny) (!b1) b2 (decide (m1 < size)) (decide (m2 < life)) false a0 a1 a2 a3 a4 a5 W
        have hT := fun W hb => told_code (!rightPol m1 m2 deny) (!b1) b2 (decide (m1 < size)) (decide (m2 < life)) false a0 a1 a2 a3 a4 a5 W (HE.out.below (w' := W) hb)
        rw [hv] at hF hT
        have HT := Lib.hid hT
        clear hv hT
        go_wp2_with (fail)
        refine start_ (n := 36) (S := (fun W => W.cell? ⟨0, 0, none⟩ = some (.iface 163 (.pointer (some a0))) ∧ W.cell? ⟨1, 0, none⟩ = some (.iface 163 (.pointer (some a1))) ∧ W.cell? ⟨2, 0, none⟩ = some (.iface 163 (.pointer (some a2))) ∧ W.cell? ⟨3, 0, none⟩ = some (.iface 163 (.pointer (some a3))) ∧ W.cell? ⟨4, 0, none⟩ = some (.iface 163 (.pointer (some a4))) ∧ W.cell? ⟨5, 0, none⟩ = some (.iface 163 (.pointer (some a5))) ∧ W.cell? ⟨w.heap.size, 0, none⟩ = some (.int .i64 m1) ∧ W.cell? ⟨w.heap.size, 1, none⟩ = some (.int .i64 m2) ∧ W.cell? ⟨w.heap.size, 2, none⟩ = some (.slice A0 deny.length c0) ∧ W.cell? ⟨w.heap.size, 3, none⟩ = some (.bool cu))) (ds := []) #[false, false, false, false, false, false, false, false, false, false, false, false, false, false, false, false, false, false, false, false, false, false, false, false, false, false, false, false, false, false, false, false, false, false, false, false] (by kernel_rfl) rfl rfl ⟨s0, s1, s2, s3, s4, s5, s6, s7, s8, s9⟩ (fun hHeld => ?_); refine with_tabW pass_tab pass_bits (fun HT_ HW_ => ?_)
        clear s0 s1 s2 s3 s4 s5 s6 s7 s8 s9
        refine take_ (i := 0) (N := some 43) (v := ?_) (a' := ?_) #[true, false, false, false, false, false, false, false, false, false, false, false, false, false, false, false, false, false, false, false, false, false, false, false, false, false, false, false, false, false, false, false, false, false, false, false] rfl rfl (take_ofW HT_.out HW_.out (by kernel_rfl)) (fun _ _ _ h => h) (Or.inl ⟨by rfl, ?_⟩) hHeld ?_ ?_
        rotate_left
        · rintro w' ⟨s0, s1, s2, s3, s4, s5, s6, s7, s8, s9⟩
          go_simp
          with_reducible rfl
        rotate_left
        · simp only [Act.put, List.setIfInBounds_toArray, List.set_cons_zero, List.set_cons_succ]
          rfl
        refine take_ (i := 3) (N := some 46) (v := ?_) (a' := ?_) #[true, false, false, true, false, false, false, false, false, false, false, false, false, false, false, false, false, false, false, false, false, false, false, false, false, false, false, false, false, false, false, false, false, false, false, false] rfl rfl (take_ofW HT_.out HW_.out (by kernel_rfl)) (fun _ _ _ h => h) (Or.inl ⟨by rfl, ?_⟩) hHeld ?_ ?_
        rotate_left
        · rintro w' ⟨s0, s1, s2, s3, s4, s5, s6, s7, s8, s9⟩
          go_simp
          with_reducible rfl
        rotate_left
        · simp only [Act.put, List.setIfInBounds_toArray, List.set_cons_zero, List.set_cons_succ]
          rfl
        refine pure_ (i := 5) (N := some 48) (v := ?_) (a' := ?_) #[true, false, false, true, false, true, false, false, false, false, false, false, false, false, false, false, false, false, false, false, false, false, false, false, false, false, false, false, false, false, false, false, false, false, false, false] rfl rfl (any_of HT_.out (by kernel_rfl)) (fun _ _ _ h => h) (Or.inl ⟨by rfl, ?_⟩) ?_ ?_
        rotate_left
        · intro w'
          go_simp
          with_reducible rfl
        rotate_left
        · simp only [Act.put, List.setIfInBounds_toArray, List.set_cons_zero, List.set_cons_succ]
          rfl
        refine pure_ (i := 6) (N := some 49) (v := ?_) (a' := ?_) #[true, false, false, true, false, true, true, false, false, false, false, false, false, false, false, false, false, false, false, false, false, false, false, false, false, false, false, false, false, false, false, false, false, false, false, false] rfl rfl (any_of HT_.out (by kernel_rfl)) (fun _ _ _ h => h) (Or.inl ⟨by rfl, ?_⟩) ?_ ?_
        rotate_left
        · intro w'
          go_simp
          with_reducible rfl
        rotate_left
        · simp only [Act.put, List.setIfInBounds_toArray, List.set_cons_zero, List.set_cons_succ]
          rfl
        refine take_ (i := 7) (N := some 50) (v := ?_) (a' := ?_) #[true, false, false, true, false, true, true, true, false, false, false, false, false, false, false, false, false, false, false, false, false, false, false, false, false, false, false, false, false, false, false, false, false, false, false, false] rfl rfl (take_ofW HT_.out HW_.out (by kernel_rfl)) (fun _ _ _ h => h) (Or.inl ⟨by rfl, ?_⟩) hHeld ?_ ?_
        rotate_left
        · rintro w' ⟨s0, s1, s2, s3, s4, s5, s6, s7, s8, s9⟩
          go_simp
          with_reducible rfl
        rotate_left
        · simp only [Act.put, List.setIfInBounds_toArray, List.set_cons_zero, List.set_cons_succ]
          rfl
        refine pure_ (i := 8) (N := some 51) (v := ?_) (a' := ?_) #[true, false, false, true, false, true, true, true, true, false, false, false, false, false, false, false, false, false, false, false, false, false, false, false, false, false, false, false, false, false, false, false, false, false, false, false] rfl rfl (any_of HT_.out (by kernel_rfl)) (fun _ _ _ h => h) (Or.inl ⟨by rfl, ?_⟩) ?_ ?_
        rotate_left
        · intro w'
          go_simp
          with_reducible rfl
        rotate_left
        · simp only [Act.put, List.setIfInBounds_toArray, List.set_cons_zero, List.set_cons_succ]
          rfl
        refine pure_ (i := 9) (N := some 52) (v := ?_) (a' := ?_) #[true, false, false, true, false, true, true, true, true, true, false, false, false, false, false, false, false, false, false, false, false, false, false, false, false, false, false, false, false, false, false, false, false, false, false, false] rfl rfl (any_of HT_.out (by kernel_rfl)) (fun _ _ _ h => h) (Or.inl ⟨by rfl, ?_⟩) ?_ ?_
        rotate_left
        · intro w'
          go_simp
          with_reducible rfl
        rotate_left
        · simp only [Act.put, List.setIfInBounds_toArray, List.set_cons_zero, List.set_cons_succ]
          rfl
        refine take_ (i := 10) (N := some 53) (v := ?_) (a' := ?_) #[true, false, false, true, false, true, true, true, true, true, true, false, false, false, false, false, false, false, false, false, false, false, false, false, false, false, false, false, false, false, false, false, false, false, false, false] rfl rfl (take_ofW HT_.out HW_.out (by kernel_rfl)) (fun _ _ _ h => h) (Or.inl ⟨by rfl, ?_⟩) hHeld ?_ ?_
        rotate_left
        · rintro w' ⟨s0, s1, s2, s3, s4, s5, s6, s7, s8, s9⟩
          go_simp
          with_reducible rfl
        rotate_left
        · simp only [Act.put, List.setIfInBounds_toArray, List.set_cons_zero, List.set_cons_succ]
          rfl
        refine pure_ (i := 11) (N := some 54) (v := ?_) (a' := ?_) #[true, false, false, true, false, true, true, true, true, true, true, true, false, false, false, false, false, false, false, false, false, false, false, false, false, false, false, false, false, false, false, false, false, false, false, false] rfl rfl (any_of HT_.out (by kernel_rfl)) (fun _ _ _ h => h) (Or.inl ⟨by rfl, ?_⟩) ?_ ?_
        rotate_left
        · intro w'
          go_simp
          with_reducible rfl
        rotate_left
        · simp only [Act.put, List.setIfInBounds_toArray, List.set_cons_zero, List.set_cons_succ]
          rfl
        refine pure_ (i := 12) (N := some 55) (v := ?_) (a' := ?_) #[true, false, false, true, false, true, true, true, true, true, true, true, true, false, false, false, false, false, false, false, false, false, false, false, false, false, false, false, false, false, false, false, false, false, false, false] rfl rfl (any_of HT_.out (by kernel_rfl)) (fun _ _ _ h => h) (Or.inl ⟨by rfl, ?_⟩) ?_ ?_
        rotate_left
        · intro w'
          go_simp
          with_reducible rfl
        rotate_left
        · simp only [Act.put, List.setIfInBounds_toArray, List.set_cons_zero, List.set_cons_succ]
          rfl
        refine pure_ (i := 13) (N := some 56) (v := ?_) (a' := ?_) #[true, false, false, true, false, true, true, true, true, true, true, true, true, true, false, false, false, false, false, false, false, false, false, false, false, false, false, false, false, false, false, false, false, false, false, false] rfl rfl (any_of HT_.out (by kernel_rfl)) (fun _ _ _ h => h) (Or.inl ⟨by rfl, ?_⟩) ?_ ?_
        rotate_left
        · intro w'
          go_simp
          with_reducible rfl
        rotate_left
        · simp only [Act.put, List.setIfInBounds_toArray, List.set_cons_zero, List.set_cons_succ]
          rfl
        refine take_ (i := 14) (N := some 57) (v := ?_) (a' := ?_) #[true, false, false, true, false, true, true, true, true, true, true, true, true, true, true, false, false, false, false, false, false, false, false, false, false, false, false, false, false, false, false, false, false, false, false, false] rfl rfl (take_ofW HT_.out HW_.out (by kernel_rfl)) (fun _ _ _ h => h) (Or.inl ⟨by rfl, ?_⟩) hHeld ?_ ?_
        rotate_left
        · rintro w' ⟨s0, s1, s2, s3, s4, s5, s6, s7, s8, s9⟩
          go_simp
          with_reducible rfl
        rotate_left
        · simp only [Act.put, List.setIfInBounds_toArray, List.set_cons_zero, List.set_cons_succ]
          rfl
        refine pure_ (i := 15) (N := some 58) (v := ?_) (a' := ?_) #[true, false, false, true, false, true, true, true, true, true, true, true, true, true, true, true, false, false, false, false, false, false, false, false, false, false, false, false, false, false, false, false, false, false, false, false] rfl rfl (any_of HT_.out (by kernel_rfl)) (fun _ _ _ h => h) (Or.inl ⟨by rfl, ?_⟩) ?_ ?_
        rotate_left
        · intro w'
          go_simp
          with_reducible rfl
        rotate_left
        · simp only [Act.put, List.setIfInBounds_toArray, List.set_cons_zero, List.set_cons_succ]
          rfl
        refine take_ (i := 16) (N := some 59) (v := ?_) (a' := ?_) #[true, false, false, true, false, true, true, true, true, true, true, true, true, true, true, true, true, false, false, false, false, false, false, false, false, false, false, false, false, false, false, false, false, false, false, false] rfl rfl (take_ofW HT_.out HW_.out (by kernel_rfl)) (fun _ _ _ h => h) (Or.inl ⟨by rfl, ?_⟩) hHeld ?_ ?_
        rotate_left
        · rintro w' ⟨s0, s1, s2, s3, s4, s5, s6, s7, s8, s9⟩
          go_simp
          with_reducible rfl
        rotate_left
        · simp only [Act.put, List.setIfInBounds_toArray, List.set_cons_zero, List.set_cons_succ]
          rfl
        refine pure_ (i := 17) (N := some 60) (v := ?_) (a' := ?_) #[true, false, false, true, false, true, true, true, true, true, true, true, true, true, true, true, true, true, false, false, false, false, false, false, false, false, false, false, false, false, false, false, false, false, false, false] rfl rfl (any_of HT_.out (by kernel_rfl)) (fun _ _ _ h => h) (Or.inl ⟨by rfl, ?_⟩) ?_ ?_
        rotate_left
        · intro w'
          go_simp
          with_reducible rfl
        rotate_left
        · simp only [Act.put, List.setIfInBounds_toArray, List.set_cons_zero, List.set_cons_succ]
          rfl
        refine pure_ (i := 18) (N := some 61) (v := ?_) (a' := ?_) #[true, false, false, true, false, true, true, true, true, true, true, true, true, true, true, true, true, true, true, false, false, false, false, false, false, false, false, false, false, false, false, false, false, false, false, false] rfl rfl (any_of HT_.out (by kernel_rfl)) (fun _ _ _ h => h) (Or.inl ⟨by rfl, ?_⟩) ?_ ?_
        rotate_left
        · intro w'
          go_simp
          with_reducible rfl
        rotate_left
        · simp only [Act.put, List.setIfInBounds_toArray, List.set_cons_zero, List.set_cons_succ]
          rfl
        refine pure_ (i := 19) (N := some 62) (v := ?_) (a' := ?_) #[true, false, false, true, false, true, true, true, true, true, true, true, true, true, true, true, true, true, true, true, false, false, false, false, false, false, false, false, false, false, false, false, false, false, false, false] rfl rfl (any_of HT_.out (by kernel_rfl)) (fun _ _ _ h => h) (Or.inl ⟨by rfl, ?_⟩) ?_ ?_
        rotate_left
        · intro w'
          go_simp
          with_reducible rfl
        rotate_left
        · simp only [Act.put, List.setIfInBounds_toArray, List.set_cons_zero, List.set_cons_succ]
          rfl
        refine take_ (i := 20) (N := some 63) (v := ?_) (a' := ?_) #[true, false, false, true, false, true, true, true, true, true, true, true, true, true, true, true, true, true, true, true, true, false, false, false, false, false, false, false, false, false, false, false, false, false, false, false] rfl rfl (take_ofW HT_.out HW_.out (by kernel_rfl)) (fun _ _ _ h => h) (Or.inl ⟨by rfl, ?_⟩) hHeld ?_ ?_
        rotate_left
        · rintro w' ⟨s0, s1, s2, s3, s4, s5, s6, s7, s8, s9⟩
          go_simp
          with_reducible rfl
        rotate_left
        · simp only [Act.put, List.setIfInBounds_toArray, List.set_cons_zero, List.set_cons_succ]
          rfl
        refine pure_ (i := 21) (N := some 64) (v := ?_) (a' := ?_) #[true, false, false, true, false, true, true, true, true, true, true, true, true, true, true, true, true, true, true, true, true, true, false, false, false, false, false, false, false, false, false, false, false, false, false, false] rfl rfl (any_of HT_.out (by kernel_rfl)) (fun _ _ _ h => h) (Or.inl ⟨by rfl, ?_⟩) ?_ ?_
        rotate_left
        · intro w'
          go_simp
          with_reducible rfl
        rotate_left
        · simp only [Act.put, List.setIfInBounds_toArray, List.set_cons_zero, List.set_cons_succ]
          rfl
        refine take_ (i := 22) (N := some 65) (v := ?_) (a' := ?_) #[true, false, false, true, false, true, true, true, true, true, true, true, true, true, true, true, true, true, true, true, true, true, true, false, false, false, false, false, false, false, false, false, false, false, false, false] rfl rfl (take_ofW HT_.out HW_.out (by kernel_rfl)) (fun _ _ _ h => h) (Or.inl ⟨by rfl, ?_⟩) hHeld ?_ ?_
        rotate_left
        · rintro w' ⟨s0, s1, s2, s3, s4, s5, s6, s7, s8, s9⟩
          go_simp
          with_reducible rfl
        rotate_left
        · simp only [Act.put, List.setIfInBounds_toArray, List.set_cons_zero, List.set_cons_succ]
          rfl
        refine pure_ (i := 23) (N := some 66) (v := ?_) (a' := ?_) #[true, false, false, true, false, true, true, true, true, true, true, true, true, true, true, true, true, true, true, true, true, true, true, true, false, false, false, false, false, false, false, false, false, false, false, false] rfl rfl (any_of HT_.out (by kernel_rfl)) (fun _ _ _ h => h) (Or.inl ⟨by rfl, ?_⟩) ?_ ?_
        rotate_left
        · intro w'
          go_simp
          with_reducible rfl
        rotate_left
        · simp only [Act.put, List.setIfInBounds_toArray, List.set_cons_zero, List.set_cons_succ]
          rfl
        refine pure_ (i := 24) (N := some 67) (v := ?_) (a' := ?_) #[true, false, false, true, false, true, true, true, true, true, true, true, true, true, true, true, true, true, true, true, true, true, true, true, true, false, false, false, false, false, false, false, false, false, false, false] rfl rfl (any_of HT_.out (by kernel_rfl)) (fun _ _ _ h => h) (Or.inl ⟨by rfl, ?_⟩) ?_ ?_
        rotate_left
        · intro w'
          go_simp
          with_reducible rfl
        rotate_left
        · simp only [Act.put, List.setIfInBounds_toArray, List.set_cons_zero, List.set_cons_succ]
          rfl
        refine take_ (i := 30) (N := some 73) (v := ?_) (a' := ?_) #[true, false, false, true, false, true, true, true, true, true, true, true, true, true, true, true, true, true, true, true, true, true, true, true, true, false, false, false, false, false, true, false, false, false, false, false] rfl rfl (take_ofW HT_.out HW_.out (by kernel_rfl)) (fun _ _ _ h => h) (Or.inl ⟨by rfl, ?_⟩) hHeld ?_ ?_
        rotate_left
        · rintro w' ⟨s0, s1, s2, s3, s4, s5, s6, s7, s8, s9⟩
          go_simp
          with_reducible rfl
        rotate_left
        · simp only [Act.put, List.setIfInBounds_toArray, List.set_cons_zero, List.set_cons_succ]
          rfl
        refine one_ (i := 1) (N := some 44) #[true, true, false, true, false, true, true, true, true, true, true, true, true, true, true, true, true, true, true, true, true, true, true, true, true, false, false, false, false, false, true, false, false, false, false, false] rfl rfl (one_of HT_.out (by kernel_rfl)) (by decide) (fun K hK => ?_)
        refine goes_ Tryz.func13 (by kernel_rfl) rfl #[.agg #[.int .i64 m1, .int .i64 m2, .slice A0 deny.length c0, .bool cu]] (by rfl) rfl rfl (by (try simp only [List.map_toArray, List.map_cons, List.map_nil]); first | done | rfl) ?_
        with_reducible refine (HRP.out _ BWd.out).mono ?_
        rintro e w5 ⟨rfl, hb5⟩
        refine ⟨_, rfl, ?_⟩
        have BW5 : Hid (Below w1.heap.size w1 w5) := Lib.hid (BWd.out.trans (hb5.mono BWd.out.size))
        clear hb5
        refine hK.out _ _ (HS.out w5 BW5.out) (fun hHeld => ?_)
        clear hK K
        refine norm_ (a' := ?_) ?_ ?_
        rotate_left
        · show Act.put _ (some 44) _ = _
          simp only [Act.put, List.setIfInBounds_toArray, List.set_cons_zero, List.set_cons_succ]
          rfl
        refine pure_ (i := 2) (N := some 45) (v := ?_) (a' := ?_) #[true, true, true, true, false, true, true, true, true, true, true, true, true, true, true, true, true, true, true, true, true, true, true, true, true, false, false, false, false, false, true, false, false, false, false, false] rfl rfl (any_of HT_.out (by kernel_rfl)) (fun _ _ _ h => h) (Or.inl ⟨by rfl, ?_⟩) ?_ ?_
        rotate_left
        · intro w'
          go_simp
          with_reducible rfl
        rotate_left
        · simp only [Act.put, List.setIfInBounds_toArray, List.set_cons_zero, List.set_cons_succ]
          rfl
        refine pure_ (i := 4) (N := some 47) (v := ?_) (a' := ?_) #[true, true, true, true, true, true, true, true, true, true, true, true, true, true, true, true, true, true, true, true, true, true, true, true, true, false, false, false, false, false, true, false, false, false, false, false] rfl rfl (any_of HT_.out (by kernel_rfl)) (fun _ _ _ h => h) (Or.inl ⟨by rfl, ?_⟩) ?_ ?_
        rotate_left
        · intro w'
          go_simp
          with_reducible rfl
        rotate_left
        · simp only [Act.put, List.setIfInBounds_toArray, List.set_cons_zero, List.set_cons_succ]
          rfl
        refine pure_ (i := 25) (N := some 68) (v := ?_) (a' := ?_) #[true, true, true, true, true, true, true, true, true, true, true, true, true, true, true, true, true, true, true, true, true, true, true, true, true, true, false, false, false, false, true, false, false, false, false, false] rfl rfl (any_of HT_.out (by kernel_rfl)) (fun _ _ _ h => h) (Or.inl ⟨by rfl, ?_⟩) ?_ ?_
        rotate_left
        · intro w'
          go_simp
          with_reducible rfl
        rotate_left
        · simp only [Act.put, List.setIfInBounds_toArray, List.set_cons_zero, List.set_cons_succ]
          rfl
        refine pure_ (i := 26) (N := some 69) (v := undef) (a' := ?_) #[true, true, true, true, true, true, true, true, true, true, true, true, true, true, true, true, true, true, true, true, true, true, true, true, true, true, true, false, false, false, true, false, false, false, false, false] rfl rfl (any_of HT_.out (by kernel_rfl)) (fun _ _ _ h => h) (Or.inr ⟨by rfl, rfl⟩) ?_ ?_
        rotate_left
        · simp only [Act.put, List.setIfInBounds_toArray, List.set_cons_zero, List.set_cons_succ]
          rfl
        refine pure_ (i := 27) (N := some 70) (v := undef) (a' := ?_) #[true, true, true, true, true, true, true, true, true, true, true, true, true, true, true, true, true, true, true, true, true, true, true, true, true, true, true, true, false, false, true, false, false, false, false, false] rfl rfl (any_of HT_.out (by kernel_rfl)) (fun _ _ _ h => h) (Or.inr ⟨by rfl, rfl⟩) ?_ ?_
        rotate_left
        · simp only [Act.put, List.setIfInBounds_toArray, List.set_cons_zero, List.set_cons_succ]
          rfl
        refine pure_ (i := 28) (N := some 71) (v := undef) (a' := ?_) #[true, true, true, true, true, true, true, true, true, true, true, true, true, true, true, true, true, true, true, true, true, true, true, true, true, true, true, true, true, false, true, false, false, false, false, false] rfl rfl (any_of HT_.out (by kernel_rfl)) (fun _ _ _ h => h) (Or.inr ⟨by rfl, rfl⟩) ?_ ?_
        rotate_left
        · simp only [Act.put, List.setIfInBounds_toArray, List.set_cons_zero, List.set_cons_succ]
          rfl
        refine pure_ (i := 29) (N := some 72) (v := ?_) (a' := ?_) #[true, true, true, true, true, true, true, true, true, true, true, true, true, true, true, true, true, true, true, true, true, true, true, true, true, true, true, true, true, true, true, false, false, false, false, false] rfl rfl (any_of HT_.out (by kernel_rfl)) (fun _ _ _ h => h) (Or.inl ⟨by rfl, ?_⟩) ?_ ?_
        rotate_left
        · intro w'
          go_simp
          with_reducible rfl
        rotate_left
        · simp only [Act.put, List.setIfInBounds_toArray, List.set_cons_zero, List.set_cons_succ]
          rfl
        refine pure_ (i := 31) (N := some 74) (v := ?_) (a' := ?_) #[true, true, true, true, true, true, true, true, true, true, true, true, true, true, true, true, true, true, true, true, true, true, true, true, true, true, true, true, true, true, true, true, false, false, false, false] rfl rfl (any_of HT_.out (by kernel_rfl)) (fun _ _ _ h => h) (Or.inl ⟨by rfl, ?_⟩) ?_ ?_
        rotate_left
        · intro w'
          go_simp
          with_reducible rfl
        rotate_left
        · simp only [Act.put, List.setIfInBounds_toArray, List.set_cons_zero, List.set_cons_succ]
          rfl
        refine one_ (i := 32) (N := some 75) #[true, true, true, true, true, true, true, true, true, true, true, true, true, true, true, true, true, true, true, true, true, true, true, true, true, true, true, true, true, true, true, true, true, false, false, false] rfl rfl (one_of HT_.out (by kernel_rfl)) (by decide) (fun K hK => ?_)
        refine event_step (by rfl) (v := .slice (some ⟨w5.heap.size, 0, none⟩) 6 6) (w1 := w5.alloc (.cells #[.bool (!rightPol m1 m2 deny), .iface 163 (.pointer (some a0)), .bool (!b1), .iface 163 (.pointer (some a1)), .bool b2, .iface 163 (.pointer (some a2)), .bool (decide (m1 < size)), .iface 163 (.pointer (some a3)), .bool (decide (m2 < life)), .iface 163 (.pointer (some a4)), .bool false, .iface 163 (.pointer (some a5))] 61)) ?hr ?_
        (case hr => go_simp)
        have BW5a := Lib.hid (BW5.out.alloc BW5.out.size (.cells #[.bool (!rightPol m1 m2 deny), .iface 163 (.pointer (some a0)), .bool (!b1), .iface 163 (.pointer (some a1)), .bool b2, .iface 163 (.pointer (some a2)), .bool (decide (m1 < size)), .iface 163 (.pointer (some a3)), .bool (decide (m2 < life)), .iface 163 (.pointer (some a4)), .bool false, .iface 163 (.pointer (some a5))] 61))
        refine hK.out _ _ (HS.out _ BW5a.out) (fun hHeld => ?_)
        clear hK K
        refine norm_ (a' := ?_) ?_ ?_
        rotate_left
        · show Act.put _ (some 75) _ = _
          simp only [Act.put, List.setIfInBounds_toArray, List.set_cons_zero, List.set_cons_succ]
          rfl
        refine one_ (i := 33) (N := some 76) #[true, true, true, true, true, true, true, true, true, true, true, true, true, true, true, true, true, true, true, true, true, true, true, true, true, true, true, true, true, true, true, true, true, true, false, false] rfl rfl (one_of HT_.out (by kernel_rfl)) (by decide) (fun K hK => ?_)
        refine goes_ Tryz.func33 (by kernel_rfl) rfl #[.slice (some ⟨w5.heap.size, 0, none⟩) 6 6] (by rfl) rfl rfl (by (try simp only [List.map_toArray, List.map_cons, List.map_nil]); first | done | rfl) ?_
        with_reducible refine (hF _).mono ?_
        rintro e w6 ⟨rfl, hb6⟩
        refine ⟨_, rfl, ?_⟩
        have BW6 : Hid (Below w1.heap.size w1 w6) := Lib.hid (BW5.out.trans (hb6.mono BW5.out.size))
        clear hb6
        refine hK.out _ _ (HS.out w6 BW6.out) (fun hHeld => ?_)
        clear hK K
        refine norm_ (a' := ?_) ?_ ?_
        rotate_left
        · show Act.put _ (some 76) _ = _
          simp only [Act.put, List.setIfInBounds_toArray, List.set_cons_zero, List.set_cons_succ]
          rfl
        refine one_ (i := 34) (N := some 77) #[true, true, true, true, true, true, true, true, true, true, true, true, true, true, true, true, true, true, true, true, true, true, true, true, true, true, true, true, true, true, true, true, true, true, true, false] rfl rfl (one_of HT_.out (by kernel_rfl)) (by decide) (fun K hK => ?_)
        refine goes_ Tryz.func32 (by kernel_rfl) rfl #[v] (by rfl) rfl rfl (by (try simp only [List.map_toArray, List.map_cons, List.map_nil]); first | done | rfl) ?_
        with_reducible refine (HT.out _ BW6.out).mono ?_
        rintro e w7 ⟨rfl, rfl⟩
        refine ⟨_, rfl, ?_⟩
        refine hK.out _ _ (HS.out _ BW6.out) (fun hHeld => ?_)
        clear hK K
        refine norm_ (a' := ?_) ?_ ?_
        rotate_left
        · show Act.put _ (some 77) _ = _
          simp only [Act.put, List.setIfInBounds_toArray, List.set_cons_zero, List.set_cons_succ]
          rfl
        refine pure_ (i := 35) (N := some 10) (v := ?_) (a' := ?_) #[true, true, true, true, true, true, true, true, true, true, true, true, true, true, true, true, true, true, true, true, true, true, true, true, true, true, true, true, true, true, true, true, true, true, true, true] rfl rfl (any_of HT_.out (by kernel_rfl)) (fun _ _ _ h => h) (Or.inl ⟨by rfl, ?_⟩) ?_ ?_
        rotate_left
        · intro w'
          go_simp
          with_reducible rfl
        rotate_left
        · simp only [Act.put, List.setIfInBounds_toArray, List.set_cons_zero, List.set_cons_succ]
          rfl
        refine done_ (done_of HT_.out (by kernel_rfl)) ?_
        all_goals (try go_wp2)
        all_goals go_ret
        all_goals exact ⟨by rw [← AR2.out, ← AB2.out]; exact congrArg (fun c => Ending.returned (Value.int .i64 c)) (code_pass m1 m2 deny cu size life false names), HB.out.trans (BW6.out.mono HB.out.size)⟩
theorem route_Pass.calls (a0_0 a0_1 : Int) (A0_2 : Option Addr) (c0_2 : Nat) (l0_2 : List ByteArray) (a0_3 : Bool) (a1 a2 : Int) (a3 : Bool) (A4 : Option Addr) (c4 : Nat) (l4 : List Nm) (r : Int) (w : World) (hr0_2 : Kd.C Kd.string w A0_2 l0_2.length l0_2) (_hc0_2 : l0_2.length ≤ c0_2) (hr4 : Kd.C kNm w A4 l4.length l4) (_hc4 : l4.length ≤ c4) (hLd : LaidR w) (h : route_Pass.f a0_0 a0_1 l0_2 a0_3 a1 a2 a3 l4 = some r) :
    Calls Tryz.prog 15 #[.agg #[.int .i64 a0_0, .int .i64 a0_1, .slice A0_2 l0_2.length c0_2, .bool a0_3], .int .i64 a1, .int .i64 a2, .bool a3, .slice A4 l4.length c4] w fun e w' => e = .returned (.int .i64 r) ∧ Below w.heap.size w w' := by
  unfold route_Pass.f at h
  split at h
  case isFalse => cases h
  rename_i hok
  obtain rfl := Option.some.inj h
  exact pass_walk a0_0 a0_1 A0_2 c0_2 l0_2 a0_3 a1 a2 a3 A4 c4 l4 w hr0_2 hr4 hLd hok
end Go.Proofs.YtaknknfcikdjiaaGreatDoor.Hand
end
section
namespace Go.Proofs.YtaknknfcikdjiaaGreatDoor.Hand
open Go.RowKit Go.Proofs.YtaknknfcikdjiaaGreatDoorW Go.Proofs.YtaknknfcikdjiaaGreatDoorW.PrintWords Go.Proofs.YtaknknfcikdjiaaGreatDoor.RK Go.Proofs.YtaknknfcikdjiaaGreatDoor.RC
theorem isEmpty_clash2 {l : List UInt8} {b : Bool} {i_ : Decidable ((l != []) = b)} (h1 : @decide _ i_ = true) (h2 : ¬ l.isEmpty = !b) : False := by
  have h1 := of_decide_eq_true h1
  cases l <;> simp_all
theorem isEmpty_clash' {l : List UInt8} {b : Bool} {i_ : Decidable ((l != []) = b)} (h1 : @decide _ i_ = true) (h2 : l.isEmpty = b) : False := by
  have h1 := of_decide_eq_true h1
  cases l <;> simp_all
theorem isEmpty_clash {l : List UInt8} {b : Bool} (h1 : (l != []) = b) (h2 : l.isEmpty = b) : False := by
  cases l <;> cases b <;> simp_all
def route_Right.f (l : List Rt) : Option Bool := some (rightRt l)
theorem route_Right.calls (A0 : Option Addr) (c0 : Nat) (l0 : List Rt) (r : Bool) (w : World) (hr0 : Kd.C kRt w A0 l0.length l0) (_hc0 : l0.length ≤ c0) (h : route_Right.f l0 = some r) :
    Calls Tryz.prog 25 #[.slice A0 l0.length c0] w fun e w' => e = .returned (.bool r) ∧ Below w.heap.size w w' := by
  obtain rfl := Option.some.inj h
  exact route_Right_calls0 A0 c0 l0 w hr0
def route_RightPolicy.f (m1 m2 : Int) (deny : List ByteArray) (_cu : Bool) : Option Bool := some (rightPol m1 m2 deny)
theorem route_RightPolicy.calls (a0_0 a0_1 : Int) (A0_2 : Option Addr) (c0_2 : Nat) (l0_2 : List ByteArray) (a0_3 : Bool) (r : Bool) (w : World) (hr0_2 : Kd.C Kd.string w A0_2 l0_2.length l0_2) (_hc0_2 : l0_2.length ≤ c0_2) (h : route_RightPolicy.f a0_0 a0_1 l0_2 a0_3 = some r) :
    Calls Tryz.prog 13 #[.agg #[.int .i64 a0_0, .int .i64 a0_1, .slice A0_2 l0_2.length c0_2, .bool a0_3]] w fun e w' => e = .returned (.bool r) ∧ Below w.heap.size w w' := by
  obtain rfl := Option.some.inj h
  exact route_RightPolicy.calls0 a0_0 a0_1 A0_2 c0_2 l0_2 a0_3 w hr0_2
def eid_PrintR.f (n : Int) (a1 a2 : ByteArray) (a3 a4 : Int) : Option (ByteArray × Int) := if a1.size ≤ maxLen ∧ a2.size ≤ maxLen then some (printT n a1 a2 a3 a4) else none
theorem eid_PrintR.calls (a0_0 : Int) (a0_1 a0_2 : ByteArray) (a0_3 a0_4 : Int) (r1 : ByteArray) (r2 : Int) (w : World) (hLd : LaidR w) (h : eid_PrintR.f a0_0 a0_1 a0_2 a0_3 a0_4 = some (r1, r2)) :
    Calls Tryz.prog 21 #[.agg #[.int .i64 a0_0, .string a0_1, .string a0_2, .int .i64 a0_3, .int .i64 a0_4]] w fun e w' => e = .returned (.tuple #[.string r1, .int .i64 r2]) ∧ Below w.heap.size w w' := by
  unfold eid_PrintR.f at h
  split at h
  case isFalse => cases h
  rename_i hc
  exact eid_Print.calls a0_0 a0_1 a0_2 a0_3 a0_4 r1 r2 w hLd.laid ((Print_at _ _ _ _ _ hc.1 hc.2).trans h)
end Go.Proofs.YtaknknfcikdjiaaGreatDoor.Hand
end
section
namespace Go.Proofs.YtaknknfcikdjiaaGreatDoor.Hand
open Go.ChangeShapes Go.WideShapes Go.ChangeAt Go.RowKit Go.Proofs.YtaknknfcikdjiaaGreatDoorW Go.Proofs.YtaknknfcikdjiaaGreatDoorW.PrintWords Go.Proofs.YtaknknfcikdjiaaGreatDoor.RK
theorem laidOut : laidOutB Tryz.prog = true := by kernel_rfl
section
variable {H : Type} {enc : TypeId × Value → H} {W : World} {base : Nat} {spare : Nat → Bool} {held : Bool}
theorem cellsRt : Tryz.prog.cellsOf 35 = 2 := by kernel_rfl
set_option maxRecDepth 100000 in
theorem rt_cells {fuel : Nat} {cs : List Value} {x : DataW H × List MemPlace} (h : DataW.trod enc Tryz.prog W base spare held fuel 35 cs = some x) :
    ∃ z : Rt, cs = [.string z.f0, .int .i64 z.f1] := by
  obtain ⟨xs, n, _, hx, hl, hlen, hg⟩ := DataW.trod_struct Tryz.underlying35 h
  rw [cellsRt] at hl
  match cs, hl with
  | [c0, c1], _ =>
    match xs, hlen with
    | [y0, y1], _ =>
      have g0 : DataW.trod enc Tryz.prog W base spare held n 9 [c0] = some y0 := by have := hg 0 _ rfl; simpa [cellsInt, cellsStr] using this
      have g1 : DataW.trod enc Tryz.prog W base spare held n 3 [c1] = some y1 := by have := hg 1 _ rfl; simpa [cellsInt, cellsStr] using this
      obtain ⟨m0, e0, _, _⟩ := DataW.trod_string Tryz.underlying9 g0
      obtain ⟨m1, e1, _, _⟩ := DataW.trod_int Tryz.underlying3 g1
      simp only [List.cons.injEq, and_true] at e0 e1
      subst e0 e1
      exact ⟨⟨m0, m1⟩, rfl⟩
set_option maxRecDepth 100000 in
theorem open_rts {r : Reach} {b0 : Nat} {v : Value} {d : DataW H} {p : List MemPlace} (hv : Value.okWide Tryz.prog W r b0 33 v) (h : DataW.Trod enc Tryz.prog W base spare held 33 v d p) :
    ∃ (A : Option Addr) (c : Nat) (l : List Rt), v = .slice A l.length c ∧ l.length ≤ c ∧ Kd.C kRt W A l.length l := by
  obtain ⟨A, len, cap, rfl⟩ := okWide_slice Tryz.underlying33 hv
  obtain ⟨fuel, hf⟩ := h
  rcases DataW.trod_slice Tryz.underlying33 hf with ⟨hcs, _⟩ | ⟨a, len', cap', elems, rest, n, _, hcs, _, _, hl, hm, hlen, hel, _, _⟩
  · simp [Value.cells] at hcs
    obtain ⟨rfl, rfl, rfl⟩ := hcs
    exact ⟨none, 0, [], rfl, Nat.le_refl _, rfl, Nat.zero_le _, fun h => absurd h (Nat.lt_irrefl _)⟩
  · simp [Value.cells] at hcs
    obtain ⟨rfl, rfl, rfl⟩ := hcs
    have hx : ∀ i, ∃ z : Rt, i < len → ∀ j u, ([.string z.f0, .int .i64 z.f1] : List Value)[j]? = some u → W.cell? (a.add (i * 2 + j)) = some u := by
      intro i
      by_cases hi : i < len
      · have h1 := hel i hi
        rw [List.getElem?_eq_getElem (by omega), cellsRt, Option.bind_eq_some_iff] at h1
        obtain ⟨cs, hc, ht⟩ := h1
        obtain ⟨z, rfl⟩ := rt_cells ht
        obtain ⟨_, _, hcell⟩ := World.cells?_some hc
        refine ⟨z, fun _ j u hu => ?_⟩
        have hj : j < 2 := (List.getElem?_eq_some_iff.1 hu).1
        rw [← Addr.add_add, hcell j hj, hu]
      · exact ⟨⟨⟨#[]⟩, 0⟩, fun h => absurd h hi⟩
    obtain ⟨f, hf⟩ := Classical.axiomOfChoice hx
    refine ⟨some a, cap, (List.range len).map f, by simp, by simpa using hl, by simp, ?_, fun _ => ⟨a, rfl, fun j z hj => ?_⟩⟩
    · simp only [List.length_map, List.length_range]
      have : maxLen ≤ 9223372036854775807 := by decide
      omega
    · have hlt : j < len := by
        have := (List.getElem?_eq_some_iff.1 hj).1
        simpa using this
      have hz : f j = z := by
        rw [List.getElem?_map, List.getElem?_range hlt] at hj
        simpa using hj
      subst hz
      exact ⟨_, rfl, k35_mk W (f j), hf j hlt⟩
theorem arr2 {cs : Array Value} (h : cs.size = 2) : ∃ c0 c1, cs = #[c0, c1] := by
  obtain ⟨l⟩ := cs
  match l, h with
  | [c0, c1], _ => exact ⟨c0, c1, rfl⟩
set_option maxRecDepth 100000 in
theorem shut_rt (a : ByteArray) (n : Int) (s1 : a.size ≤ maxLen) (w1 : (Lit.int .i64 n).wf = true) :
    DataW.Trod enc Tryz.prog W base spare held 35 (.agg #[.string a, .int .i64 n]) (.agg [.lit (.string a.data.toList), .lit (.int .i64 n)]) [] := by
  refine ⟨2, ?_⟩
  simp [DataW.trod, Value.cells, Tryz.underlying35, Tryz.underlying3, Tryz.underlying9, cellsRt, cellsStr, cellsInt, w1, s1]
set_option maxRecDepth 100000 in
theorem open_rt {r : Reach} {b0 : Nat} {v : Value} {d : DataW H} {p : List MemPlace} (hv : Value.okWide Tryz.prog W r b0 35 v) (h : DataW.Trod enc Tryz.prog W base spare held 35 v d p) :
    ∃ (a : ByteArray) (n : Int), v = .agg #[.string a, .int .i64 n] ∧ d = .agg [.lit (.string a.data.toList), .lit (.int .i64 n)] ∧ p = [] ∧ a.size ≤ maxLen ∧ (Lit.int .i64 n).wf = true := by
  obtain ⟨cs, rfl, hsz⟩ := okWide_struct Tryz.underlying35 hv
  obtain ⟨c0, c1, rfl⟩ := arr2 (hsz.trans cellsRt)
  obtain ⟨fuel, hf⟩ := h
  obtain ⟨xs, n, _, hx, hl, hlen, hg⟩ := DataW.trod_struct Tryz.underlying35 hf
  match xs, hlen with
  | [y0, y1], _ =>
    simp only [Prod.mk.injEq] at hx
    obtain ⟨hd, hp⟩ := hx
    have g0 : DataW.trod enc Tryz.prog W base spare held n 9 [c0] = some y0 := by have := hg 0 _ rfl; simpa [Value.cells, cellsInt, cellsStr] using this
    have g1 : DataW.trod enc Tryz.prog W base spare held n 3 [c1] = some y1 := by have := hg 1 _ rfl; simpa [Value.cells, cellsInt, cellsStr] using this
    obtain ⟨m0, e0, x0, w0⟩ := DataW.trod_string Tryz.underlying9 g0
    obtain ⟨m1, e1, x1, w1⟩ := DataW.trod_int Tryz.underlying3 g1
    simp only [List.cons.injEq, and_true] at e0 e1
    subst e0 e1 x0 x1
    exact ⟨m0, m1, rfl, by rw [hd]; rfl, by rw [hp]; rfl, w0, w1⟩
theorem post_args {f : Func} {s : ChangeSpec} {W' : World} {args : Array Value} {v : Value} {ds : List (DataW H)} {before pa : List MemPlace} (hs : s.vars = [])
    (hW : DataW.Whole enc Tryz.prog f.params.toList s.vars false W args.toList ds [] before)
    (hres : DataW.TrodAll enc Tryz.prog W' W.heap.size (fun _ => false) false f.resultTypes.toList (v.resultList f.resultTypes.size) (s.fn H (ds ++ [])).results [])
    (hargs : DataW.TrodAll enc Tryz.prog W' 0 (fun b => decide (b < W.heap.size)) true f.params.toList args.toList (s.fn H (ds ++ [])).args pa)
    (hvars : (s.fn H (ds ++ [])).vars = []) (hb : Below W.heap.size W W') : s.post enc Tryz.prog f false true false false W args v W' := by
  refine ⟨ds, [], before, [], pa, [], hW, hres, hargs, ?_, hb.frame _, fun h => by cases h⟩
  · rw [hvars, hs]
    exact rfl
end
end Go.Proofs.YtaknknfcikdjiaaGreatDoor.Hand
end
section
namespace Go.Proofs.YtaknknfcikdjiaaGreatDoor.RK
open Go.Proofs.YtaknknfcikdjiaaGreatDoor.Hand
open Go.Proofs.YtaknknfcikdjiaaGreatDoor.SA
open Go.RowKit Go.Proofs.YtaknknfcikdjiaaGreatDoorW.PrintWords Go.Proofs.YtaknknfcikdjiaaGreatDoorW.PrintLast Go.Proofs.YtaknknfcikdjiaaGreatDoorW.PrintMore
attribute [local go_sem] max2_int min2_int max_two min_two max_three min_three max_four min_four
set_option linter.unusedVariables false
set_option linter.unusedSimpArgs false
def postriderlaw16_CutPolicy.l0 : Nat → List ByteArray → Int → Int → Int → List ByteArray → Bool → Option (Int × Int × List ByteArray × Bool)
  | 0, _, _, _, _, _, _ => none
  | k + 1, x3, x4, x114000, x114001, x114002, x114003 => if x4 < (x114002.length : Int) then (if x4 < 22 then (if 0 ≤ x4 then (if 0 ≤ (mn ((rdOf ByteArray.empty x114002 x4).size : Int) 61) then (if (mn ((rdOf ByteArray.empty x114002 x4).size : Int) 61) ≤ ((rdOf ByteArray.empty x114002 x4).size : Int) then (if x3.length < 8796093022208 then (postriderlaw16_CutPolicy.l0 k (x3 ++ [(rdOf ByteArray.empty x114002 x4).extract 0 ((mn ((rdOf ByteArray.empty x114002 x4).size : Int) 61) : Int).toNat]) (wrap64 (x4 + 1)) x114000 x114001 x114002 x114003) else (none)) else (none)) else (none)) else (none)) else (some (x114000, x114001, x3, x114003))) else (some (x114000, x114001, x3, x114003))
def postriderlaw16_CutPolicy.f (k : Nat) (a0_0 : Int) (a0_1 : Int) (l0_2 : List ByteArray) (a0_3 : Bool) : Option (Int × Int × List ByteArray × Bool) := postriderlaw16_CutPolicy.l0 k ([] : List ByteArray) 0 a0_0 a0_1 l0_2 a0_3
theorem postriderlaw16_CutPolicy.mono_l : ∀ k, (∀ y0 y1 y2 y3 y4 y5, LeO (postriderlaw16_CutPolicy.l0 k y0 y1 y2 y3 y4 y5) (postriderlaw16_CutPolicy.l0 (k + 1) y0 y1 y2 y3 y4 y5))
  | 0 => fun _ _ _ _ _ _ r h => by simp [postriderlaw16_CutPolicy.l0] at h
  | k + 1 => by
    have ih0 := postriderlaw16_CutPolicy.mono_l k
    · intro y0 y1 y2 y3 y4 y5
      unfold postriderlaw16_CutPolicy.l0
      repeat' first
      | (with_reducible exact ih0 _ _ _ _ _ _)
      | (with_reducible exact LeO.refl _)
      | (with_reducible exact LeO.none _)
      | (with_reducible refine LeO.ite ?_ ?_)
      | (with_reducible refine LeO.bind ?_ (fun _ => ?_))
      | exact ih0 _ _ _ _ _ _
      | exact LeO.none _
      | refine LeO.ite ?_ ?_
      | refine LeO.bind ?_ (fun _ => ?_)
theorem postriderlaw16_CutPolicy.mono : ∀ a0 a1 a2 a3 k, LeO (postriderlaw16_CutPolicy.f k a0 a1 a2 a3) (postriderlaw16_CutPolicy.f (k + 1) a0 a1 a2 a3) := by
  intro a0 a1 a2 a3 k
  have ih0 := postriderlaw16_CutPolicy.mono_l k
  unfold postriderlaw16_CutPolicy.f
  repeat' first
      | (with_reducible exact ih0 _ _ _ _ _ _)
      | (with_reducible exact LeO.refl _)
      | (with_reducible exact LeO.none _)
      | (with_reducible refine LeO.ite ?_ ?_)
      | (with_reducible refine LeO.bind ?_ (fun _ => ?_))
      | exact ih0 _ _ _ _ _ _
      | exact LeO.none _
      | refine LeO.ite ?_ ?_
      | refine LeO.bind ?_ (fun _ => ?_)
def postriderlaw16_CutPolicy.T5 : Bool × List (List Nat × List Nat) := (true, [([], []), ([], []), ([1], [1]), ([], []), ([2, 3], [2, 3]), ([4], [4]), ([], []), ([6], [6]), ([], []), ([7, 8], [7, 8]), ([9], [9]), ([10], [10]), ([11], [11]), ([5, 12], [5, 12]), ([13], [13]), ([0, 14], [0, 14]), ([15, 15, 0, 1, 2, 3, 4, 5, 6, 7, 8, 9, 10, 11, 12, 13, 14, 15], [0, 15])])
def postriderlaw16_CutPolicy.B5 : List Nat := [0, 0, 2, 0, 14, 30, 0, 64, 0, 448, 960, 1984, 4032, 8190, 16382, 32767, 65535]
theorem postriderlaw16_CutPolicy.tab5 : rtab .any (opsOf Tryz.f11 5) = postriderlaw16_CutPolicy.T5 := by kernel_rfl
theorem postriderlaw16_CutPolicy.bits5 : waitsOk postriderlaw16_CutPolicy.T5.2 postriderlaw16_CutPolicy.B5 = true := by kernel_rfl
set_option maxHeartbeats 8000000 in
set_option maxRecDepth 100000 in
theorem postriderlaw16_CutPolicy.calls (k : Nat) (a0_0 : Int) (a0_1 : Int) (A0_2 : Option Addr) (c0_2 : Nat) (l0_2 : List ByteArray) (a0_3 : Bool) (r1 : Int) (r2 : Int) (r3 : List ByteArray) (r4 : Bool) (w : World) (hr0_2 : Kd.C Kd.string w A0_2 l0_2.length l0_2) (hc0_2 : l0_2.length ≤ c0_2) (h : postriderlaw16_CutPolicy.f k a0_0 a0_1 l0_2 a0_3 = some (r1, r2, r3, r4)) :
    Calls Tryz.prog 11 #[.agg #[.int .i64 a0_0, .int .i64 a0_1, .slice A0_2 l0_2.length c0_2, .bool a0_3]] w fun e w' => ∃ v2_ : Value, e = .returned (.agg #[.int .i64 r1, .int .i64 r2, v2_, .bool r4]) ∧ Kd.R Kd.string 9 w' w.heap.size (fun _ => True) v2_ r3 ∧ Below w.heap.size w w' := by
  have hu24 := Tryz.underlying24
  have HR0_2 := Aside0.mk hr0_2
  have HC0_2 := Aside0.mk hc0_2
  clear hr0_2 hc0_2
  have HB := Aside0.mk (Below.refl w.heap.size w)
  have H : (postriderlaw16_CutPolicy.l0 k ([] : List ByteArray) 0 a0_0 a0_1 l0_2 a0_3) = some (r1, r2, r3, r4) := h
  clear h
  have H' := Aside0.mk H
  clear H
  go_enter Tryz.func11, Tryz.ntmps11
  go_wp2_with (first | ((with_reducible refine gate_dst (N := 1) rfl ?_); refine box_event ?hg (N := 1) ?hd (cs := #[.int .i64 a0_0, .int .i64 a0_1, .slice A0_2 l0_2.length c0_2, .bool a0_3]) (t := 24) ?hr ?_; (case hd => rfl); (case hg => rfl); (case hr => first | (go_simp; done) | (go_simp; rfl) | (go_simp; simp only [isEmpty_ne, isEmpty_eq]; done) | (go_simp; simp only [isEmpty_ne, isEmpty_eq]; rfl)); intro gb113 hg w2 hbox hb; have n0_ := Aside0.mk (below_step (by repeat (first | (with_reducible first | exact HB.out | apply below_alloc | apply pw_below_drewN | apply below_drew1) | exact HB.out)) hb); have n1_ := Aside0.mk (hbox); have n2_ := Aside0.mk ((by rw [hg]; exact (below_size (by repeat (first | (with_reducible first | exact HB.out | apply below_alloc | apply pw_below_drewN | apply below_drew1) | exact HB.out))) : w.heap.size ≤ gb113)); have n3_ := Aside0.mk ((by rw [hg]; exact (below_size (by repeat (first | (with_reducible first | exact HB.out | apply below_alloc | apply pw_below_drewN | apply below_drew1) | exact HB.out))) : w.heap.size ≤ gb113)); clear HB; have HB := n0_; have BK113 := n1_; have GW113 := n2_; have GE113 := n3_; clear n0_ n1_ n2_ n3_; clear hb hbox hg) | ((with_reducible refine gate_dst (N := 2) rfl ?_); refine box_event ?hg (N := 2) ?hd (cs := #[.int .i64 0, .int .i64 0, .slice none 0 0, .bool false]) (t := 24) ?hr ?_; (case hd => rfl); (case hg => rfl); (case hr => first | (go_simp; done) | (go_simp; rfl) | (go_simp; simp only [isEmpty_ne, isEmpty_eq]; done) | (go_simp; simp only [isEmpty_ne, isEmpty_eq]; rfl)); intro gb114 hg w3 hbox hb; have n0_ := Aside0.mk (blk_below (g := gb113) (o := .cells #[.int .i64 a0_0, .int .i64 a0_1, .slice A0_2 l0_2.length c0_2, .bool a0_3] 24 (0, 0)) (by (with_reducible repeat (first | refine blk_drewN ?_ _ | refine blk_drew ?_ | refine blk_alloc ?_ _)); exact BK113.out) hb); have n1_ := Aside0.mk (below_step (by repeat (first | (with_reducible first | exact HB.out | apply below_alloc | apply pw_below_drewN | apply below_drew1 | refine below_set ?_ GE113.out) | exact HB.out)) hb); have n2_ := Aside0.mk (hbox); have n3_ := Aside0.mk ((by rw [hg]; exact (below_size (by repeat (first | (with_reducible first | exact HB.out | apply below_alloc | apply pw_below_drewN | apply below_drew1 | refine below_set ?_ GE113.out) | exact HB.out))) : w.heap.size ≤ gb114)); have n4_ := Aside0.mk ((by rw [hg]; exact (below_size (by repeat (first | (with_reducible first | exact HB.out | apply below_alloc | apply pw_below_drewN | apply below_drew1 | refine below_set ?_ GE113.out) | exact HB.out))) : w.heap.size ≤ gb114)); have n5_ := Aside0.mk ((by rw [hg]; exact Nat.ne_of_lt (blk_lt (g := gb113) (o := .cells #[.int .i64 a0_0, .int .i64 a0_1, .slice A0_2 l0_2.length c0_2, .bool a0_3] 24 (0, 0)) (by (with_reducible repeat (first | refine blk_drewN ?_ _ | refine blk_drew ?_ | refine blk_alloc ?_ _)); exact BK113.out)) : gb113 ≠ gb114)); have n6_ := Aside0.mk ((by rw [hg]; exact Nat.ne_of_gt (blk_lt (g := gb113) (o := .cells #[.int .i64 a0_0, .int .i64 a0_1, .slice A0_2 l0_2.length c0_2, .bool a0_3] 24 (0, 0)) (by (with_reducible repeat (first | refine blk_drewN ?_ _ | refine blk_drew ?_ | refine blk_alloc ?_ _)); exact BK113.out)) : gb114 ≠ gb113)); clear BK113; clear HB; have BK113 := n0_; have HB := n1_; have BK114 := n2_; have GW114 := n3_; have GE114 := n4_; have NB113_114 := n5_; have NB114_113 := n6_; clear n0_ n1_ n2_ n3_ n4_ n5_ n6_; clear hb hbox hg))
  go_loopg [3, 4] k (fun kq v3 v4 w' => ∃ (x3_1 : List ByteArray) (x4_1 : Int), v4 = .int .i64 x4_1 ∧ Aside0 (postriderlaw16_CutPolicy.l0 kq x3_1 x4_1 a0_0 a0_1 l0_2 a0_3 = some (r1, r2, r3, r4)) ∧ Aside0 (kq ≤ k) ∧ Aside0 (Kd.R Kd.string 9 w' w.heap.size (fun _ => True) v3 x3_1) ∧ Aside0 (w'.heap[gb113]? = some (.cells #[.int .i64 a0_0, .int .i64 a0_1, (.slice A0_2 l0_2.length c0_2), .bool a0_3] 24 (0, 0))) ∧ Aside0 (w'.heap[gb114]? = some (.cells #[.int .i64 0, .int .i64 0, (.slice none 0 0), .bool false] 24 (0, 0))) ∧ Aside0 (Below w.heap.size w w'))
  case atStart => exact ⟨(([] : List ByteArray)), (0), (by first | rfl | (simp; done) | (simp [*]; done)), H', ⟨Nat.le_refl _⟩, ⟨by first | exact Kd.R_nil _ _ _ _ _ | exact Kd.N_nil _ _ _ _ _ | exact Kd.V_nil _ _ _ _ _ | exact Kd.Q_nil _ _ _ _ _ | exact Kd.S_nil _ _ _ _ _⟩, ⟨by (with_reducible repeat (first | refine blk_drewN ?_ _ | refine blk_drew ?_ | refine blk_alloc ?_ _)); exact BK113.out⟩, ⟨by (with_reducible repeat (first | refine blk_drewN ?_ _ | refine blk_drew ?_ | refine blk_alloc ?_ _)); exact BK114.out⟩, ⟨by repeat (first | (with_reducible first | exact HB.out | apply below_alloc | apply pw_below_drewN | apply below_drew1 | refine below_set ?_ GE113.out | refine below_set ?_ GE114.out) | exact HB.out)⟩⟩
  case round =>
    clear H'
    try clear c1
    try clear p2
    obtain ⟨x3_1, x4_1, rfl, HA, HK1, HO_3, BK113, BK114, HB⟩ := hrel
    cases gk with
    | zero => exact absurd HA.out (by simp [postriderlaw16_CutPolicy.l0])
    | succ k1 =>
      have H := HA.out
      clear HA
      simp only [postriderlaw16_CutPolicy.l0] at H
      by_cases c4 : x4_1 < (l0_2.length : Int)
      · rw [if_pos c4] at H
        have c4b0 : decide (x4_1 < (l0_2.length : Int)) = true := decide_eq_true c4
        clear c4
        by_cases c5 : x4_1 < 22
        · rw [if_pos c5] at H
          have c5b0 : decide (x4_1 < 22) = true := decide_eq_true c5
          clear c5
          by_cases c6 : 0 ≤ x4_1
          · rw [if_pos c6] at H
            have c6b0 : decide (0 ≤ x4_1) = true := decide_eq_true c6
            clear c6
            obtain ⟨ji7, hji7⟩ : ∃ j_ : Int, (mn ((rdOf ByteArray.empty l0_2 x4_1).size : Int) 61) = j_ := ⟨_, rfl⟩
            replace H : (if 0 ≤ (ji7) then (if (ji7) ≤ ((rdOf ByteArray.empty l0_2 x4_1).size : Int) then (if x3_1.length < 8796093022208 then (postriderlaw16_CutPolicy.l0 k1 (x3_1 ++ [(rdOf ByteArray.empty l0_2 x4_1).extract 0 ((ji7) : Int).toNat]) (wrap64 (x4_1 + 1)) a0_0 a0_1 l0_2 a0_3) else (none)) else (none)) else (none)) = some (r1, r2, r3, r4) := by first | (rw [hji7] at H; exact H) | (simp only [hji7] at H ⊢; exact H)
            have hji7_ : (if 61 < ((rdOf ByteArray.empty l0_2 x4_1).size : Int) then 61 else ((rdOf ByteArray.empty l0_2 x4_1).size : Int)) = ji7 := hji7
            by_cases c8 : 0 ≤ (ji7)
            · rw [if_pos c8] at H
              have c8b0 := eq_true c8
              have c8b1 : decide (0 ≤ (ji7)) = true := decide_eq_true c8
              clear c8
              by_cases c9 : (ji7) ≤ ((rdOf ByteArray.empty l0_2 x4_1).size : Int)
              · rw [if_pos c9] at H
                have c9b0 := eq_true c9
                have c9b1 : decide ((ji7) ≤ ((rdOf ByteArray.empty l0_2 x4_1).size : Int)) = true := decide_eq_true c9
                clear c9
                by_cases c10 : x3_1.length < 8796093022208
                · rw [if_pos c10] at H
                  have LMc10 := Aside0.mk c10
                  clear c10
                  obtain ⟨y117, hy117⟩ : ∃ y_ : List ByteArray, y_ = (x3_1 ++ [(rdOf ByteArray.empty l0_2 x4_1).extract 0 ((ji7) : Int).toNat]) := ⟨_, rfl⟩
                  replace H : (postriderlaw16_CutPolicy.l0 k1 y117 (wrap64 (x4_1 + 1)) a0_0 a0_1 l0_2 a0_3) = some (r1, r2, r3, r4) := by first | (rw [hy117]; with_reducible exact H) | (have H2_ := (Option.bind_some _ _).symm.trans H; rw [hy117]; with_reducible exact H2_) | (have H2_ := (Option.bind_some _ _).symm.trans H; with_reducible exact H2_) | with_reducible exact H | (rw [hy117]; exact H) | exact H
                  have Ny117 := Aside0.mk hy117
                  clear hy117
                  have H' := Aside0.mk H
                  clear H
                  have hnb11 := NB113_114.out
                  have hnc11 := NB114_113.out
                  have hcz12_0 : wr.cell? ⟨gb113, 0, none⟩ = some (.int .i64 a0_0) := (blk_cell BK113.out 0).trans rfl
                  have hcz12_1 : wr.cell? ⟨gb113, 1, none⟩ = some (.int .i64 a0_1) := (blk_cell BK113.out 1).trans rfl
                  have hcz12_2 : wr.cell? ⟨gb113, 2, none⟩ = some (.slice A0_2 l0_2.length c0_2) := (blk_cell BK113.out 2).trans rfl
                  have hcz12_3 : wr.cell? ⟨gb113, 3, none⟩ = some (.bool a0_3) := (blk_cell BK113.out 3).trans rfl
                  have hfz12_0 := blk_frozen BK113.out 0
                  have hfz12_1 := blk_frozen BK113.out 1
                  have hfz12_2 := blk_frozen BK113.out 2
                  have hfz12_3 := blk_frozen BK113.out 3
                  try go_wp2
                  have n0_ := Aside0.mk (Kd.R_drew HO_3.out)
                  have n1_ := Aside0.mk (blk_drew BK113.out)
                  have n2_ := Aside0.mk (blk_drew BK114.out)
                  have n3_ := Aside0.mk (below_drew1 HB.out)
                  clear HO_3
                  clear BK113
                  clear BK114
                  clear HB
                  have HO_3 := n0_
                  have BK113 := n1_
                  have BK114 := n2_
                  have HB := n3_
                  clear n0_ n1_ n2_ n3_
                  have p115 : 0 ≤ (x4_1 : Int) := of_decide_eq_true (by first | (with_reducible assumption) | assumption)
                  have q115 : x4_1 < (l0_2.length : Int) := of_decide_eq_true (by first | (with_reducible assumption) | assumption)
                  obtain ⟨ad115, e115, hx115_0⟩ := Kd.at_string HR0_2.out x4_1 p115 q115
                  have hw115_0 := hx115_0
                  cases e115
                  replace hx115_0 := (HB.out.cell (World.block_lt_of_cell? w _ hx115_0)).trans hx115_0
                  replace p115 := eq_true p115
                  replace q115 := eq_true q115
                  have p116 : 0 ≤ (x4_1 : Int) := of_decide_eq_true (by first | (with_reducible assumption) | assumption)
                  have q116 : x4_1 < (l0_2.length : Int) := of_decide_eq_true (by first | (with_reducible assumption) | assumption)
                  obtain ⟨ad116, e116, hx116_0⟩ := Kd.at_string HR0_2.out x4_1 p116 q116
                  have hw116_0 := hx116_0
                  obtain rfl : ad115 = ad116 := (by injection e116)
                  replace hx116_0 := (HB.out.cell (World.block_lt_of_cell? w _ hx116_0)).trans hx116_0
                  replace p116 := eq_true p116
                  replace q116 := eq_true q116
                  refine start_ (n := 17) (S := fun w' => w'.cell? ⟨gb113, 0, none⟩ = some (.int .i64 a0_0) ∧ w'.cell? ⟨gb113, 1, none⟩ = some (.int .i64 a0_1) ∧ w'.cell? ⟨gb113, 2, none⟩ = some (.slice (some ad115) l0_2.length c0_2) ∧ w'.cell? ⟨gb113, 3, none⟩ = some (.bool a0_3) ∧ w'.cell? (ad115.add (x4_1).toNat) = some (.string (rdOf ByteArray.empty l0_2 x4_1)) ∧ w'.cell? (ad115.add (x4_1).toNat) = some (.string (rdOf ByteArray.empty l0_2 x4_1))) (ds := []) #[false, false, false, false, false, false, false, false, false, false, false, false, false, false, false, false, false] (by kernel_rfl) rfl rfl ⟨(blk_cell BK113.out 0).trans rfl, (blk_cell BK113.out 1).trans rfl, (blk_cell BK113.out 2).trans rfl, (blk_cell BK113.out 3).trans rfl, ((HB.out.cell (World.block_lt_of_cell? w _ hw115_0)).trans hw115_0), ((HB.out.cell (World.block_lt_of_cell? w _ hw116_0)).trans hw116_0)⟩ (fun hHeld => ?_); refine with_tabW postriderlaw16_CutPolicy.tab5 postriderlaw16_CutPolicy.bits5 (fun HT_ HW_ => ?_)
                  generalize wr.drew = w13 at HO_3 BK113 BK114 HB hx115_0 hx116_0 hHeld ⊢
                  refine pure_ (i := 0) (N := some 16) (v := ?_) (a' := ?_) #[true, false, false, false, false, false, false, false, false, false, false, false, false, false, false, false, false] rfl rfl (any_of HT_.out (by kernel_rfl)) (fun _ _ _ h => h) (Or.inl ⟨by rfl, ?_⟩) ?_ ?_
                  rotate_left
                  · intro w'
                    go_simp
                    with_reducible rfl
                  rotate_left
                  · simp only [Act.put, List.setIfInBounds_toArray, List.set_cons_zero, List.set_cons_succ, i64_w, i32_w]
                    rfl
                  refine pure_ (i := 1) (N := some 17) (v := ?_) (a' := ?_) #[true, true, false, false, false, false, false, false, false, false, false, false, false, false, false, false, false] rfl rfl (any_of HT_.out (by kernel_rfl)) (fun _ _ _ h => h) (Or.inl ⟨by rfl, ?_⟩) ?_ ?_
                  rotate_left
                  · intro w'
                    go_simp
                    with_reducible rfl
                  rotate_left
                  · simp only [Act.put, List.setIfInBounds_toArray, List.set_cons_zero, List.set_cons_succ, i64_w, i32_w]
                    rfl
                  refine pure_ (i := 3) (N := some 19) (v := ?_) (a' := ?_) #[true, true, false, true, false, false, false, false, false, false, false, false, false, false, false, false, false] rfl rfl (any_of HT_.out (by kernel_rfl)) (fun _ _ _ h => h) (Or.inl ⟨by rfl, ?_⟩) ?_ ?_
                  rotate_left
                  · intro w'
                    go_simp
                    with_reducible rfl
                  rotate_left
                  · simp only [Act.put, List.setIfInBounds_toArray, List.set_cons_zero, List.set_cons_succ, i64_w, i32_w]
                    rfl
                  refine pure_ (i := 6) (N := some 22) (v := ?_) (a' := ?_) #[true, true, false, true, false, false, true, false, false, false, false, false, false, false, false, false, false] rfl rfl (any_of HT_.out (by kernel_rfl)) (fun _ _ _ h => h) (Or.inl ⟨by rfl, ?_⟩) ?_ ?_
                  rotate_left
                  · intro w'
                    go_simp
                    with_reducible rfl
                  rotate_left
                  · simp only [Act.put, List.setIfInBounds_toArray, List.set_cons_zero, List.set_cons_succ, i64_w, i32_w]
                    rfl
                  refine pure_ (i := 8) (N := some 24) (v := ?_) (a' := ?_) #[true, true, false, true, false, false, true, false, true, false, false, false, false, false, false, false, false] rfl rfl (any_of HT_.out (by kernel_rfl)) (fun _ _ _ h => h) (Or.inl ⟨by rfl, ?_⟩) ?_ ?_
                  rotate_left
                  · intro w'
                    go_simp
                    with_reducible rfl
                  rotate_left
                  · simp only [Act.put, List.setIfInBounds_toArray, List.set_cons_zero, List.set_cons_succ, i64_w, i32_w]
                    rfl
                  refine take_ (i := 2) (N := some 18) (v := ?_) (a' := ?_) #[true, true, true, true, false, false, true, false, true, false, false, false, false, false, false, false, false] rfl rfl (take_ofW HT_.out HW_.out (by kernel_rfl)) (fun _ _ _ h => h) (Or.inl ⟨by rfl, ?_⟩) hHeld ?_ ?_
                  rotate_left
                  · rintro w' ⟨s0, s1, s2, s3, s4, s5⟩
                    go_simp
                    with_reducible rfl
                  rotate_left
                  · simp only [Act.put, List.setIfInBounds_toArray, List.set_cons_zero, List.set_cons_succ, i64_w, i32_w]
                    rfl
                  refine pure_ (i := 4) (N := some 20) (v := ?_) (a' := ?_) #[true, true, true, true, true, false, true, false, true, false, false, false, false, false, false, false, false] rfl rfl (any_of HT_.out (by kernel_rfl)) (fun _ _ _ h => h) (Or.inl ⟨by rfl, ?_⟩) ?_ ?_
                  rotate_left
                  · intro w'
                    go_simp
                    with_reducible rfl
                  rotate_left
                  · simp only [Act.put, List.setIfInBounds_toArray, List.set_cons_zero, List.set_cons_succ, i64_w, i32_w]
                    rfl
                  refine take_ (i := 5) (N := some 21) (v := ?_) (a' := ?_) #[true, true, true, true, true, true, true, false, true, false, false, false, false, false, false, false, false] rfl rfl (take_ofW HT_.out HW_.out (by kernel_rfl)) (fun _ _ _ h => h) (Or.inl ⟨by rfl, ?_⟩) hHeld ?_ ?_
                  rotate_left
                  · rintro w' ⟨s0, s1, s2, s3, s4, s5⟩
                    go_simp
                    with_reducible rfl
                  rotate_left
                  · simp only [Act.put, List.setIfInBounds_toArray, List.set_cons_zero, List.set_cons_succ, i64_w, i32_w]
                    rfl
                  refine take_ (i := 7) (N := some 23) (v := ?_) (a' := ?_) #[true, true, true, true, true, true, true, true, true, false, false, false, false, false, false, false, false] rfl rfl (take_ofW HT_.out HW_.out (by kernel_rfl)) (fun _ _ _ h => h) (Or.inl ⟨by rfl, ?_⟩) hHeld ?_ ?_
                  rotate_left
                  · rintro w' ⟨s0, s1, s2, s3, s4, s5⟩
                    go_simp
                    with_reducible rfl
                  rotate_left
                  · simp only [Act.put, List.setIfInBounds_toArray, List.set_cons_zero, List.set_cons_succ, i64_w, i32_w]
                    rfl
                  refine pure_ (i := 9) (N := some 25) (v := ?_) (a' := ?_) #[true, true, true, true, true, true, true, true, true, true, false, false, false, false, false, false, false] rfl rfl (any_of HT_.out (by kernel_rfl)) (fun _ _ _ h => h) (Or.inl ⟨by rfl, ?_⟩) ?_ ?_
                  rotate_left
                  · intro w'
                    go_simp
                    with_reducible rfl
                  rotate_left
                  · simp only [Act.put, List.setIfInBounds_toArray, List.set_cons_zero, List.set_cons_succ, i64_w, i32_w]
                    rfl
                  refine take_ (i := 10) (N := some 26) (v := ?_) (a' := ?_) #[true, true, true, true, true, true, true, true, true, true, true, false, false, false, false, false, false] rfl rfl (take_ofW HT_.out HW_.out (by kernel_rfl)) (fun _ _ _ h => h) (Or.inl ⟨by rfl, ?_⟩) hHeld ?_ ?_
                  rotate_left
                  · rintro w' ⟨s0, s1, s2, s3, s4, s5⟩
                    go_simp
                    with_reducible rfl
                  rotate_left
                  · simp only [Act.put, List.setIfInBounds_toArray, List.set_cons_zero, List.set_cons_succ, i64_w, i32_w]
                    rfl
                  refine pure_ (i := 11) (N := some 27) (v := ?_) (a' := ?_) #[true, true, true, true, true, true, true, true, true, true, true, true, false, false, false, false, false] rfl rfl (any_of HT_.out (by kernel_rfl)) (fun _ _ _ h => h) (Or.inl ⟨by rfl, ?_⟩) ?_ ?_
                  rotate_left
                  · intro w'
                    go_simp
                    with_reducible rfl
                  rotate_left
                  · simp only [Act.put, List.setIfInBounds_toArray, List.set_cons_zero, List.set_cons_succ, i64_w, i32_w]
                    rfl
                  refine pure_ (i := 12) (N := some 28) (v := ?_) (a' := ?_) #[true, true, true, true, true, true, true, true, true, true, true, true, true, false, false, false, false] rfl rfl (any_of HT_.out (by kernel_rfl)) (fun _ _ _ h => h) (Or.inl ⟨by rfl, ?_⟩) ?_ ?_
                  rotate_left
                  · intro w'
                    go_simp
                    with_reducible rfl
                  rotate_left
                  · simp only [Act.put, List.setIfInBounds_toArray, List.set_cons_zero, List.set_cons_succ, i64_w, i32_w]
                    rfl
                  refine pure_ (i := 13) (N := some 29) (v := ?_) (a' := ?_) #[true, true, true, true, true, true, true, true, true, true, true, true, true, true, false, false, false] rfl rfl (any_of HT_.out (by kernel_rfl)) (fun _ _ _ h => h) (Or.inl ⟨by rfl, ?_⟩) ?_ ?_
                  rotate_left
                  · intro w'
                    go_simp
                    with_reducible rfl
                  rotate_left
                  · simp only [Act.put, List.setIfInBounds_toArray, List.set_cons_zero, List.set_cons_succ, i64_w, i32_w]
                    rfl
                  refine one_ (i := 14) (N := some 30) #[true, true, true, true, true, true, true, true, true, true, true, true, true, true, true, false, false] rfl rfl (one_of HT_.out (by kernel_rfl)) (by decide) (fun K hK => ?_)
                  refine value_ (w1 := ?_) (v := ?_) (by rfl) rfl ?_ ?_
                  rotate_left 2
                  · go_simp
                    constructor
                    · rfl
                    · rfl
                  refine hK.out _ _ ⟨(blk_cell (blk_alloc BK113.out _) 0).trans rfl, (blk_cell (blk_alloc BK113.out _) 1).trans rfl, (blk_cell (blk_alloc BK113.out _) 2).trans rfl, (blk_cell (blk_alloc BK113.out _) 3).trans rfl, (World.cell?_alloc_lt _ _ _ (World.block_lt_of_cell? _ _ (((HB.out.cell (World.block_lt_of_cell? w _ hw115_0)).trans hw115_0)))).trans (((HB.out.cell (World.block_lt_of_cell? w _ hw115_0)).trans hw115_0)), (World.cell?_alloc_lt _ _ _ (World.block_lt_of_cell? _ _ (((HB.out.cell (World.block_lt_of_cell? w _ hw116_0)).trans hw116_0)))).trans (((HB.out.cell (World.block_lt_of_cell? w _ hw116_0)).trans hw116_0))⟩ (fun hHeld => ?_)
                  clear hK K
                  refine norm_ (a' := ?_) ?_ ?_
                  rotate_left
                  · show Act.put _ (some 30) _ = _
                    simp only [Act.put, List.setIfInBounds_toArray, List.set_cons_zero, List.set_cons_succ, i64_w, i32_w]
                    rfl
                  refine one_ (i := 15) (N := some 31) #[true, true, true, true, true, true, true, true, true, true, true, true, true, true, true, true, false] rfl rfl (one_of HT_.out (by kernel_rfl)) (by decide) (fun K hK => ?_)
                  refine Kd.R_append_step Kd.string (w0 := w) w.heap.size (by rfl) (.tmp 16) (.tmp 30) 22 9 (.string ⟨#[]⟩) 16 rfl Tryz.underlying22 info9 rfl (by decide) (by omega) u3 x3_1 ((rdOf ByteArray.empty l0_2 x4_1).extract 0 ((ji7) : Int).toNat) [.string ((rdOf ByteArray.empty l0_2 x4_1).extract 0 ((ji7) : Int).toNat)] (fun _ => True) (fun _ => False) rfl rfl ?aP (fun _ hk => hk.elim) ?aF ?aO ?aB ?aS ?aL ?_
                  (case aP => exact rfl)
                  (case aB => exact (by repeat (first | (with_reducible first | exact HB.out | apply below_alloc | apply pw_below_drewN | apply below_drew1 | refine below_set ?_ GE113.out | refine below_set ?_ GE114.out) | exact HB.out)))
                  (case aF => exact (fun _ _ => trivial))
                  (case aO => exact (by (with_reducible repeat (first | apply Kd.R_alloc | apply Kd.R_drewN | apply Kd.R_drew)); exact HO_3.out))
                  (case aS => exact (below_size (by repeat (first | (with_reducible first | exact HB.out | apply below_alloc | apply pw_below_drewN | apply below_drew1 | refine below_set ?_ GE113.out | refine below_set ?_ GE114.out) | exact HB.out))))
                  (case aL => have := LMc10.out; omega)
                  intro v118 w14 ho hb hg hat
                  rw [← Ny117.out] at ho
                  have n0_ := Aside0.mk (blk_grown (g := gb113) (o := .cells #[.int .i64 a0_0, .int .i64 a0_1, .slice (some ad115) l0_2.length c0_2, .bool a0_3] 24 (0, 0)) (by (with_reducible repeat (first | refine blk_drewN ?_ _ | refine blk_drew ?_ | refine blk_alloc ?_ _)); exact BK113.out) hg (Kd.R_ne HO_3.out BK113.out (by decide)))
                  have n1_ := Aside0.mk (blk_grown (g := gb114) (o := .cells #[.int .i64 0, .int .i64 0, .slice none 0 0, .bool false] 24 (0, 0)) (by (with_reducible repeat (first | refine blk_drewN ?_ _ | refine blk_drew ?_ | refine blk_alloc ?_ _)); exact BK114.out) hg (Kd.R_ne HO_3.out BK114.out (by decide)))
                  have n2_ := Aside0.mk (hb)
                  have n3_ := Aside0.mk (ho)
                  clear BK113
                  clear BK114
                  clear HB
                  clear HO_3
                  have BK113 := n0_
                  have BK114 := n1_
                  have HB := n2_
                  have HO119 := n3_
                  clear n0_ n1_ n2_ n3_
                  clear ho hb hg hat
                  refine hK.out _ _ ⟨(blk_cell BK113.out 0).trans rfl, (blk_cell BK113.out 1).trans rfl, (blk_cell BK113.out 2).trans rfl, (blk_cell BK113.out 3).trans rfl, ((HB.out.cell (World.block_lt_of_cell? w _ hw115_0)).trans hw115_0), ((HB.out.cell (World.block_lt_of_cell? w _ hw116_0)).trans hw116_0)⟩ (fun hHeld => ?_)
                  clear hK K
                  refine norm_ (a' := ?_) ?_ ?_
                  rotate_left
                  · show Act.put _ (some 31) _ = _
                    simp only [Act.put, List.setIfInBounds_toArray, List.set_cons_zero, List.set_cons_succ, i64_w, i32_w]
                    rfl
                  refine pure_ (i := 16) (N := some 3) (v := ?_) (a' := ?_) #[true, true, true, true, true, true, true, true, true, true, true, true, true, true, true, true, true] rfl rfl (any_of HT_.out (by kernel_rfl)) (fun _ _ _ h => h) (Or.inl ⟨by rfl, ?_⟩) ?_ ?_
                  rotate_left
                  · intro w'
                    go_simp
                    with_reducible rfl
                  rotate_left
                  · simp only [Act.put, List.setIfInBounds_toArray, List.set_cons_zero, List.set_cons_succ, i64_w, i32_w]
                    rfl
                  refine done_ (done_of HT_.out (by kernel_rfl)) ?_
                  try go_wp2
                  go_roundg k1
                  case measure => have := HK1.out; omega
                  case rel => exact ⟨(y117), (wrap64 (x4_1 + 1)), (by first | rfl | (simp; done) | (simp [*]; done)), H', ⟨by have := HK1.out; omega⟩, ⟨by (with_reducible repeat (first | apply Kd.R_alloc | apply Kd.R_drewN | apply Kd.R_drew)); exact HO119.out⟩, ⟨by (with_reducible repeat (first | refine blk_drewN ?_ _ | refine blk_drew ?_ | refine blk_alloc ?_ _)); exact BK113.out⟩, ⟨by (with_reducible repeat (first | refine blk_drewN ?_ _ | refine blk_drew ?_ | refine blk_alloc ?_ _)); exact BK114.out⟩, ⟨by repeat (first | (with_reducible first | exact HB.out | apply below_alloc | apply pw_below_drewN | apply below_drew1 | refine below_set ?_ GE113.out | refine below_set ?_ GE114.out) | exact HB.out)⟩⟩
                · rw [if_neg c10] at H
                  exact absurd H (by simp)
              · rw [if_neg c9] at H
                exact absurd H (by simp)
            · rw [if_neg c8] at H
              exact absurd H (by simp)
          · rw [if_neg c6] at H
            exact absurd H (by simp)
        · rw [if_neg c5] at H
          have c5b0 : decide (x4_1 < 22) = false := decide_eq_false c5
          clear c5
          simp only [Option.some.injEq, Prod.mk.injEq] at H
          obtain ⟨rfl, rfl, rfl, rfl⟩ := H
          have hnb15 := NB113_114.out
          have hnc15 := NB114_113.out
          have hcz16_0 : wr.cell? ⟨gb113, 0, none⟩ = some (.int .i64 a0_0) := (blk_cell BK113.out 0).trans rfl
          have hcz16_1 : wr.cell? ⟨gb113, 1, none⟩ = some (.int .i64 a0_1) := (blk_cell BK113.out 1).trans rfl
          have hcz16_2 : wr.cell? ⟨gb113, 2, none⟩ = some (.slice A0_2 l0_2.length c0_2) := (blk_cell BK113.out 2).trans rfl
          have hcz16_3 : wr.cell? ⟨gb113, 3, none⟩ = some (.bool a0_3) := (blk_cell BK113.out 3).trans rfl
          have hfz16_0 := blk_frozen BK113.out 0
          have hfz16_1 := blk_frozen BK113.out 1
          have hfz16_2 := blk_frozen BK113.out 2
          have hfz16_3 := blk_frozen BK113.out 3
          obtain ⟨Ao17, co17, eo17⟩ := Kd.R_slice HO_3.out
          subst eo17
          have hcz18_0 : wr.cell? ⟨gb114, 0, none⟩ = some (.int .i64 0) := (blk_cell BK114.out 0).trans rfl
          have hcz18_1 : wr.cell? ⟨gb114, 1, none⟩ = some (.int .i64 0) := (blk_cell BK114.out 1).trans rfl
          have hcz18_2 : wr.cell? ⟨gb114, 2, none⟩ = some (.slice none 0 0) := (blk_cell BK114.out 2).trans rfl
          have hcz18_3 : wr.cell? ⟨gb114, 3, none⟩ = some (.bool false) := (blk_cell BK114.out 3).trans rfl
          have hfz18_0 := blk_frozen BK114.out 0
          have hfz18_1 := blk_frozen BK114.out 1
          have hfz18_2 := blk_frozen BK114.out 2
          have hfz18_3 := blk_frozen BK114.out 3
          go_wp2
          refine bodyPost_ret (results_cell_row rfl _ _ gb114 24 #[.int .i64 a0_0, .int .i64 a0_1, .slice Ao17 x3_1.length co17, .bool a0_3] (0, 0) _ rfl (by (with_reducible repeat (first | refine blk_drewN ?_ _ | refine blk_drew ?_ | refine blk_alloc ?_ _)); refine blk_put (cs := #[.int .i64 a0_0, .int .i64 a0_1, .slice Ao17 x3_1.length co17, .bool false]) ?_ 3 _ rfl; (with_reducible repeat (first | refine blk_drewN ?_ _ | refine blk_drew ?_ | refine blk_alloc ?_ _)); refine blk_put (cs := #[.int .i64 a0_0, .int .i64 a0_1, .slice none 0 0, .bool false]) ?_ 2 _ rfl; (with_reducible repeat (first | refine blk_drewN ?_ _ | refine blk_drew ?_ | refine blk_alloc ?_ _)); refine blk_put (cs := #[.int .i64 a0_0, .int .i64 0, .slice none 0 0, .bool false]) ?_ 1 _ rfl; (with_reducible repeat (first | refine blk_drewN ?_ _ | refine blk_drew ?_ | refine blk_alloc ?_ _)); refine blk_put (cs := #[.int .i64 0, .int .i64 0, .slice none 0 0, .bool false]) ?_ 0 _ rfl; (with_reducible repeat (first | refine blk_drewN ?_ _ | refine blk_drew ?_ | refine blk_alloc ?_ _)); refine blk_far ?_ NB114_113.out _; (with_reducible repeat (first | refine blk_drewN ?_ _ | refine blk_drew ?_ | refine blk_alloc ?_ _)); exact BK114.out) Tryz.underlying24 rfl (by kernel_rfl)) rfl ?_
          exact ⟨_, by first | rfl | (simp [errW_none, errW_some] <;> rfl) | (simp [*, errW_none, errW_some] <;> rfl), by (with_reducible repeat (first | apply Kd.R_alloc | apply Kd.R_drewN | apply Kd.R_drew)); exact Kd.R_mono (Kd.R_far (p := ⟨gb114, 3, none⟩) (Kd.R_far (p := ⟨gb114, 2, none⟩) (Kd.R_far (p := ⟨gb114, 1, none⟩) (Kd.R_far (p := ⟨gb114, 0, none⟩) (Kd.R_far (p := ⟨gb113, 2, none⟩) (Kd.R_types (Kd.R_types HO_3.out BK113.out (by decide)) BK114.out (by decide)) (fun _ hk => hk.1.2) (.slice Ao17 x3_1.length co17)) (fun _ hk => hk.2) (.int .i64 a0_0)) (fun _ hk => hk.2) (.int .i64 a0_1)) (fun _ hk => hk.2) (.slice Ao17 x3_1.length co17)) (fun _ hk => hk.2) (.bool a0_3)) (fun _ hk => trivial), by repeat (first | (with_reducible first | exact HB.out | apply below_alloc | apply pw_below_drewN | apply below_drew1 | refine below_set ?_ GE113.out | refine below_set ?_ GE114.out) | exact HB.out)⟩
      · rw [if_neg c4] at H
        have c4b0 : decide (x4_1 < (l0_2.length : Int)) = false := decide_eq_false c4
        clear c4
        simp only [Option.some.injEq, Prod.mk.injEq] at H
        obtain ⟨rfl, rfl, rfl, rfl⟩ := H
        have hnb19 := NB113_114.out
        have hnc19 := NB114_113.out
        have hcz20_0 : wr.cell? ⟨gb113, 0, none⟩ = some (.int .i64 a0_0) := (blk_cell BK113.out 0).trans rfl
        have hcz20_1 : wr.cell? ⟨gb113, 1, none⟩ = some (.int .i64 a0_1) := (blk_cell BK113.out 1).trans rfl
        have hcz20_2 : wr.cell? ⟨gb113, 2, none⟩ = some (.slice A0_2 l0_2.length c0_2) := (blk_cell BK113.out 2).trans rfl
        have hcz20_3 : wr.cell? ⟨gb113, 3, none⟩ = some (.bool a0_3) := (blk_cell BK113.out 3).trans rfl
        have hfz20_0 := blk_frozen BK113.out 0
        have hfz20_1 := blk_frozen BK113.out 1
        have hfz20_2 := blk_frozen BK113.out 2
        have hfz20_3 := blk_frozen BK113.out 3
        obtain ⟨Ao21, co21, eo21⟩ := Kd.R_slice HO_3.out
        subst eo21
        have hcz22_0 : wr.cell? ⟨gb114, 0, none⟩ = some (.int .i64 0) := (blk_cell BK114.out 0).trans rfl
        have hcz22_1 : wr.cell? ⟨gb114, 1, none⟩ = some (.int .i64 0) := (blk_cell BK114.out 1).trans rfl
        have hcz22_2 : wr.cell? ⟨gb114, 2, none⟩ = some (.slice none 0 0) := (blk_cell BK114.out 2).trans rfl
        have hcz22_3 : wr.cell? ⟨gb114, 3, none⟩ = some (.bool false) := (blk_cell BK114.out 3).trans rfl
        have hfz22_0 := blk_frozen BK114.out 0
        have hfz22_1 := blk_frozen BK114.out 1
        have hfz22_2 := blk_frozen BK114.out 2
        have hfz22_3 := blk_frozen BK114.out 3
        go_wp2
        refine bodyPost_ret (results_cell_row rfl _ _ gb114 24 #[.int .i64 a0_0, .int .i64 a0_1, .slice Ao21 x3_1.length co21, .bool a0_3] (0, 0) _ rfl (by (with_reducible repeat (first | refine blk_drewN ?_ _ | refine blk_drew ?_ | refine blk_alloc ?_ _)); refine blk_put (cs := #[.int .i64 a0_0, .int .i64 a0_1, .slice Ao21 x3_1.length co21, .bool false]) ?_ 3 _ rfl; (with_reducible repeat (first | refine blk_drewN ?_ _ | refine blk_drew ?_ | refine blk_alloc ?_ _)); refine blk_put (cs := #[.int .i64 a0_0, .int .i64 a0_1, .slice none 0 0, .bool false]) ?_ 2 _ rfl; (with_reducible repeat (first | refine blk_drewN ?_ _ | refine blk_drew ?_ | refine blk_alloc ?_ _)); refine blk_put (cs := #[.int .i64 a0_0, .int .i64 0, .slice none 0 0, .bool false]) ?_ 1 _ rfl; (with_reducible repeat (first | refine blk_drewN ?_ _ | refine blk_drew ?_ | refine blk_alloc ?_ _)); refine blk_put (cs := #[.int .i64 0, .int .i64 0, .slice none 0 0, .bool false]) ?_ 0 _ rfl; (with_reducible repeat (first | refine blk_drewN ?_ _ | refine blk_drew ?_ | refine blk_alloc ?_ _)); refine blk_far ?_ NB114_113.out _; (with_reducible repeat (first | refine blk_drewN ?_ _ | refine blk_drew ?_ | refine blk_alloc ?_ _)); exact BK114.out) Tryz.underlying24 rfl (by kernel_rfl)) rfl ?_
        exact ⟨_, by first | rfl | (simp [errW_none, errW_some] <;> rfl) | (simp [*, errW_none, errW_some] <;> rfl), by (with_reducible repeat (first | apply Kd.R_alloc | apply Kd.R_drewN | apply Kd.R_drew)); exact Kd.R_mono (Kd.R_far (p := ⟨gb114, 3, none⟩) (Kd.R_far (p := ⟨gb114, 2, none⟩) (Kd.R_far (p := ⟨gb114, 1, none⟩) (Kd.R_far (p := ⟨gb114, 0, none⟩) (Kd.R_far (p := ⟨gb113, 2, none⟩) (Kd.R_types (Kd.R_types HO_3.out BK113.out (by decide)) BK114.out (by decide)) (fun _ hk => hk.1.2) (.slice Ao21 x3_1.length co21)) (fun _ hk => hk.2) (.int .i64 a0_0)) (fun _ hk => hk.2) (.int .i64 a0_1)) (fun _ hk => hk.2) (.slice Ao21 x3_1.length co21)) (fun _ hk => hk.2) (.bool a0_3)) (fun _ hk => trivial), by repeat (first | (with_reducible first | exact HB.out | apply below_alloc | apply pw_below_drewN | apply below_drew1 | refine below_set ?_ GE113.out | refine below_set ?_ GE114.out) | exact HB.out)⟩
def postriderlaw07_Few.l0 : Nat → List (S37) → List (S37) → Int → Option ((List (S37)))
  | 0, _, _, _ => none
  | k + 1, x0, x3, x4 => if x4 < (x0.length : Int) then (if x4 < 32 then (if 0 ≤ x4 then ((postriderlaw06_Cut.f ((rd_T37 x0 x4).f0) ((rd_T37 x0 x4).f1) ((rd_T37 x0 x4).f2) ((rd_T37 x0 x4).f3) ((rd_T37 x0 x4).f4)).bind fun bt121 => (if x3.length < 2513169434916 then (postriderlaw07_Few.l0 k x0 (x3 ++ [(⟨bt121.1, bt121.2.1, bt121.2.2.1, bt121.2.2.2.1, bt121.2.2.2.2⟩ : S37)]) (wrap64 (x4 + 1))) else (none))) else (none)) else (some x3)) else (some x3)
def postriderlaw07_Few.f (k : Nat) (l0 : List (S37)) : Option ((List (S37))) := postriderlaw07_Few.l0 k l0 ([] : List (S37)) 0
theorem postriderlaw07_Few.mono_l : ∀ k, (∀ y0 y1 y2, LeO (postriderlaw07_Few.l0 k y0 y1 y2) (postriderlaw07_Few.l0 (k + 1) y0 y1 y2))
  | 0 => fun _ _ _ r h => by simp [postriderlaw07_Few.l0] at h
  | k + 1 => by
    have ih0 := postriderlaw07_Few.mono_l k
    · intro y0 y1 y2
      unfold postriderlaw07_Few.l0
      repeat' first
      | (with_reducible exact ih0 _ _ _)
      | (with_reducible exact LeO.refl _)
      | (with_reducible exact LeO.none _)
      | (with_reducible refine LeO.ite ?_ ?_)
      | (with_reducible refine LeO.bind ?_ (fun _ => ?_))
      | exact ih0 _ _ _
      | exact LeO.none _
      | refine LeO.ite ?_ ?_
      | refine LeO.bind ?_ (fun _ => ?_)
theorem postriderlaw07_Few.mono : ∀ a0 k, LeO (postriderlaw07_Few.f k a0) (postriderlaw07_Few.f (k + 1) a0) := by
  intro a0 k
  have ih0 := postriderlaw07_Few.mono_l k
  unfold postriderlaw07_Few.f
  repeat' first
      | (with_reducible exact ih0 _ _ _)
      | (with_reducible exact LeO.refl _)
      | (with_reducible exact LeO.none _)
      | (with_reducible refine LeO.ite ?_ ?_)
      | (with_reducible refine LeO.bind ?_ (fun _ => ?_))
      | exact ih0 _ _ _
      | exact LeO.none _
      | refine LeO.ite ?_ ?_
      | refine LeO.bind ?_ (fun _ => ?_)
set_option maxHeartbeats 8000000 in
set_option maxRecDepth 100000 in
theorem postriderlaw07_Few.calls (k : Nat) (A0 : Option Addr) (c0 : Nat) (l0 : List (S37)) (r : List (S37)) (w : World) (hr0 : Kd.C k37 w A0 l0.length l0) (hc0 : l0.length ≤ c0) (h : postriderlaw07_Few.f k l0 = some r) :
    Calls Tryz.prog 12 #[.slice A0 l0.length c0] w fun e w' => ∃ v0_ : Value, e = .returned (v0_) ∧ Kd.R k37 37 w' w.heap.size (fun _ => True) v0_ r ∧ Below w.heap.size w w' := by
  have hu37 := Tryz.underlying37
  have HR0 := Aside0.mk hr0
  have HC0 := Aside0.mk hc0
  clear hr0 hc0
  have HB := Aside0.mk (Below.refl w.heap.size w)
  have H : (postriderlaw07_Few.l0 k l0 ([] : List (S37)) 0) = some r := h
  clear h
  have H' := Aside0.mk H
  clear H
  go_enter Tryz.func12, Tryz.ntmps12
  go_wp2
  go_loopg [3, 4] k (fun kq v3 v4 w' => ∃ (x3_1 : List (S37)) (x4_1 : Int), v4 = .int .i64 x4_1 ∧ Aside0 (postriderlaw07_Few.l0 kq l0 x3_1 x4_1 = some r) ∧ Aside0 (kq ≤ k) ∧ Aside0 (Kd.R k37 37 w' w.heap.size (fun _ => True) v3 x3_1) ∧ Aside0 (Below w.heap.size w w'))
  case atStart => exact ⟨(([] : List (S37))), (0), (by first | rfl | (simp; done) | (simp [*]; done)), H', ⟨Nat.le_refl _⟩, ⟨by first | exact Kd.R_nil _ _ _ _ _ | exact Kd.N_nil _ _ _ _ _ | exact Kd.V_nil _ _ _ _ _ | exact Kd.Q_nil _ _ _ _ _ | exact Kd.S_nil _ _ _ _ _⟩, ⟨by repeat (first | (with_reducible first | exact HB.out | apply below_alloc | apply pw_below_drewN | apply below_drew1) | exact HB.out)⟩⟩
  case round =>
    clear H'
    try clear c1
    obtain ⟨x3_1, x4_1, rfl, HA, HK1, HO_3, HB⟩ := hrel
    cases gk with
    | zero => exact absurd HA.out (by simp [postriderlaw07_Few.l0])
    | succ k1 =>
      have H := HA.out
      clear HA
      simp only [postriderlaw07_Few.l0] at H
      by_cases c2 : x4_1 < (l0.length : Int)
      · rw [if_pos c2] at H
        have c2b0 : decide (x4_1 < (l0.length : Int)) = true := decide_eq_true c2
        clear c2
        by_cases c3 : x4_1 < 32
        · rw [if_pos c3] at H
          have c3b0 : decide (x4_1 < 32) = true := decide_eq_true c3
          clear c3
          by_cases c4 : 0 ≤ x4_1
          · rw [if_pos c4] at H
            have c4b0 : decide (0 ≤ x4_1) = true := decide_eq_true c4
            clear c4
            replace H := Option.bind_eq_some_iff.mp H
            obtain ⟨⟨t121, t122, t123, t124, t125⟩, A50, H⟩ := H
            replace H : (if x3_1.length < 2513169434916 then (postriderlaw07_Few.l0 k1 l0 (x3_1 ++ [(⟨t121, t122, t123, t124, t125⟩ : S37)]) (wrap64 (x4_1 + 1))) else (none)) = some r := H
            have A5 := Aside0.mk A50
            clear A50
            by_cases c6 : x3_1.length < 2513169434916
            · rw [if_pos c6] at H
              have LMc6 := Aside0.mk c6
              clear c6
              obtain ⟨y126, hy126⟩ : ∃ y_ : List (S37), y_ = (x3_1 ++ [(⟨t121, t122, t123, t124, t125⟩ : S37)]) := ⟨_, rfl⟩
              replace H : (postriderlaw07_Few.l0 k1 l0 y126 (wrap64 (x4_1 + 1))) = some r := by first | (rw [hy126]; with_reducible exact H) | (have H2_ := (Option.bind_some _ _).symm.trans H; rw [hy126]; with_reducible exact H2_) | (have H2_ := (Option.bind_some _ _).symm.trans H; with_reducible exact H2_) | with_reducible exact H | (rw [hy126]; exact H) | exact H
              have Ny126 := Aside0.mk hy126
              clear hy126
              have H' := Aside0.mk H
              clear H
              have p120 : 0 ≤ (x4_1 : Int) := of_decide_eq_true (by first | (with_reducible assumption) | assumption)
              have q120 : x4_1 < (l0.length : Int) := of_decide_eq_true (by first | (with_reducible assumption) | assumption)
              obtain ⟨ad120, e120, hx120_0, hx120_1, hx120_2, hx120_3, hx120_4⟩ := at_T37 HR0.out x4_1 p120 q120
              cases e120
              replace hx120_0 := (HB.out.cell (World.block_lt_of_cell? w _ hx120_0)).trans hx120_0
              replace hx120_1 := (HB.out.cell (World.block_lt_of_cell? w _ hx120_1)).trans hx120_1
              replace hx120_2 := (HB.out.cell (World.block_lt_of_cell? w _ hx120_2)).trans hx120_2
              replace hx120_3 := (HB.out.cell (World.block_lt_of_cell? w _ hx120_3)).trans hx120_3
              replace hx120_4 := (HB.out.cell (World.block_lt_of_cell? w _ hx120_4)).trans hx120_4
              replace p120 := eq_true p120
              replace q120 := eq_true q120
              go_wp2_with (first | ((with_reducible refine gate_callee (f := 18) rfl ?_); refine goesL_ (some 20) rfl rfl Tryz.func18 (by kernel_rfl) rfl #[.agg #[.int .i64 ((rd_T37 l0 x4_1).f0), .string ((rd_T37 l0 x4_1).f1), .string ((rd_T37 l0 x4_1).f2), .int .i64 ((rd_T37 l0 x4_1).f3), .int .i64 ((rd_T37 l0 x4_1).f4)]] rfl (by (try simp only [List.map_toArray, List.map_cons, List.map_nil]); first | done | rfl | (simp only [List.length_drop, List.length_take]; rfl)) ?_; (with_reducible refine (postriderlaw06_Cut.calls ((rd_T37 l0 x4_1).f0) ((rd_T37 l0 x4_1).f1) ((rd_T37 l0 x4_1).f2) ((rd_T37 l0 x4_1).f3) ((rd_T37 l0 x4_1).f4) t121 t122 t123 t124 t125 _ A5.out).mono ?_); rintro e w7 ⟨rfl, hb⟩; refine ⟨_, rfl, ?_⟩; have n0_ := Aside0.mk (Kd.R_below (by (with_reducible repeat (first | apply Kd.R_alloc | apply Kd.R_drewN | apply Kd.R_drew)); exact HO_3.out) hb); have n1_ := Aside0.mk (below_step (by repeat (first | (with_reducible first | exact HB.out | apply below_alloc | apply pw_below_drewN | apply below_drew1) | exact HB.out)) hb); clear HO_3; clear HB; have HO_3 := n0_; have HB := n1_; clear n0_ n1_; (try clear hb); (try clear hb2); (try clear hk); (try clear hi)) | ((with_reducible refine gate_builtin (b := .append) (xs := #[.tmp 15, .tmp 21]) rfl ?_); at_builtin; refine Kd.R_append k37 (w0 := w) w.heap.size rfl (.tmp 15) (.tmp 21) 25 37 (.agg #[(.int .i64 0), (.string ⟨#[]⟩), (.string ⟨#[]⟩), (.int .i64 0), (.int .i64 0)]) 56 rfl Tryz.underlying25 info37 rfl (by decide) (by omega) u3 x3_1 (⟨t121, t122, t123, t124, t125⟩ : S37) [.int .i64 t121, .string t122, .string t123, .int .i64 t124, .int .i64 t125] (fun _ => True) (fun _ => False) rfl rfl ?aP (fun _ hk => hk.elim) ?aF ?aO ?aB ?aS ?aL ?_; (case aP => exact k37_mkM _ _ _ (⟨t121, t122, t123, t124, t125⟩ : S37)); (case aB => exact (by repeat (first | (with_reducible first | exact HB.out | apply below_alloc | apply pw_below_drewN | apply below_drew1) | exact HB.out))); (case aF => exact (fun _ _ => trivial)); (case aO => exact (by (with_reducible repeat (first | apply Kd.R_alloc | apply Kd.R_drewN | apply Kd.R_drew)); exact HO_3.out)); (case aS => exact (below_size (by repeat (first | (with_reducible first | exact HB.out | apply below_alloc | apply pw_below_drewN | apply below_drew1) | exact HB.out)))); (case aL => have := LMc6.out; omega); intro v127 w8 ho hb hg hat; rw [← Ny126.out] at ho; have n0_ := Aside0.mk (hb); have n1_ := Aside0.mk (ho); clear HB; clear HO_3; have HB := n0_; have HO128 := n1_; clear n0_ n1_; clear ho hb hg hat))
              go_roundg k1
              case measure => have := HK1.out; omega
              case rel => exact ⟨(y126), (wrap64 (x4_1 + 1)), (by first | rfl | (simp; done) | (simp [*]; done)), H', ⟨by have := HK1.out; omega⟩, ⟨by (with_reducible repeat (first | apply Kd.R_alloc | apply Kd.R_drewN | apply Kd.R_drew)); exact HO128.out⟩, ⟨by repeat (first | (with_reducible first | exact HB.out | apply below_alloc | apply pw_below_drewN | apply below_drew1) | exact HB.out)⟩⟩
            · rw [if_neg c6] at H
              exact absurd H (by simp)
          · rw [if_neg c4] at H
            exact absurd H (by simp)
        · rw [if_neg c3] at H
          have c3b0 : decide (x4_1 < 32) = false := decide_eq_false c3
          clear c3
          obtain rfl := Option.some.inj H
          go_wp2
          go_ret
          exact ⟨_, by first | rfl | (simp [errW_none, errW_some] <;> rfl) | (simp [*, errW_none, errW_some] <;> rfl), by (with_reducible repeat (first | apply Kd.R_alloc | apply Kd.R_drewN | apply Kd.R_drew)); exact HO_3.out, by repeat (first | (with_reducible first | exact HB.out | apply below_alloc | apply pw_below_drewN | apply below_drew1) | exact HB.out)⟩
      · rw [if_neg c2] at H
        have c2b0 : decide (x4_1 < (l0.length : Int)) = false := decide_eq_false c2
        clear c2
        obtain rfl := Option.some.inj H
        go_wp2
        go_ret
        exact ⟨_, by first | rfl | (simp [errW_none, errW_some] <;> rfl) | (simp [*, errW_none, errW_some] <;> rfl), by (with_reducible repeat (first | apply Kd.R_alloc | apply Kd.R_drewN | apply Kd.R_drew)); exact HO_3.out, by repeat (first | (with_reducible first | exact HB.out | apply below_alloc | apply pw_below_drewN | apply below_drew1) | exact HB.out)⟩
def postriderref02_Ints.l0 : Nat → List Int → List Int → Int → Option (Bool)
  | 0, _, _, _ => none
  | k + 1, x0, x1, x5 => if x5 < (x0.length : Int) then (if 0 ≤ x5 then (if x5 < (x1.length : Int) then (if (rd x0 x5) = (rd x1 x5) then (postriderref02_Ints.l0 k x0 x1 (wrap64 (x5 + 1))) else (some false)) else (none)) else (none)) else (some true)
def postriderref02_Ints.f (k : Nat) (l0 : List Int) (l1 : List Int) : Option (Bool) := if (l0.length : Int) = (l1.length : Int) then (postriderref02_Ints.l0 k l0 l1 0) else (some false)
theorem postriderref02_Ints.mono_l : ∀ k, (∀ y0 y1 y2, LeO (postriderref02_Ints.l0 k y0 y1 y2) (postriderref02_Ints.l0 (k + 1) y0 y1 y2))
  | 0 => fun _ _ _ r h => by simp [postriderref02_Ints.l0] at h
  | k + 1 => by
    have ih0 := postriderref02_Ints.mono_l k
    · intro y0 y1 y2
      unfold postriderref02_Ints.l0
      repeat' first
      | (with_reducible exact ih0 _ _ _)
      | (with_reducible exact LeO.refl _)
      | (with_reducible exact LeO.none _)
      | (with_reducible refine LeO.ite ?_ ?_)
      | (with_reducible refine LeO.bind ?_ (fun _ => ?_))
      | exact ih0 _ _ _
      | exact LeO.none _
      | refine LeO.ite ?_ ?_
      | refine LeO.bind ?_ (fun _ => ?_)
theorem postriderref02_Ints.mono : ∀ a0 a1 k, LeO (postriderref02_Ints.f k a0 a1) (postriderref02_Ints.f (k + 1) a0 a1) := by
  intro a0 a1 k
  have ih0 := postriderref02_Ints.mono_l k
  unfold postriderref02_Ints.f
  repeat' first
      | (with_reducible exact ih0 _ _ _)
      | (with_reducible exact LeO.refl _)
      | (with_reducible exact LeO.none _)
      | (with_reducible refine LeO.ite ?_ ?_)
      | (with_reducible refine LeO.bind ?_ (fun _ => ?_))
      | exact ih0 _ _ _
      | exact LeO.none _
      | refine LeO.ite ?_ ?_
      | refine LeO.bind ?_ (fun _ => ?_)
set_option maxHeartbeats 8000000 in
set_option maxRecDepth 100000 in
theorem postriderref02_Ints.calls (k : Nat) (A0 : Option Addr) (c0 : Nat) (l0 : List Int) (A1 : Option Addr) (c1 : Nat) (l1 : List Int) (r : Bool) (w : World) (hr0 : Kd.C (Kd.int .i64) w A0 l0.length l0) (hc0 : l0.length ≤ c0) (hr1 : Kd.C (Kd.int .i64) w A1 l1.length l1) (hc1 : l1.length ≤ c1) (h : postriderref02_Ints.f k l0 l1 = some r) :
    Calls Tryz.prog 27 #[.slice A0 l0.length c0, .slice A1 l1.length c1] w fun e w' => e = .returned (.bool r) ∧ Drawn0 w w' := by
  have HR0 := Aside0.mk hr0
  have HC0 := Aside0.mk hc0
  clear hr0 hc0
  have HR1 := Aside0.mk hr1
  have HC1 := Aside0.mk hc1
  clear hr1 hc1
  have H : (if (l0.length : Int) = (l1.length : Int) then (postriderref02_Ints.l0 k l0 l1 0) else (some false)) = some r := h
  clear h
  by_cases c3 : (l0.length : Int) = (l1.length : Int)
  · rw [if_pos c3] at H
    have c3b0 : ((l0.length : Int) == (l1.length : Int)) = true := beq_iff_eq.mpr c3
    have c3b1 : ((l0.length : Int) != (l1.length : Int)) = false := bne_eq_false_iff_eq.mpr c3
    have c3b2 : (l0.length == l1.length) = true := by first | simpa using c3 | (simp at c3 ⊢; omega)
    clear c3
    have H' := Aside0.mk H
    clear H
    go_enter Tryz.func27, Tryz.ntmps27
    go_wp2
    repeat (go_quiet (fail); try go_wp2)
    go_loopg [5] k (fun kq v5 w' => ∃ (x5_1 : Int), v5 = .int .i64 x5_1 ∧ Aside0 (postriderref02_Ints.l0 kq l0 l1 x5_1 = some r) ∧ Aside0 (kq ≤ k) ∧ Drawn0 w w')
    case atStart => exact ⟨(0), (by first | rfl | (simp; done) | (simp [*]; done)), H', ⟨Nat.le_refl _⟩, by repeat (first | exact Drawn0.refl _ | apply Drawn0.step)⟩
    case round =>
      clear H'
      try clear c1
      try clear c2
      try clear p2
      try clear c3
      try clear c3b0
      try clear c3b1
      try clear c3b2
      obtain ⟨x5_1, rfl, HA, HK1, ⟨m1, rfl⟩⟩ := hrel
      cases gk with
      | zero => exact absurd HA.out (by simp [postriderref02_Ints.l0])
      | succ k1 =>
        have H := HA.out
        clear HA
        simp only [postriderref02_Ints.l0] at H
        by_cases c4 : x5_1 < (l0.length : Int)
        · rw [if_pos c4] at H
          have c4b0 : decide (x5_1 < (l0.length : Int)) = true := decide_eq_true c4
          clear c4
          by_cases c5 : 0 ≤ x5_1
          · rw [if_pos c5] at H
            have c5b0 : decide (0 ≤ x5_1) = true := decide_eq_true c5
            clear c5
            by_cases c6 : x5_1 < (l1.length : Int)
            · rw [if_pos c6] at H
              have c6b0 : decide (x5_1 < (l1.length : Int)) = true := decide_eq_true c6
              clear c6
              by_cases c7 : (rd l0 x5_1) = (rd l1 x5_1)
              · rw [if_pos c7] at H
                have c7b0 : ((rd l0 x5_1) == (rd l1 x5_1)) = true := beq_iff_eq.mpr c7
                have c7b1 : ((rd l0 x5_1) != (rd l1 x5_1)) = false := bne_eq_false_iff_eq.mpr c7
                clear c7
                have H' := Aside0.mk H
                clear H
                have p129 : 0 ≤ (x5_1 : Int) := of_decide_eq_true (by first | (with_reducible assumption) | assumption)
                have q129 : x5_1 < (l0.length : Int) := of_decide_eq_true (by first | (with_reducible assumption) | assumption)
                obtain ⟨ad129, e129, hx129_0⟩ := Kd.at_int HR0.out x5_1 p129 q129
                cases e129
                replace p129 := eq_true p129
                replace q129 := eq_true q129
                have p130 : 0 ≤ (x5_1 : Int) := of_decide_eq_true (by first | (with_reducible assumption) | assumption)
                have q130 : x5_1 < (l1.length : Int) := of_decide_eq_true (by first | (with_reducible assumption) | assumption)
                obtain ⟨ad130, e130, hx130_0⟩ := Kd.at_int HR1.out x5_1 p130 q130
                cases e130
                replace p130 := eq_true p130
                replace q130 := eq_true q130
                go_wp2
                repeat (go_quiet (fail); try go_wp2)
                go_roundg k1
                case measure => have := HK1.out; omega
                case rel => exact ⟨(wrap64 (x5_1 + 1)), (by first | rfl | (simp; done) | (simp [*]; done)), H', ⟨by have := HK1.out; omega⟩, by repeat (first | exact Drawn0.refl _ | apply Drawn0.step)⟩
              · rw [if_neg c7] at H
                have c7b0 : ((rd l0 x5_1) == (rd l1 x5_1)) = false := beq_eq_false_iff_ne.mpr c7
                have c7b1 : ((rd l0 x5_1) != (rd l1 x5_1)) = true := bne_iff_ne.mpr c7
                obtain rfl := Option.some.inj H
                have p129 : 0 ≤ (x5_1 : Int) := of_decide_eq_true (by first | (with_reducible assumption) | assumption)
                have q129 : x5_1 < (l0.length : Int) := of_decide_eq_true (by first | (with_reducible assumption) | assumption)
                obtain ⟨ad129, e129, hx129_0⟩ := Kd.at_int HR0.out x5_1 p129 q129
                cases e129
                replace p129 := eq_true p129
                replace q129 := eq_true q129
                have p130 : 0 ≤ (x5_1 : Int) := of_decide_eq_true (by first | (with_reducible assumption) | assumption)
                have q130 : x5_1 < (l1.length : Int) := of_decide_eq_true (by first | (with_reducible assumption) | assumption)
                obtain ⟨ad130, e130, hx130_0⟩ := Kd.at_int HR1.out x5_1 p130 q130
                cases e130
                replace p130 := eq_true p130
                replace q130 := eq_true q130
                go_wp2
                repeat (go_quiet (fail); try go_wp2)
                all_goals (first | (go_ret; exact ⟨by first | rfl | (simp; done) | (simp [*]; done) | (simp_all; done) | fail, by repeat (first | exact Drawn0.refl _ | apply Drawn0.step)⟩) | (exfalso; simp_all; done) | (exfalso; simp only [isEmpty_eq, isEmpty_ne] at *; simp_all; done) | (exfalso; exact isEmpty_clash (by assumption) (by assumption)) | (exfalso; exact isEmpty_clash' (by assumption) (by assumption)) | (exfalso; exact isEmpty_clash2 (by assumption) (by assumption)))
            · rw [if_neg c6] at H
              exact absurd H (by simp)
          · rw [if_neg c5] at H
            exact absurd H (by simp)
        · rw [if_neg c4] at H
          have c4b0 : decide (x5_1 < (l0.length : Int)) = false := decide_eq_false c4
          clear c4
          obtain rfl := Option.some.inj H
          go_wp2
          repeat (go_quiet (fail); try go_wp2)
          all_goals (first | (go_ret; exact ⟨by first | rfl | (simp; done) | (simp [*]; done) | (simp_all; done) | fail, by repeat (first | exact Drawn0.refl _ | apply Drawn0.step)⟩) | (exfalso; simp_all; done) | (exfalso; simp only [isEmpty_eq, isEmpty_ne] at *; simp_all; done) | (exfalso; exact isEmpty_clash (by assumption) (by assumption)) | (exfalso; exact isEmpty_clash' (by assumption) (by assumption)) | (exfalso; exact isEmpty_clash2 (by assumption) (by assumption)))
  · rw [if_neg c3] at H
    have c3b0 : ((l0.length : Int) == (l1.length : Int)) = false := beq_eq_false_iff_ne.mpr c3
    have c3b1 : ((l0.length : Int) != (l1.length : Int)) = true := bne_iff_ne.mpr c3
    have c3b2 : (l0.length == l1.length) = false := by first | simpa using c3 | (simp at c3 ⊢; omega)
    obtain rfl := Option.some.inj H
    go_enter Tryz.func27, Tryz.ntmps27
    go_wp2
    repeat (go_quiet (fail); try go_wp2)
    all_goals (first | (go_ret; exact ⟨by first | rfl | (simp; done) | (simp [*]; done) | (simp_all; done) | fail, by repeat (first | exact Drawn0.refl _ | apply Drawn0.step)⟩) | (exfalso; simp_all; done) | (exfalso; simp only [isEmpty_eq, isEmpty_ne] at *; simp_all; done) | (exfalso; exact isEmpty_clash (by assumption) (by assumption)) | (exfalso; exact isEmpty_clash' (by assumption) (by assumption)) | (exfalso; exact isEmpty_clash2 (by assumption) (by assumption)))
end Go.Proofs.YtaknknfcikdjiaaGreatDoor.RK
end
section
namespace Go.Proofs.YtaknknfcikdjiaaGreatDoor.RF
open Go.Proofs.YtaknknfcikdjiaaGreatDoor.Hand
open Go.Proofs.YtaknknfcikdjiaaGreatDoor.SA
open Go.Proofs.YtaknknfcikdjiaaGreatDoor.RK
open Go.RowKit Go.Proofs.YtaknknfcikdjiaaGreatDoorW.PrintWords Go.Proofs.YtaknknfcikdjiaaGreatDoorW.PrintLast Go.Proofs.YtaknknfcikdjiaaGreatDoorW.PrintMore
attribute [local go_sem] max2_int min2_int max_two min_two max_three min_three max_four min_four
set_option linter.unusedVariables false
set_option linter.unusedSimpArgs false
def errW : Option Int → Value
  | none => .nilIface
  | some c => .iface 0 (.int .i64 c)
theorem errW_none : errW none = .nilIface := rfl
theorem errW_some (c : Int) : errW (some c) = .iface 0 (.int .i64 c) := rfl
theorem info9 : (Tryz.prog.info? 9).map (fun i => (i.zero, i.size, i.bytes)) = some (some (.string ⟨#[]⟩), 1, 16) := by kernel_rfl
theorem info35 : (Tryz.prog.info? 35).map (fun i => (i.zero, i.size, i.bytes)) = some (some (.agg #[(.string ⟨#[]⟩), (.int .i64 0)]), 2, 24) := by kernel_rfl
theorem info37 : (Tryz.prog.info? 37).map (fun i => (i.zero, i.size, i.bytes)) = some (some (.agg #[(.int .i64 0), (.string ⟨#[]⟩), (.string ⟨#[]⟩), (.int .i64 0), (.int .i64 0)]), 5, 56) := by kernel_rfl
end Go.Proofs.YtaknknfcikdjiaaGreatDoor.RF
end
section
namespace Go.Proofs.YtaknknfcikdjiaaGreatDoor.RF
open Go.Proofs.YtaknknfcikdjiaaGreatDoor.Hand
open Go.Proofs.YtaknknfcikdjiaaGreatDoor.SA
open Go.Proofs.YtaknknfcikdjiaaGreatDoor.RK
open Go.RowKit Go.Proofs.YtaknknfcikdjiaaGreatDoorW.PrintWords Go.Proofs.YtaknknfcikdjiaaGreatDoorW.PrintLast Go.Proofs.YtaknknfcikdjiaaGreatDoorW.PrintMore
attribute [local go_sem] max2_int min2_int max_two min_two max_three min_three max_four min_four
set_option linter.unusedVariables false
set_option linter.unusedSimpArgs false
def route_Find.f (l0 : List (S35)) (a1_0 : Int) (a1_1 : ByteArray) (a1_2 : ByteArray) (a1_3 : Int) (a1_4 : Int) : Option (Int × Bool × Int) := (route_All.f l0 a1_0 a1_1 a1_2 a1_3 a1_4).bind fun bt102 => (if (bt102.1.length : Int) = 0 then (some (0, false, bt102.2)) else (if 0 < (bt102.1.length : Int) then (some (rd bt102.1 0, true, 0)) else (none)))
set_option maxHeartbeats 8000000 in
set_option maxRecDepth 100000 in
theorem route_Find.calls (A0 : Option Addr) (c0 : Nat) (l0 : List (S35)) (a1_0 : Int) (a1_1 : ByteArray) (a1_2 : ByteArray) (a1_3 : Int) (a1_4 : Int) (r1 : Int) (r2 : Bool) (r3 : Int) (w : World) (hr0 : Kd.C k35 w A0 l0.length l0) (hc0 : l0.length ≤ c0) (hLd : LaidR w) (h : route_Find.f l0 a1_0 a1_1 a1_2 a1_3 a1_4 = some (r1, r2, r3)) :
    Calls Tryz.prog 19 #[.slice A0 l0.length c0, .agg #[.int .i64 a1_0, .string a1_1, .string a1_2, .int .i64 a1_3, .int .i64 a1_4]] w fun e w' => e = .returned (.tuple #[.int .i64 r1, .bool r2, .int .i64 r3]) ∧ Below w.heap.size w w' := by
  have hu37 := Tryz.underlying37
  have HLD := Aside0.mk hLd
  clear hLd
  have HR0 := Aside0.mk hr0
  have HC0 := Aside0.mk hc0
  clear hr0 hc0
  have HB := Aside0.mk (Below.refl w.heap.size w)
  have H : ((route_All.f l0 a1_0 a1_1 a1_2 a1_3 a1_4).bind fun bt102 => (if (bt102.1.length : Int) = 0 then (some (0, false, bt102.2)) else (if 0 < (bt102.1.length : Int) then (some (rd bt102.1 0, true, 0)) else (none)))) = some (r1, r2, r3) := h
  clear h
  replace H := Option.bind_eq_some_iff.mp H
  obtain ⟨⟨t102, t105⟩, A30, H⟩ := H
  replace H : (if (t102.length : Int) = 0 then (some (0, false, t105)) else (if 0 < (t102.length : Int) then (some (rd t102 0, true, 0)) else (none))) = some (r1, r2, r3) := H
  have A3 := Aside0.mk A30
  clear A30
  by_cases c4 : (t102.length : Int) = 0
  · rw [if_pos c4] at H
    have c4b0 : ((t102.length : Int) == 0) = true := beq_iff_eq.mpr c4
    have c4b1 : ((t102.length : Int) != 0) = false := bne_eq_false_iff_eq.mpr c4
    clear c4
    simp only [Option.some.injEq, Prod.mk.injEq] at H
    obtain ⟨rfl, rfl, rfl⟩ := H
    go_enter Tryz.func19, Tryz.ntmps19
    go_wp2_with (first | ((with_reducible refine gate_dst (N := 3) rfl ?_); refine box_event ?hg (N := 3) ?hd (cs := #[.int .i64 a1_0, .string a1_1, .string a1_2, .int .i64 a1_3, .int .i64 a1_4]) (t := 37) ?hr ?_; (case hd => rfl); (case hg => rfl); (case hr => first | (go_simp; done) | (go_simp; rfl) | (go_simp; simp only [isEmpty_ne, isEmpty_eq]; done) | (go_simp; simp only [isEmpty_ne, isEmpty_eq]; rfl)); intro gb101 hg w5 hbox hb; have n0_ := Aside0.mk (below_step (by repeat (first | (with_reducible first | exact HB.out | apply below_alloc | apply pw_below_drewN | apply below_drew1) | exact HB.out)) hb); have n1_ := Aside0.mk (hbox); have n2_ := Aside0.mk ((by rw [hg]; exact (below_size (by repeat (first | (with_reducible first | exact HB.out | apply below_alloc | apply pw_below_drewN | apply below_drew1) | exact HB.out))) : w.heap.size ≤ gb101)); have n3_ := Aside0.mk ((by rw [hg]; exact (below_size (by repeat (first | (with_reducible first | exact HB.out | apply below_alloc | apply pw_below_drewN | apply below_drew1) | exact HB.out))) : w.heap.size ≤ gb101)); clear HB; have HB := n0_; have BK101 := n1_; have GW101 := n2_; have GE101 := n3_; clear n0_ n1_ n2_ n3_; clear hb hbox hg; have hcz6_0 : w5.cell? ⟨gb101, 0, none⟩ = some (.int .i64 a1_0) := (blk_cell BK101.out 0).trans rfl; have hcz6_1 : w5.cell? ⟨gb101, 1, none⟩ = some (.string a1_1) := (blk_cell BK101.out 1).trans rfl; have hcz6_2 : w5.cell? ⟨gb101, 2, none⟩ = some (.string a1_2) := (blk_cell BK101.out 2).trans rfl; have hcz6_3 : w5.cell? ⟨gb101, 3, none⟩ = some (.int .i64 a1_3) := (blk_cell BK101.out 3).trans rfl; have hcz6_4 : w5.cell? ⟨gb101, 4, none⟩ = some (.int .i64 a1_4) := (blk_cell BK101.out 4).trans rfl; have hfz6_0 := blk_frozen BK101.out 0; have hfz6_1 := blk_frozen BK101.out 1; have hfz6_2 := blk_frozen BK101.out 2; have hfz6_3 := blk_frozen BK101.out 3; have hfz6_4 := blk_frozen BK101.out 4) | ((with_reducible refine gate_callee (f := 20) rfl ?_); refine goesL_ (some 12) rfl rfl Tryz.func20 (by kernel_rfl) rfl #[.slice A0 l0.length c0, .agg #[.int .i64 a1_0, .string a1_1, .string a1_2, .int .i64 a1_3, .int .i64 a1_4]] rfl (by (try simp only [List.map_toArray, List.map_cons, List.map_nil]); first | done | rfl | (simp only [List.length_drop, List.length_take]; rfl)) ?_; (with_reducible refine (route_All.calls _ _ l0 a1_0 a1_1 a1_2 a1_3 a1_4 t102 t105 _ ?side1 ?side2 ?side3 A3.out).mono ?_); (case side1 => repeat (first | exact (Kd.C_below HR0.out HB.out) | (with_reducible refine Kd.C_alloc ?_ _) | (with_reducible refine Kd.C_drewN ?_ _) | (with_reducible refine Kd.C_drew ?_))); (case side2 => exact HC0.out); (case side3 => exact LaidR.below HLD.out (by repeat (first | (with_reducible first | exact HB.out | apply below_alloc | apply pw_below_drewN | apply below_drew1 | refine below_set ?_ GE101.out) | exact HB.out))); rintro e w7 ⟨v103, rfl, ho0, hb⟩; refine ⟨_, rfl, ?_⟩; have n0_ := Aside0.mk (Kd.R_lower ho0 (below_size (by repeat (first | (with_reducible first | exact HB.out | apply below_alloc | apply pw_below_drewN | apply below_drew1 | refine below_set ?_ GE101.out) | exact HB.out)))); have n1_ := Aside0.mk (blk_below (g := gb101) (o := .cells #[.int .i64 a1_0, .string a1_1, .string a1_2, .int .i64 a1_3, .int .i64 a1_4] 37 (0, 0)) (by (with_reducible repeat (first | refine blk_drewN ?_ _ | refine blk_drew ?_ | refine blk_alloc ?_ _)); exact BK101.out) hb); have n2_ := Aside0.mk (below_step (by repeat (first | (with_reducible first | exact HB.out | apply below_alloc | apply pw_below_drewN | apply below_drew1 | refine below_set ?_ GE101.out) | exact HB.out)) hb); clear BK101; clear HB; have HO104 := n0_; have BK101 := n1_; have HB := n2_; clear n0_ n1_ n2_; (try clear hb); (try clear hb2); (try clear hk); (try clear hi); (try clear ho0); obtain ⟨Ao8, co8, eo8⟩ := Kd.R_slice HO104.out; subst eo8))
    all_goals (first | (go_ret3; exact ⟨by first | rfl | (simp [errW_none, errW_some] <;> rfl) | (simp [*, errW_none, errW_some] <;> rfl) | (simp_all; done) | fail, by repeat (first | (with_reducible first | exact HB.out | apply below_alloc | apply pw_below_drewN | apply below_drew1 | refine below_set ?_ GE101.out) | exact HB.out)⟩) | (exfalso; simp_all; done) | (exfalso; simp only [isEmpty_eq, isEmpty_ne] at *; simp_all; done) | (exfalso; exact isEmpty_clash (by assumption) (by assumption)) | (exfalso; exact isEmpty_clash' (by assumption) (by assumption)) | (exfalso; exact isEmpty_clash2 (by assumption) (by assumption)))
  · rw [if_neg c4] at H
    have c4b0 : ((t102.length : Int) == 0) = false := beq_eq_false_iff_ne.mpr c4
    have c4b1 : ((t102.length : Int) != 0) = true := bne_iff_ne.mpr c4
    have c4b2 : ¬ (t102 = []) := fun h_ => c4 (by rw [h_]; rfl)
    by_cases c9 : 0 < (t102.length : Int)
    · rw [if_pos c9] at H
      have c9b0 : decide (0 < (t102.length : Int)) = true := decide_eq_true c9
      have c9b1 : decide (0 < t102.length) = true := decide_eq_true (by omega)
      clear c9
      simp only [Option.some.injEq, Prod.mk.injEq] at H
      obtain ⟨rfl, rfl, rfl⟩ := H
      go_enter Tryz.func19, Tryz.ntmps19
      go_wp2_with (first | ((with_reducible refine gate_dst (N := 3) rfl ?_); refine box_event ?hg (N := 3) ?hd (cs := #[.int .i64 a1_0, .string a1_1, .string a1_2, .int .i64 a1_3, .int .i64 a1_4]) (t := 37) ?hr ?_; (case hd => rfl); (case hg => rfl); (case hr => first | (go_simp; done) | (go_simp; rfl) | (go_simp; simp only [isEmpty_ne, isEmpty_eq]; done) | (go_simp; simp only [isEmpty_ne, isEmpty_eq]; rfl)); intro gb101 hg w10 hbox hb; have n0_ := Aside0.mk (below_step (by repeat (first | (with_reducible first | exact HB.out | apply below_alloc | apply pw_below_drewN | apply below_drew1) | exact HB.out)) hb); have n1_ := Aside0.mk (hbox); have n2_ := Aside0.mk ((by rw [hg]; exact (below_size (by repeat (first | (with_reducible first | exact HB.out | apply below_alloc | apply pw_below_drewN | apply below_drew1) | exact HB.out))) : w.heap.size ≤ gb101)); have n3_ := Aside0.mk ((by rw [hg]; exact (below_size (by repeat (first | (with_reducible first | exact HB.out | apply below_alloc | apply pw_below_drewN | apply below_drew1) | exact HB.out))) : w.heap.size ≤ gb101)); clear HB; have HB := n0_; have BK101 := n1_; have GW101 := n2_; have GE101 := n3_; clear n0_ n1_ n2_ n3_; clear hb hbox hg; have hcz11_0 : w10.cell? ⟨gb101, 0, none⟩ = some (.int .i64 a1_0) := (blk_cell BK101.out 0).trans rfl; have hcz11_1 : w10.cell? ⟨gb101, 1, none⟩ = some (.string a1_1) := (blk_cell BK101.out 1).trans rfl; have hcz11_2 : w10.cell? ⟨gb101, 2, none⟩ = some (.string a1_2) := (blk_cell BK101.out 2).trans rfl; have hcz11_3 : w10.cell? ⟨gb101, 3, none⟩ = some (.int .i64 a1_3) := (blk_cell BK101.out 3).trans rfl; have hcz11_4 : w10.cell? ⟨gb101, 4, none⟩ = some (.int .i64 a1_4) := (blk_cell BK101.out 4).trans rfl; have hfz11_0 := blk_frozen BK101.out 0; have hfz11_1 := blk_frozen BK101.out 1; have hfz11_2 := blk_frozen BK101.out 2; have hfz11_3 := blk_frozen BK101.out 3; have hfz11_4 := blk_frozen BK101.out 4) | ((with_reducible refine gate_callee (f := 20) rfl ?_); refine goesL_ (some 12) rfl rfl Tryz.func20 (by kernel_rfl) rfl #[.slice A0 l0.length c0, .agg #[.int .i64 a1_0, .string a1_1, .string a1_2, .int .i64 a1_3, .int .i64 a1_4]] rfl (by (try simp only [List.map_toArray, List.map_cons, List.map_nil]); first | done | rfl | (simp only [List.length_drop, List.length_take]; rfl)) ?_; (with_reducible refine (route_All.calls _ _ l0 a1_0 a1_1 a1_2 a1_3 a1_4 t102 t105 _ ?side1 ?side2 ?side3 A3.out).mono ?_); (case side1 => repeat (first | exact (Kd.C_below HR0.out HB.out) | (with_reducible refine Kd.C_alloc ?_ _) | (with_reducible refine Kd.C_drewN ?_ _) | (with_reducible refine Kd.C_drew ?_))); (case side2 => exact HC0.out); (case side3 => exact LaidR.below HLD.out (by repeat (first | (with_reducible first | exact HB.out | apply below_alloc | apply pw_below_drewN | apply below_drew1 | refine below_set ?_ GE101.out) | exact HB.out))); rintro e w12 ⟨v103, rfl, ho0, hb⟩; refine ⟨_, rfl, ?_⟩; have n0_ := Aside0.mk (Kd.R_lower ho0 (below_size (by repeat (first | (with_reducible first | exact HB.out | apply below_alloc | apply pw_below_drewN | apply below_drew1 | refine below_set ?_ GE101.out) | exact HB.out)))); have n1_ := Aside0.mk (blk_below (g := gb101) (o := .cells #[.int .i64 a1_0, .string a1_1, .string a1_2, .int .i64 a1_3, .int .i64 a1_4] 37 (0, 0)) (by (with_reducible repeat (first | refine blk_drewN ?_ _ | refine blk_drew ?_ | refine blk_alloc ?_ _)); exact BK101.out) hb); have n2_ := Aside0.mk (below_step (by repeat (first | (with_reducible first | exact HB.out | apply below_alloc | apply pw_below_drewN | apply below_drew1 | refine below_set ?_ GE101.out) | exact HB.out)) hb); clear BK101; clear HB; have HO104 := n0_; have BK101 := n1_; have HB := n2_; clear n0_ n1_ n2_; (try clear hb); (try clear hb2); (try clear hk); (try clear hi); (try clear ho0); obtain ⟨Ao13, co13, eo13⟩ := Kd.R_slice HO104.out; subst eo13; have p106 : 0 ≤ (0 : Int) := (by omega); have q106 : 0 < (t102.length : Int) := of_decide_eq_true (by first | (with_reducible assumption) | assumption); obtain ⟨ad106, e106, hx106_0⟩ := Kd.at_int (Kd.R_reads' HO104.out).2.2 0 p106 q106; cases e106; have qi106 : (0 < t102.length) = True := eq_true (by omega); (try rw [show ((0 : Int)).toNat = 0 from rfl] at hx106_0); (try rw [Addr.add_zero'] at hx106_0); replace p106 := eq_true p106; replace q106 := eq_true q106))
      all_goals (first | (go_ret3; exact ⟨by first | rfl | (simp [errW_none, errW_some] <;> rfl) | (simp [*, errW_none, errW_some] <;> rfl) | (simp_all; done) | fail, by repeat (first | (with_reducible first | exact HB.out | apply below_alloc | apply pw_below_drewN | apply below_drew1 | refine below_set ?_ GE101.out) | exact HB.out)⟩) | (exfalso; simp_all; done) | (exfalso; simp only [isEmpty_eq, isEmpty_ne] at *; simp_all; done) | (exfalso; exact isEmpty_clash (by assumption) (by assumption)) | (exfalso; exact isEmpty_clash' (by assumption) (by assumption)) | (exfalso; exact isEmpty_clash2 (by assumption) (by assumption)))
    · rw [if_neg c9] at H
      exact absurd H (by simp)
def postriderlaw16_shown.f  : Option (Bool) := (some (([(⟨(⟨#[105, 112, 110, 58, 52]⟩ : ByteArray), 6⟩ : S35), (⟨(⟨#[105, 112, 110, 58, 52, 46]⟩ : ByteArray), 7⟩ : S35), (⟨(⟨#[]⟩ : ByteArray), 6⟩ : S35)] : List (S35)) : List (S35))).bind fun y107 => ((route_Find.f y107 2 (⟨#[]⟩ : ByteArray) (⟨#[]⟩ : ByteArray) 4 7).bind fun bt110 => ((route_Find.f y107 2 (⟨#[]⟩ : ByteArray) (⟨#[]⟩ : ByteArray) 42 0).bind fun bt113 => ((route_Find.f y107 0 (⟨#[]⟩ : ByteArray) (⟨#[]⟩ : ByteArray) 0 0).bind fun bt116 => ((route_Pass.f 5 9 (([(⟨#[100, 116, 110, 58]⟩ : ByteArray)] : List ByteArray)) false 6 0 false (([(⟨0, (⟨#[]⟩ : ByteArray), (⟨#[]⟩ : ByteArray), 0, 0⟩ : S37)] : List (S37)))).bind fun t125 => ((route_Pass.f 5 9 ([] : List ByteArray) false 6 0 false (([(⟨0, (⟨#[]⟩ : ByteArray), (⟨#[]⟩ : ByteArray), 0, 0⟩ : S37)] : List (S37)))).bind fun t129 => (if bt110.1 = 1 then (if bt110.2.1 = true then (if bt110.2.2 = 0 then (if bt113.1 = 0 then (if bt113.2.1 = true then (if bt113.2.2 = 0 then (if bt116.1 = 2 then (if bt116.2.1 = true then (if bt116.2.2 = 0 then (if t125 = 161 then (some (t129 == 162)) else (none)) else (none)) else (none)) else (none)) else (none)) else (none)) else (none)) else (none)) else (none)) else (none)))))))
set_option maxHeartbeats 8000000 in
set_option maxRecDepth 100000 in
theorem postriderlaw16_shown.calls  (r : Bool) (w : World) (hLd : LaidR w) (h : postriderlaw16_shown.f  = some r) :
    Calls Tryz.prog 10 #[] w fun e w' => e = .returned (.bool r) ∧ Below w.heap.size w w' := by
  have hu35 := Tryz.underlying35
  have hu37 := Tryz.underlying37
  have hu24 := Tryz.underlying24
  have HLD := Aside0.mk hLd
  clear hLd
  have HB := Aside0.mk (Below.refl w.heap.size w)
  have H : ((some (([(⟨(⟨#[105, 112, 110, 58, 52]⟩ : ByteArray), 6⟩ : S35), (⟨(⟨#[105, 112, 110, 58, 52, 46]⟩ : ByteArray), 7⟩ : S35), (⟨(⟨#[]⟩ : ByteArray), 6⟩ : S35)] : List (S35)) : List (S35))).bind fun y107 => ((route_Find.f y107 2 (⟨#[]⟩ : ByteArray) (⟨#[]⟩ : ByteArray) 4 7).bind fun bt110 => ((route_Find.f y107 2 (⟨#[]⟩ : ByteArray) (⟨#[]⟩ : ByteArray) 42 0).bind fun bt113 => ((route_Find.f y107 0 (⟨#[]⟩ : ByteArray) (⟨#[]⟩ : ByteArray) 0 0).bind fun bt116 => ((route_Pass.f 5 9 (([(⟨#[100, 116, 110, 58]⟩ : ByteArray)] : List ByteArray)) false 6 0 false (([(⟨0, (⟨#[]⟩ : ByteArray), (⟨#[]⟩ : ByteArray), 0, 0⟩ : S37)] : List (S37)))).bind fun t125 => ((route_Pass.f 5 9 ([] : List ByteArray) false 6 0 false (([(⟨0, (⟨#[]⟩ : ByteArray), (⟨#[]⟩ : ByteArray), 0, 0⟩ : S37)] : List (S37)))).bind fun t129 => (if bt110.1 = 1 then (if bt110.2.1 = true then (if bt110.2.2 = 0 then (if bt113.1 = 0 then (if bt113.2.1 = true then (if bt113.2.2 = 0 then (if bt116.1 = 2 then (if bt116.2.1 = true then (if bt116.2.2 = 0 then (if t125 = 161 then (some (t129 == 162)) else (none)) else (none)) else (none)) else (none)) else (none)) else (none)) else (none)) else (none)) else (none)) else (none)))))))) = some r := h
  clear h
  obtain ⟨y107, hy107⟩ : ∃ y_ : List (S35), y_ = (([(⟨(⟨#[105, 112, 110, 58, 52]⟩ : ByteArray), 6⟩ : S35), (⟨(⟨#[105, 112, 110, 58, 52, 46]⟩ : ByteArray), 7⟩ : S35), (⟨(⟨#[]⟩ : ByteArray), 6⟩ : S35)] : List (S35))) := ⟨_, rfl⟩
  replace H : ((route_Find.f y107 2 (⟨#[]⟩ : ByteArray) (⟨#[]⟩ : ByteArray) 4 7).bind fun bt110 => ((route_Find.f y107 2 (⟨#[]⟩ : ByteArray) (⟨#[]⟩ : ByteArray) 42 0).bind fun bt113 => ((route_Find.f y107 0 (⟨#[]⟩ : ByteArray) (⟨#[]⟩ : ByteArray) 0 0).bind fun bt116 => ((route_Pass.f 5 9 (([(⟨#[100, 116, 110, 58]⟩ : ByteArray)] : List ByteArray)) false 6 0 false (([(⟨0, (⟨#[]⟩ : ByteArray), (⟨#[]⟩ : ByteArray), 0, 0⟩ : S37)] : List (S37)))).bind fun t125 => ((route_Pass.f 5 9 ([] : List ByteArray) false 6 0 false (([(⟨0, (⟨#[]⟩ : ByteArray), (⟨#[]⟩ : ByteArray), 0, 0⟩ : S37)] : List (S37)))).bind fun t129 => (if bt110.1 = 1 then (if bt110.2.1 = true then (if bt110.2.2 = 0 then (if bt113.1 = 0 then (if bt113.2.1 = true then (if bt113.2.2 = 0 then (if bt116.1 = 2 then (if bt116.2.1 = true then (if bt116.2.2 = 0 then (if t125 = 161 then (some (t129 == 162)) else (none)) else (none)) else (none)) else (none)) else (none)) else (none)) else (none)) else (none)) else (none)) else (none))))))) = some r := by first | (rw [hy107]; with_reducible exact H) | (have H2_ := (Option.bind_some _ _).symm.trans H; rw [hy107]; with_reducible exact H2_) | (have H2_ := (Option.bind_some _ _).symm.trans H; with_reducible exact H2_) | with_reducible exact H | (rw [hy107]; exact H) | exact H
  have Ny107 := Aside0.mk hy107
  clear hy107
  replace H := Option.bind_eq_some_iff.mp H
  obtain ⟨⟨t110, t111, t112⟩, A10, H⟩ := H
  replace H : ((route_Find.f y107 2 (⟨#[]⟩ : ByteArray) (⟨#[]⟩ : ByteArray) 42 0).bind fun bt113 => ((route_Find.f y107 0 (⟨#[]⟩ : ByteArray) (⟨#[]⟩ : ByteArray) 0 0).bind fun bt116 => ((route_Pass.f 5 9 (([(⟨#[100, 116, 110, 58]⟩ : ByteArray)] : List ByteArray)) false 6 0 false (([(⟨0, (⟨#[]⟩ : ByteArray), (⟨#[]⟩ : ByteArray), 0, 0⟩ : S37)] : List (S37)))).bind fun t125 => ((route_Pass.f 5 9 ([] : List ByteArray) false 6 0 false (([(⟨0, (⟨#[]⟩ : ByteArray), (⟨#[]⟩ : ByteArray), 0, 0⟩ : S37)] : List (S37)))).bind fun t129 => (if t110 = 1 then (if t111 = true then (if t112 = 0 then (if bt113.1 = 0 then (if bt113.2.1 = true then (if bt113.2.2 = 0 then (if bt116.1 = 2 then (if bt116.2.1 = true then (if bt116.2.2 = 0 then (if t125 = 161 then (some (t129 == 162)) else (none)) else (none)) else (none)) else (none)) else (none)) else (none)) else (none)) else (none)) else (none)) else (none)))))) = some r := H
  have A1 := Aside0.mk A10
  clear A10
  replace H := Option.bind_eq_some_iff.mp H
  obtain ⟨⟨t113, t114, t115⟩, A20, H⟩ := H
  replace H : ((route_Find.f y107 0 (⟨#[]⟩ : ByteArray) (⟨#[]⟩ : ByteArray) 0 0).bind fun bt116 => ((route_Pass.f 5 9 (([(⟨#[100, 116, 110, 58]⟩ : ByteArray)] : List ByteArray)) false 6 0 false (([(⟨0, (⟨#[]⟩ : ByteArray), (⟨#[]⟩ : ByteArray), 0, 0⟩ : S37)] : List (S37)))).bind fun t125 => ((route_Pass.f 5 9 ([] : List ByteArray) false 6 0 false (([(⟨0, (⟨#[]⟩ : ByteArray), (⟨#[]⟩ : ByteArray), 0, 0⟩ : S37)] : List (S37)))).bind fun t129 => (if t110 = 1 then (if t111 = true then (if t112 = 0 then (if t113 = 0 then (if t114 = true then (if t115 = 0 then (if bt116.1 = 2 then (if bt116.2.1 = true then (if bt116.2.2 = 0 then (if t125 = 161 then (some (t129 == 162)) else (none)) else (none)) else (none)) else (none)) else (none)) else (none)) else (none)) else (none)) else (none)) else (none))))) = some r := H
  have A2 := Aside0.mk A20
  clear A20
  replace H := Option.bind_eq_some_iff.mp H
  obtain ⟨⟨t116, t117, t118⟩, A30, H⟩ := H
  replace H : ((route_Pass.f 5 9 (([(⟨#[100, 116, 110, 58]⟩ : ByteArray)] : List ByteArray)) false 6 0 false (([(⟨0, (⟨#[]⟩ : ByteArray), (⟨#[]⟩ : ByteArray), 0, 0⟩ : S37)] : List (S37)))).bind fun t125 => ((route_Pass.f 5 9 ([] : List ByteArray) false 6 0 false (([(⟨0, (⟨#[]⟩ : ByteArray), (⟨#[]⟩ : ByteArray), 0, 0⟩ : S37)] : List (S37)))).bind fun t129 => (if t110 = 1 then (if t111 = true then (if t112 = 0 then (if t113 = 0 then (if t114 = true then (if t115 = 0 then (if t116 = 2 then (if t117 = true then (if t118 = 0 then (if t125 = 161 then (some (t129 == 162)) else (none)) else (none)) else (none)) else (none)) else (none)) else (none)) else (none)) else (none)) else (none)) else (none)))) = some r := H
  have A3 := Aside0.mk A30
  clear A30
  obtain ⟨y119, hy119⟩ : ∃ y_ : List ByteArray, y_ = (([(⟨#[100, 116, 110, 58]⟩ : ByteArray)] : List ByteArray)) := ⟨_, rfl⟩
  replace H : ((route_Pass.f 5 9 y119 false 6 0 false (([(⟨0, (⟨#[]⟩ : ByteArray), (⟨#[]⟩ : ByteArray), 0, 0⟩ : S37)] : List (S37)))).bind fun t125 => ((route_Pass.f 5 9 ([] : List ByteArray) false 6 0 false (([(⟨0, (⟨#[]⟩ : ByteArray), (⟨#[]⟩ : ByteArray), 0, 0⟩ : S37)] : List (S37)))).bind fun t129 => (if t110 = 1 then (if t111 = true then (if t112 = 0 then (if t113 = 0 then (if t114 = true then (if t115 = 0 then (if t116 = 2 then (if t117 = true then (if t118 = 0 then (if t125 = 161 then (some (t129 == 162)) else (none)) else (none)) else (none)) else (none)) else (none)) else (none)) else (none)) else (none)) else (none)) else (none)))) = some r := by first | (rw [hy119]; with_reducible exact H) | (have H2_ := (Option.bind_some _ _).symm.trans H; rw [hy119]; with_reducible exact H2_) | (have H2_ := (Option.bind_some _ _).symm.trans H; with_reducible exact H2_) | with_reducible exact H | (rw [hy119]; exact H) | exact H
  have Ny119 := Aside0.mk hy119
  clear hy119
  obtain ⟨y122, hy122⟩ : ∃ y_ : List (S37), y_ = (([(⟨0, (⟨#[]⟩ : ByteArray), (⟨#[]⟩ : ByteArray), 0, 0⟩ : S37)] : List (S37))) := ⟨_, rfl⟩
  replace H : ((route_Pass.f 5 9 y119 false 6 0 false y122).bind fun t125 => ((route_Pass.f 5 9 ([] : List ByteArray) false 6 0 false (([(⟨0, (⟨#[]⟩ : ByteArray), (⟨#[]⟩ : ByteArray), 0, 0⟩ : S37)] : List (S37)))).bind fun t129 => (if t110 = 1 then (if t111 = true then (if t112 = 0 then (if t113 = 0 then (if t114 = true then (if t115 = 0 then (if t116 = 2 then (if t117 = true then (if t118 = 0 then (if t125 = 161 then (some (t129 == 162)) else (none)) else (none)) else (none)) else (none)) else (none)) else (none)) else (none)) else (none)) else (none)) else (none)))) = some r := by first | (rw [hy122]; with_reducible exact H) | (have H2_ := (Option.bind_some _ _).symm.trans H; rw [hy122]; with_reducible exact H2_) | (have H2_ := (Option.bind_some _ _).symm.trans H; with_reducible exact H2_) | with_reducible exact H | (rw [hy122]; exact H) | exact H
  have Ny122 := Aside0.mk hy122
  clear hy122
  replace H := Option.bind_eq_some_iff.mp H
  obtain ⟨t125, A40, H⟩ := H
  replace H : ((route_Pass.f 5 9 ([] : List ByteArray) false 6 0 false (([(⟨0, (⟨#[]⟩ : ByteArray), (⟨#[]⟩ : ByteArray), 0, 0⟩ : S37)] : List (S37)))).bind fun t129 => (if t110 = 1 then (if t111 = true then (if t112 = 0 then (if t113 = 0 then (if t114 = true then (if t115 = 0 then (if t116 = 2 then (if t117 = true then (if t118 = 0 then (if t125 = 161 then (some (t129 == 162)) else (none)) else (none)) else (none)) else (none)) else (none)) else (none)) else (none)) else (none)) else (none)) else (none))) = some r := H
  have A4 := Aside0.mk A40
  clear A40
  obtain ⟨y126, hy126⟩ : ∃ y_ : List (S37), y_ = (([(⟨0, (⟨#[]⟩ : ByteArray), (⟨#[]⟩ : ByteArray), 0, 0⟩ : S37)] : List (S37))) := ⟨_, rfl⟩
  replace H : ((route_Pass.f 5 9 ([] : List ByteArray) false 6 0 false y126).bind fun t129 => (if t110 = 1 then (if t111 = true then (if t112 = 0 then (if t113 = 0 then (if t114 = true then (if t115 = 0 then (if t116 = 2 then (if t117 = true then (if t118 = 0 then (if t125 = 161 then (some (t129 == 162)) else (none)) else (none)) else (none)) else (none)) else (none)) else (none)) else (none)) else (none)) else (none)) else (none))) = some r := by first | (rw [hy126]; with_reducible exact H) | (have H2_ := (Option.bind_some _ _).symm.trans H; rw [hy126]; with_reducible exact H2_) | (have H2_ := (Option.bind_some _ _).symm.trans H; with_reducible exact H2_) | with_reducible exact H | (rw [hy126]; exact H) | exact H
  have Ny126 := Aside0.mk hy126
  clear hy126
  replace H := Option.bind_eq_some_iff.mp H
  obtain ⟨t129, A50, H⟩ := H
  replace H : (if t110 = 1 then (if t111 = true then (if t112 = 0 then (if t113 = 0 then (if t114 = true then (if t115 = 0 then (if t116 = 2 then (if t117 = true then (if t118 = 0 then (if t125 = 161 then (some (t129 == 162)) else (none)) else (none)) else (none)) else (none)) else (none)) else (none)) else (none)) else (none)) else (none)) else (none)) = some r := H
  have A5 := Aside0.mk A50
  clear A50
  by_cases c6 : t110 = 1
  · rw [if_pos c6] at H
    have c6b0 : (t110 == 1) = true := beq_iff_eq.mpr c6
    have c6b1 : (t110 != 1) = false := bne_eq_false_iff_eq.mpr c6
    clear c6
    by_cases c7 : t111 = true
    · subst c7
      have H1 : (if t112 = 0 then (if t113 = 0 then (if t114 = true then (if t115 = 0 then (if t116 = 2 then (if t117 = true then (if t118 = 0 then (if t125 = 161 then (some (t129 == 162)) else (none)) else (none)) else (none)) else (none)) else (none)) else (none)) else (none)) else (none)) = some r := by rw [if_pos rfl] at H; exact H
      clear H
      have H := H1
      clear H1
      by_cases c8 : t112 = 0
      · rw [if_pos c8] at H
        have c8b0 : (t112 == 0) = true := beq_iff_eq.mpr c8
        have c8b1 : (t112 != 0) = false := bne_eq_false_iff_eq.mpr c8
        clear c8
        by_cases c9 : t113 = 0
        · rw [if_pos c9] at H
          have c9b0 : (t113 == 0) = true := beq_iff_eq.mpr c9
          have c9b1 : (t113 != 0) = false := bne_eq_false_iff_eq.mpr c9
          clear c9
          by_cases c10 : t114 = true
          · subst c10
            have H1 : (if t115 = 0 then (if t116 = 2 then (if t117 = true then (if t118 = 0 then (if t125 = 161 then (some (t129 == 162)) else (none)) else (none)) else (none)) else (none)) else (none)) = some r := by rw [if_pos rfl] at H; exact H
            clear H
            have H := H1
            clear H1
            by_cases c11 : t115 = 0
            · rw [if_pos c11] at H
              have c11b0 : (t115 == 0) = true := beq_iff_eq.mpr c11
              have c11b1 : (t115 != 0) = false := bne_eq_false_iff_eq.mpr c11
              clear c11
              by_cases c12 : t116 = 2
              · rw [if_pos c12] at H
                have c12b0 : (t116 == 2) = true := beq_iff_eq.mpr c12
                have c12b1 : (t116 != 2) = false := bne_eq_false_iff_eq.mpr c12
                clear c12
                by_cases c13 : t117 = true
                · subst c13
                  have H1 : (if t118 = 0 then (if t125 = 161 then (some (t129 == 162)) else (none)) else (none)) = some r := by rw [if_pos rfl] at H; exact H
                  clear H
                  have H := H1
                  clear H1
                  by_cases c14 : t118 = 0
                  · rw [if_pos c14] at H
                    have c14b0 : (t118 == 0) = true := beq_iff_eq.mpr c14
                    have c14b1 : (t118 != 0) = false := bne_eq_false_iff_eq.mpr c14
                    clear c14
                    by_cases c15 : t125 = 161
                    · rw [if_pos c15] at H
                      have c15b0 : (t125 == 161) = true := beq_iff_eq.mpr c15
                      have c15b1 : (t125 != 161) = false := bne_eq_false_iff_eq.mpr c15
                      clear c15
                      obtain rfl := Option.some.inj H
                      go_enter Tryz.func10, Tryz.ntmps10
                      go_wp2_with (first | ((with_reducible refine gate_dst (N := 16) rfl ?_); refine Kd.R_lit k35 _ 35 ?hg (N := 16) ?hd (xs := ([(⟨(⟨#[105, 112, 110, 58, 52]⟩ : ByteArray), 6⟩ : S35), (⟨(⟨#[105, 112, 110, 58, 52, 46]⟩ : ByteArray), 7⟩ : S35), (⟨(⟨#[]⟩ : ByteArray), 6⟩ : S35)] : List (S35))) (inner := [.string (⟨#[105, 112, 110, 58, 52]⟩ : ByteArray), .int .i64 6, .string (⟨#[105, 112, 110, 58, 52, 46]⟩ : ByteArray), .int .i64 7, .string (⟨#[]⟩ : ByteArray), .int .i64 6]) (ok := fun _ => True) (okp := fun _ => True) ?hr ?hp (fun _ hk => hk) trivial (Below.refl _ _) (Nat.le_refl _) (by simp) ?_; (case hd => rfl); (case hg => rfl); (case hr => first | (go_simp; done) | (go_simp; rfl) | (go_simp; simp only [isEmpty_ne, isEmpty_eq]; done) | (go_simp; simp only [isEmpty_ne, isEmpty_eq]; rfl)); (case hp => exact (Reps.c2 (show Kd.M k35 _ _ _ (⟨(⟨#[105, 112, 110, 58, 52]⟩ : ByteArray), 6⟩ : S35) [.string (⟨#[105, 112, 110, 58, 52]⟩ : ByteArray), .int .i64 6] from (k35_mkM _ _ _ (⟨(⟨#[105, 112, 110, 58, 52]⟩ : ByteArray), 6⟩ : S35) )) (Reps.c2 (show Kd.M k35 _ _ _ (⟨(⟨#[105, 112, 110, 58, 52, 46]⟩ : ByteArray), 7⟩ : S35) [.string (⟨#[105, 112, 110, 58, 52, 46]⟩ : ByteArray), .int .i64 7] from (k35_mkM _ _ _ (⟨(⟨#[105, 112, 110, 58, 52, 46]⟩ : ByteArray), 7⟩ : S35) )) (Reps.c2 (show Kd.M k35 _ _ _ (⟨(⟨#[]⟩ : ByteArray), 6⟩ : S35) [.string (⟨#[]⟩ : ByteArray), .int .i64 6] from (k35_mkM _ _ _ (⟨(⟨#[]⟩ : ByteArray), 6⟩ : S35) )) (Reps.none _ _))))); intro v108 w16 ho17 hb hg_ hnew_; clear hg_ hnew_; (first | rw [← Ny107.out] at ho17 | (simp only [Int.reduceToNat] at ho17; rw [← Ny107.out] at ho17)); have n0_ := Aside0.mk (Kd.R_lower ho17 (below_size (by repeat (first | (with_reducible first | exact HB.out | apply below_alloc | apply pw_below_drewN | apply below_drew1) | exact HB.out)))); have n1_ := Aside0.mk (below_step (by repeat (first | (with_reducible first | exact HB.out | apply below_alloc | apply pw_below_drewN | apply below_drew1) | exact HB.out)) hb); clear HB; have HO109 := n0_; have HB := n1_; clear n0_ n1_; clear hb ho17; obtain ⟨Ao18, co18, eo18⟩ := Kd.R_slice HO109.out; subst eo18) | ((with_reducible refine gate_callee (f := 19) rfl ?_); refine goesL_ (some 20) rfl rfl Tryz.func19 (by kernel_rfl) rfl #[.slice Ao18 y107.length co18, .agg #[.int .i64 2, .string (⟨#[]⟩ : ByteArray), .string (⟨#[]⟩ : ByteArray), .int .i64 4, .int .i64 7]] rfl (by (try simp only [List.map_toArray, List.map_cons, List.map_nil]); first | done | rfl | (simp only [List.length_drop, List.length_take]; rfl)) ?_; (with_reducible refine (route_Find.calls _ _ y107 2 (⟨#[]⟩ : ByteArray) (⟨#[]⟩ : ByteArray) 4 7 t110 true t112 _ ?side1 ?side2 ?side3 A1.out).mono ?_); (case side1 => repeat (first | exact (Kd.R_reads' HO109.out).2.2 | (with_reducible refine Kd.C_alloc ?_ _) | (with_reducible refine Kd.C_drewN ?_ _) | (with_reducible refine Kd.C_drew ?_))); (case side2 => exact (Kd.R_reads' HO109.out).2.1); (case side3 => exact LaidR.below HLD.out (by repeat (first | (with_reducible first | exact HB.out | apply below_alloc | apply pw_below_drewN | apply below_drew1) | exact HB.out))); rintro e w19 ⟨rfl, hb⟩; refine ⟨_, rfl, ?_⟩; have n0_ := Aside0.mk (Kd.R_below (by (with_reducible repeat (first | apply Kd.R_alloc | apply Kd.R_drewN | apply Kd.R_drew)); exact HO109.out) hb); have n1_ := Aside0.mk (below_step (by repeat (first | (with_reducible first | exact HB.out | apply below_alloc | apply pw_below_drewN | apply below_drew1) | exact HB.out)) hb); clear HO109; clear HB; have HO109 := n0_; have HB := n1_; clear n0_ n1_; (try clear hb); (try clear hb2); (try clear hk); (try clear hi)) | ((with_reducible refine gate_callee (f := 19) rfl ?_); refine goesL_ (some 27) rfl rfl Tryz.func19 (by kernel_rfl) rfl #[.slice Ao18 y107.length co18, .agg #[.int .i64 2, .string (⟨#[]⟩ : ByteArray), .string (⟨#[]⟩ : ByteArray), .int .i64 42, .int .i64 0]] rfl (by (try simp only [List.map_toArray, List.map_cons, List.map_nil]); first | done | rfl | (simp only [List.length_drop, List.length_take]; rfl)) ?_; (with_reducible refine (route_Find.calls _ _ y107 2 (⟨#[]⟩ : ByteArray) (⟨#[]⟩ : ByteArray) 42 0 t113 true t115 _ ?side1 ?side2 ?side3 A2.out).mono ?_); (case side1 => repeat (first | exact (Kd.R_reads' HO109.out).2.2 | (with_reducible refine Kd.C_alloc ?_ _) | (with_reducible refine Kd.C_drewN ?_ _) | (with_reducible refine Kd.C_drew ?_))); (case side2 => exact (Kd.R_reads' HO109.out).2.1); (case side3 => exact LaidR.below HLD.out (by repeat (first | (with_reducible first | exact HB.out | apply below_alloc | apply pw_below_drewN | apply below_drew1) | exact HB.out))); rintro e w20 ⟨rfl, hb⟩; refine ⟨_, rfl, ?_⟩; have n0_ := Aside0.mk (Kd.R_below (by (with_reducible repeat (first | apply Kd.R_alloc | apply Kd.R_drewN | apply Kd.R_drew)); exact HO109.out) hb); have n1_ := Aside0.mk (below_step (by repeat (first | (with_reducible first | exact HB.out | apply below_alloc | apply pw_below_drewN | apply below_drew1) | exact HB.out)) hb); clear HO109; clear HB; have HO109 := n0_; have HB := n1_; clear n0_ n1_; (try clear hb); (try clear hb2); (try clear hk); (try clear hi)) | ((with_reducible refine gate_callee (f := 19) rfl ?_); refine goesL_ (some 34) rfl rfl Tryz.func19 (by kernel_rfl) rfl #[.slice Ao18 y107.length co18, .agg #[.int .i64 0, .string (⟨#[]⟩ : ByteArray), .string (⟨#[]⟩ : ByteArray), .int .i64 0, .int .i64 0]] rfl (by (try simp only [List.map_toArray, List.map_cons, List.map_nil]); first | done | rfl | (simp only [List.length_drop, List.length_take]; rfl)) ?_; (with_reducible refine (route_Find.calls _ _ y107 0 (⟨#[]⟩ : ByteArray) (⟨#[]⟩ : ByteArray) 0 0 t116 true t118 _ ?side1 ?side2 ?side3 A3.out).mono ?_); (case side1 => repeat (first | exact (Kd.R_reads' HO109.out).2.2 | (with_reducible refine Kd.C_alloc ?_ _) | (with_reducible refine Kd.C_drewN ?_ _) | (with_reducible refine Kd.C_drew ?_))); (case side2 => exact (Kd.R_reads' HO109.out).2.1); (case side3 => exact LaidR.below HLD.out (by repeat (first | (with_reducible first | exact HB.out | apply below_alloc | apply pw_below_drewN | apply below_drew1) | exact HB.out))); rintro e w21 ⟨rfl, hb⟩; refine ⟨_, rfl, ?_⟩; have n0_ := Aside0.mk (Kd.R_below (by (with_reducible repeat (first | apply Kd.R_alloc | apply Kd.R_drewN | apply Kd.R_drew)); exact HO109.out) hb); have n1_ := Aside0.mk (below_step (by repeat (first | (with_reducible first | exact HB.out | apply below_alloc | apply pw_below_drewN | apply below_drew1) | exact HB.out)) hb); clear HO109; clear HB; have HO109 := n0_; have HB := n1_; clear n0_ n1_; (try clear hb); (try clear hb2); (try clear hk); (try clear hi)) | ((with_reducible refine gate_dst (N := 38) rfl ?_); refine Kd.R_lit Kd.string _ 9 ?hg (N := 38) ?hd (xs := ([(⟨#[100, 116, 110, 58]⟩ : ByteArray)] : List ByteArray)) (inner := [.string (⟨#[100, 116, 110, 58]⟩ : ByteArray)]) (ok := fun _ => True) (okp := fun _ => True) ?hr ?hp (fun _ hk => hk) trivial (Below.refl _ _) (Nat.le_refl _) (by simp) ?_; (case hd => rfl); (case hg => rfl); (case hr => first | (go_simp; done) | (go_simp; rfl) | (go_simp; simp only [isEmpty_ne, isEmpty_eq]; done) | (go_simp; simp only [isEmpty_ne, isEmpty_eq]; rfl)); (case hp => exact (Reps.one (show Kd.M Kd.string _ _ _ (⟨#[100, 116, 110, 58]⟩ : ByteArray) [.string (⟨#[100, 116, 110, 58]⟩ : ByteArray)] from rfl) (Reps.none _ _))); intro v120 w22 ho23 hb hg_ hnew_; clear hg_ hnew_; (first | rw [← Ny119.out] at ho23 | (simp only [Int.reduceToNat] at ho23; rw [← Ny119.out] at ho23)); have n0_ := Aside0.mk (Kd.R_below (by (with_reducible repeat (first | apply Kd.R_alloc | apply Kd.R_drewN | apply Kd.R_drew)); exact HO109.out) hb); have n1_ := Aside0.mk (Kd.R_lower ho23 (below_size (by repeat (first | (with_reducible first | exact HB.out | apply below_alloc | apply pw_below_drewN | apply below_drew1) | exact HB.out)))); have n2_ := Aside0.mk (below_step (by repeat (first | (with_reducible first | exact HB.out | apply below_alloc | apply pw_below_drewN | apply below_drew1) | exact HB.out)) hb); clear HO109; clear HB; have HO109 := n0_; have HO121 := n1_; have HB := n2_; clear n0_ n1_ n2_; clear hb ho23; obtain ⟨Ao24, co24, eo24⟩ := Kd.R_slice HO121.out; subst eo24) | ((with_reducible refine gate_dst (N := 41) rfl ?_); refine Kd.R_lit k37 _ 37 ?hg (N := 41) ?hd (xs := ([(⟨0, (⟨#[]⟩ : ByteArray), (⟨#[]⟩ : ByteArray), 0, 0⟩ : S37)] : List (S37))) (inner := [.int .i64 0, .string (⟨#[]⟩ : ByteArray), .string (⟨#[]⟩ : ByteArray), .int .i64 0, .int .i64 0]) (ok := fun _ => True) (okp := fun _ => True) ?hr ?hp (fun _ hk => hk) trivial (Below.refl _ _) (Nat.le_refl _) (by simp) ?_; (case hd => rfl); (case hg => rfl); (case hr => first | (go_simp; done) | (go_simp; rfl) | (go_simp; simp only [isEmpty_ne, isEmpty_eq]; done) | (go_simp; simp only [isEmpty_ne, isEmpty_eq]; rfl)); (case hp => exact (Reps.c5 (show Kd.M k37 _ _ _ (⟨0, (⟨#[]⟩ : ByteArray), (⟨#[]⟩ : ByteArray), 0, 0⟩ : S37) [.int .i64 0, .string (⟨#[]⟩ : ByteArray), .string (⟨#[]⟩ : ByteArray), .int .i64 0, .int .i64 0] from (k37_mkM _ _ _ (⟨0, (⟨#[]⟩ : ByteArray), (⟨#[]⟩ : ByteArray), 0, 0⟩ : S37) )) (Reps.none _ _))); intro v123 w25 ho26 hb hg_ hnew_; clear hg_ hnew_; (first | rw [← Ny122.out] at ho26 | (simp only [Int.reduceToNat] at ho26; rw [← Ny122.out] at ho26)); have n0_ := Aside0.mk (Kd.R_below (by (with_reducible repeat (first | apply Kd.R_alloc | apply Kd.R_drewN | apply Kd.R_drew)); exact HO109.out) hb); have n1_ := Aside0.mk (Kd.R_below (by (with_reducible repeat (first | apply Kd.R_alloc | apply Kd.R_drewN | apply Kd.R_drew)); exact HO121.out) hb); have n2_ := Aside0.mk (Kd.R_lower ho26 (below_size (by repeat (first | (with_reducible first | exact HB.out | apply below_alloc | apply pw_below_drewN | apply below_drew1) | exact HB.out)))); have n3_ := Aside0.mk (below_step (by repeat (first | (with_reducible first | exact HB.out | apply below_alloc | apply pw_below_drewN | apply below_drew1) | exact HB.out)) hb); clear HO109; clear HO121; clear HB; have HO109 := n0_; have HO121 := n1_; have HO124 := n2_; have HB := n3_; clear n0_ n1_ n2_ n3_; clear hb ho26; obtain ⟨Ao27, co27, eo27⟩ := Kd.R_slice HO124.out; subst eo27) | ((with_reducible refine gate_callee (f := 15) rfl ?_); refine goesL_ (some 42) rfl rfl Tryz.func15 (by kernel_rfl) rfl #[.agg #[.int .i64 5, .int .i64 9, .slice Ao24 y119.length co24, .bool false], .int .i64 6, .int .i64 0, .bool false, .slice Ao27 y122.length co27] rfl (by (try simp only [List.map_toArray, List.map_cons, List.map_nil]); first | done | rfl | (simp only [List.length_drop, List.length_take]; rfl)) ?_; (with_reducible refine (route_Pass.calls 5 9 _ _ y119 false 6 0 false _ _ y122 t125 _ ?side1 ?side2 ?side3 ?side4 ?side5 A4.out).mono ?_); (case side1 => repeat (first | exact (Kd.R_reads' HO121.out).2.2 | (with_reducible refine Kd.C_alloc ?_ _) | (with_reducible refine Kd.C_drewN ?_ _) | (with_reducible refine Kd.C_drew ?_))); (case side2 => exact (Kd.R_reads' HO121.out).2.1); (case side3 => repeat (first | exact (Kd.R_reads' HO124.out).2.2 | (with_reducible refine Kd.C_alloc ?_ _) | (with_reducible refine Kd.C_drewN ?_ _) | (with_reducible refine Kd.C_drew ?_))); (case side4 => exact (Kd.R_reads' HO124.out).2.1); (case side5 => exact LaidR.below HLD.out (by repeat (first | (with_reducible first | exact HB.out | apply below_alloc | apply pw_below_drewN | apply below_drew1) | exact HB.out))); rintro e w28 ⟨rfl, hb⟩; refine ⟨_, rfl, ?_⟩; have n0_ := Aside0.mk (Kd.R_below (by (with_reducible repeat (first | apply Kd.R_alloc | apply Kd.R_drewN | apply Kd.R_drew)); exact HO109.out) hb); have n1_ := Aside0.mk (Kd.R_below (by (with_reducible repeat (first | apply Kd.R_alloc | apply Kd.R_drewN | apply Kd.R_drew)); exact HO121.out) hb); have n2_ := Aside0.mk (Kd.R_below (by (with_reducible repeat (first | apply Kd.R_alloc | apply Kd.R_drewN | apply Kd.R_drew)); exact HO124.out) hb); have n3_ := Aside0.mk (below_step (by repeat (first | (with_reducible first | exact HB.out | apply below_alloc | apply pw_below_drewN | apply below_drew1) | exact HB.out)) hb); clear HO109; clear HO121; clear HO124; clear HB; have HO109 := n0_; have HO121 := n1_; have HO124 := n2_; have HB := n3_; clear n0_ n1_ n2_ n3_; (try clear hb); (try clear hb2); (try clear hk); (try clear hi)) | ((with_reducible refine gate_dst (N := 45) rfl ?_); refine Kd.R_lit k37 _ 37 ?hg (N := 45) ?hd (xs := ([(⟨0, (⟨#[]⟩ : ByteArray), (⟨#[]⟩ : ByteArray), 0, 0⟩ : S37)] : List (S37))) (inner := [.int .i64 0, .string (⟨#[]⟩ : ByteArray), .string (⟨#[]⟩ : ByteArray), .int .i64 0, .int .i64 0]) (ok := fun _ => True) (okp := fun _ => True) ?hr ?hp (fun _ hk => hk) trivial (Below.refl _ _) (Nat.le_refl _) (by simp) ?_; (case hd => rfl); (case hg => rfl); (case hr => first | (go_simp; done) | (go_simp; rfl) | (go_simp; simp only [isEmpty_ne, isEmpty_eq]; done) | (go_simp; simp only [isEmpty_ne, isEmpty_eq]; rfl)); (case hp => exact (Reps.c5 (show Kd.M k37 _ _ _ (⟨0, (⟨#[]⟩ : ByteArray), (⟨#[]⟩ : ByteArray), 0, 0⟩ : S37) [.int .i64 0, .string (⟨#[]⟩ : ByteArray), .string (⟨#[]⟩ : ByteArray), .int .i64 0, .int .i64 0] from (k37_mkM _ _ _ (⟨0, (⟨#[]⟩ : ByteArray), (⟨#[]⟩ : ByteArray), 0, 0⟩ : S37) )) (Reps.none _ _))); intro v127 w29 ho30 hb hg_ hnew_; clear hg_ hnew_; (first | rw [← Ny126.out] at ho30 | (simp only [Int.reduceToNat] at ho30; rw [← Ny126.out] at ho30)); have n0_ := Aside0.mk (Kd.R_below (by (with_reducible repeat (first | apply Kd.R_alloc | apply Kd.R_drewN | apply Kd.R_drew)); exact HO109.out) hb); have n1_ := Aside0.mk (Kd.R_below (by (with_reducible repeat (first | apply Kd.R_alloc | apply Kd.R_drewN | apply Kd.R_drew)); exact HO121.out) hb); have n2_ := Aside0.mk (Kd.R_elder' (by (with_reducible repeat (first | apply Kd.R_alloc | apply Kd.R_drewN | apply Kd.R_drew)); exact HO124.out) (Kd.R_base ho30) hb); have n3_ := Aside0.mk (Kd.R_lower (Kd.R_new' ho30 (Kd.R_lt (by (with_reducible repeat (first | apply Kd.R_alloc | apply Kd.R_drewN | apply Kd.R_drew)); exact HO124.out))) (below_size (by repeat (first | (with_reducible first | exact HB.out | apply below_alloc | apply pw_below_drewN | apply below_drew1) | exact HB.out)))); have n4_ := Aside0.mk (below_step (by repeat (first | (with_reducible first | exact HB.out | apply below_alloc | apply pw_below_drewN | apply below_drew1) | exact HB.out)) hb); clear HO109; clear HO121; clear HO124; clear HB; have HO109 := n0_; have HO121 := n1_; have HO124 := n2_; have HO128 := n3_; have HB := n4_; clear n0_ n1_ n2_ n3_ n4_; clear hb ho30; obtain ⟨Ao31, co31, eo31⟩ := Kd.R_slice HO128.out; subst eo31) | ((with_reducible refine gate_callee (f := 15) rfl ?_); refine goesL_ (some 46) rfl rfl Tryz.func15 (by kernel_rfl) rfl #[.agg #[.int .i64 5, .int .i64 9, .slice none 0 0, .bool false], .int .i64 6, .int .i64 0, .bool false, .slice Ao31 y126.length co31] rfl (by (try simp only [List.map_toArray, List.map_cons, List.map_nil]); first | done | rfl | (simp only [List.length_drop, List.length_take]; rfl)) ?_; (refine (route_Pass.calls 5 9 _ _ ([] : List ByteArray) false 6 0 false _ _ y126 t129 _ ?side1 ?side2 ?side3 ?side4 ?side5 A5.out).mono ?_); (case side1 => exact Kd.C_nil _ _); (case side2 => exact Nat.le_refl _); (case side3 => repeat (first | exact (Kd.R_reads' HO128.out).2.2 | (with_reducible refine Kd.C_alloc ?_ _) | (with_reducible refine Kd.C_drewN ?_ _) | (with_reducible refine Kd.C_drew ?_))); (case side4 => exact (Kd.R_reads' HO128.out).2.1); (case side5 => exact LaidR.below HLD.out (by repeat (first | (with_reducible first | exact HB.out | apply below_alloc | apply pw_below_drewN | apply below_drew1) | exact HB.out))); rintro e w32 ⟨rfl, hb⟩; refine ⟨_, rfl, ?_⟩; have n0_ := Aside0.mk (Kd.R_below (by (with_reducible repeat (first | apply Kd.R_alloc | apply Kd.R_drewN | apply Kd.R_drew)); exact HO109.out) hb); have n1_ := Aside0.mk (Kd.R_below (by (with_reducible repeat (first | apply Kd.R_alloc | apply Kd.R_drewN | apply Kd.R_drew)); exact HO121.out) hb); have n2_ := Aside0.mk (Kd.R_below (by (with_reducible repeat (first | apply Kd.R_alloc | apply Kd.R_drewN | apply Kd.R_drew)); exact HO124.out) hb); have n3_ := Aside0.mk (Kd.R_below (by (with_reducible repeat (first | apply Kd.R_alloc | apply Kd.R_drewN | apply Kd.R_drew)); exact HO128.out) hb); have n4_ := Aside0.mk (below_step (by repeat (first | (with_reducible first | exact HB.out | apply below_alloc | apply pw_below_drewN | apply below_drew1) | exact HB.out)) hb); clear HO109; clear HO121; clear HO124; clear HO128; clear HB; have HO109 := n0_; have HO121 := n1_; have HO124 := n2_; have HO128 := n3_; have HB := n4_; clear n0_ n1_ n2_ n3_ n4_; (try clear hb); (try clear hb2); (try clear hk); (try clear hi)))
                      all_goals (first | (go_ret; exact ⟨by first | rfl | (simp [errW_none, errW_some] <;> rfl) | (simp [*, errW_none, errW_some] <;> rfl) | (simp_all; done) | fail, by repeat (first | (with_reducible first | exact HB.out | apply below_alloc | apply pw_below_drewN | apply below_drew1) | exact HB.out)⟩) | (exfalso; simp_all; done) | (exfalso; simp only [isEmpty_eq, isEmpty_ne] at *; simp_all; done) | (exfalso; exact isEmpty_clash (by assumption) (by assumption)) | (exfalso; exact isEmpty_clash' (by assumption) (by assumption)) | (exfalso; exact isEmpty_clash2 (by assumption) (by assumption)))
                    · rw [if_neg c15] at H
                      exact absurd H (by simp)
                  · rw [if_neg c14] at H
                    exact absurd H (by simp)
                · replace c13 := Bool.eq_false_iff.mpr c13
                  subst c13
                  have H1 : (none) = some r := by rw [if_neg (show ¬ (false = true) by decide)] at H; exact H
                  clear H
                  have H := H1
                  clear H1
                  exact absurd H (by simp)
              · rw [if_neg c12] at H
                exact absurd H (by simp)
            · rw [if_neg c11] at H
              exact absurd H (by simp)
          · replace c10 := Bool.eq_false_iff.mpr c10
            subst c10
            have H1 : (none) = some r := by rw [if_neg (show ¬ (false = true) by decide)] at H; exact H
            clear H
            have H := H1
            clear H1
            exact absurd H (by simp)
        · rw [if_neg c9] at H
          exact absurd H (by simp)
      · rw [if_neg c8] at H
        exact absurd H (by simp)
    · replace c7 := Bool.eq_false_iff.mpr c7
      subst c7
      have H1 : (none) = some r := by rw [if_neg (show ¬ (false = true) by decide)] at H; exact H
      clear H
      have H := H1
      clear H1
      exact absurd H (by simp)
  · rw [if_neg c6] at H
    exact absurd H (by simp)
end Go.Proofs.YtaknknfcikdjiaaGreatDoor.RF
end

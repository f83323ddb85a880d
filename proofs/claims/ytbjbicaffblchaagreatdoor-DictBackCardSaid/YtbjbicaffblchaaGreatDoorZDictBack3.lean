import Derived.Test.YtbjbicaffblchaaGreatDoorZDictBack2
import Derived.ArgAppend
import Derived.Below
import Derived.BigQuiet
import Derived.Deep.AppendLies
import Derived.Deep.CutBlock
import Derived.Deep.DeepCutAuto
import Derived.Deep.Draws
import Derived.Deep.LoopGhost
import Derived.Deep.OwnRows
import Derived.Deep.QuietTactic
import Derived.Deep.RegionHeld3
import Derived.KernelRfl
import Derived.Laws.BitsLemmas
import Derived.Laws.BytesArg
import Derived.Laws.IdiomCopy
import Derived.Laws.MakeOwn
import Derived.Laws.OwnMore
import Derived.Laws.Rows
import Derived.Laws.Slices
import Derived.Lib.AppendStr
import Derived.Lib.ConvBytes
import Derived.Maps.AppendAt
import Derived.OrdersHeld
import Derived.OwnWalk
import Derived.RowKit
import Derived.RowKit3
import Derived.Tactics
import Derived.Test.YtbjbicaffblchaaGreatDoorProg
import Derived.WalkKit
import Derived.WideLaws
section
namespace Go.Proofs.YtbjbicaffblchaaGreatDoor.SS
open Go.Proofs.YtbjbicaffblchaaGreatDoor.Hand
open Go.Proofs.YtbjbicaffblchaaGreatDoor.SA
open Go.Proofs.YtbjbicaffblchaaGreatDoor.SK
open Go.RowKit Go.Proofs.YtbjbicaffblchaaGreatDoorW.PrintWords Go.Proofs.YtbjbicaffblchaaGreatDoorW.PrintLast Go.Proofs.YtbjbicaffblchaaGreatDoorW.PrintMore
attribute [local go_sem] max2_int min2_int max_two min_two max_three min_three max_four min_four
set_option linter.unusedVariables false
set_option linter.unusedSimpArgs false
def postriderlaw07_shown.f (k : Nat)  : Option (Bool) := (dict_Build.f (([(⟨1, (⟨#[97]⟩ : ByteArray), (⟨#[98]⟩ : ByteArray), 0, 0⟩ : S41), (⟨0, (⟨#[]⟩ : ByteArray), (⟨#[]⟩ : ByteArray), 0, 0⟩ : S41), (⟨1, (⟨#[97]⟩ : ByteArray), (⟨#[98]⟩ : ByteArray), 0, 0⟩ : S41)] : List (S41)))).bind fun bt105 => ((dict_Read.f (⟨#[]⟩ : ByteArray) (([4, 7, 0, 0] : List Int))).bind fun bt113 => ((dict_Read.f (⟨#[]⟩ : ByteArray) (([0, 7] : List Int))).bind fun bt120 => ((dict_Texts.f bt105.1).bind fun bt124 => (if bt105.1.toList = ([100, 116, 110, 0, 47, 47, 97, 47, 98, 0, 110, 111, 110, 101, 0] : List UInt8) then ((postriderref02_Ints.f k bt105.2.1 (([0, 4, 0, 10, 0, 4] : List Int))).bind fun t131 => (if t131 = true then (if bt105.2.2 = 0 then ((postriderref06_Same.f k bt113.1 (([(⟨2, (⟨#[]⟩ : ByteArray), (⟨#[]⟩ : ByteArray), 4, 7⟩ : S41), (⟨0, (⟨#[]⟩ : ByteArray), (⟨#[]⟩ : ByteArray), 0, 0⟩ : S41)] : List (S41)))).bind fun t135 => (if t135 = true then (if bt113.2 = 0 then (if bt120.2 = 70 then ((postriderref07_SameTexts.f k bt124.1 (([(⟨#[100, 116, 110]⟩ : ByteArray), (⟨#[47, 47, 97, 47, 98]⟩ : ByteArray), (⟨#[110, 111, 110, 101]⟩ : ByteArray)] : List ByteArray))).bind fun t139 => (if t139 = true then (some (bt124.2 == 0)) else (none))) else (none)) else (none)) else (none))) else (none)) else (none))) else (none)))))
theorem postriderlaw07_shown.mono : ∀ k, LeO (postriderlaw07_shown.f k ) (postriderlaw07_shown.f (k + 1) ) := by
  intro  k
  unfold postriderlaw07_shown.f
  repeat' first
      | (with_reducible exact postriderref02_Ints.mono _ _ _)
      | (with_reducible exact postriderref06_Same.mono _ _ _)
      | (with_reducible exact postriderref07_SameTexts.mono _ _ _)
      | (with_reducible exact LeO.refl _)
      | (with_reducible exact LeO.none _)
      | (with_reducible refine LeO.ite ?_ ?_)
      | (with_reducible refine LeO.bind ?_ (fun _ => ?_))
      | exact postriderref02_Ints.mono _ _ _
      | exact postriderref06_Same.mono _ _ _
      | exact postriderref07_SameTexts.mono _ _ _
      | exact LeO.none _
      | refine LeO.ite ?_ ?_
      | refine LeO.bind ?_ (fun _ => ?_)
set_option maxHeartbeats 8000000 in
set_option maxRecDepth 100000 in
theorem postriderlaw07_shown.calls (k : Nat)  (r : Bool) (w : World) (hLd : LaidD w) (h : postriderlaw07_shown.f k  = some r) :
    Calls Tryz.prog 8 #[] w fun e w' => e = .returned (.bool r) ∧ Below w.heap.size w w' := by
  have hu41 := Tryz.underlying41
  have HLD := Aside0.mk hLd
  clear hLd
  have HB := Aside0.mk (Below.refl w.heap.size w)
  have H : ((dict_Build.f (([(⟨1, (⟨#[97]⟩ : ByteArray), (⟨#[98]⟩ : ByteArray), 0, 0⟩ : S41), (⟨0, (⟨#[]⟩ : ByteArray), (⟨#[]⟩ : ByteArray), 0, 0⟩ : S41), (⟨1, (⟨#[97]⟩ : ByteArray), (⟨#[98]⟩ : ByteArray), 0, 0⟩ : S41)] : List (S41)))).bind fun bt105 => ((dict_Read.f (⟨#[]⟩ : ByteArray) (([4, 7, 0, 0] : List Int))).bind fun bt113 => ((dict_Read.f (⟨#[]⟩ : ByteArray) (([0, 7] : List Int))).bind fun bt120 => ((dict_Texts.f bt105.1).bind fun bt124 => (if bt105.1.toList = ([100, 116, 110, 0, 47, 47, 97, 47, 98, 0, 110, 111, 110, 101, 0] : List UInt8) then ((postriderref02_Ints.f k bt105.2.1 (([0, 4, 0, 10, 0, 4] : List Int))).bind fun t131 => (if t131 = true then (if bt105.2.2 = 0 then ((postriderref06_Same.f k bt113.1 (([(⟨2, (⟨#[]⟩ : ByteArray), (⟨#[]⟩ : ByteArray), 4, 7⟩ : S41), (⟨0, (⟨#[]⟩ : ByteArray), (⟨#[]⟩ : ByteArray), 0, 0⟩ : S41)] : List (S41)))).bind fun t135 => (if t135 = true then (if bt113.2 = 0 then (if bt120.2 = 70 then ((postriderref07_SameTexts.f k bt124.1 (([(⟨#[100, 116, 110]⟩ : ByteArray), (⟨#[47, 47, 97, 47, 98]⟩ : ByteArray), (⟨#[110, 111, 110, 101]⟩ : ByteArray)] : List ByteArray))).bind fun t139 => (if t139 = true then (some (bt124.2 == 0)) else (none))) else (none)) else (none)) else (none))) else (none)) else (none))) else (none)))))) = some r := h
  clear h
  obtain ⟨y102, hy102⟩ : ∃ y_ : List (S41), y_ = (([(⟨1, (⟨#[97]⟩ : ByteArray), (⟨#[98]⟩ : ByteArray), 0, 0⟩ : S41), (⟨0, (⟨#[]⟩ : ByteArray), (⟨#[]⟩ : ByteArray), 0, 0⟩ : S41), (⟨1, (⟨#[97]⟩ : ByteArray), (⟨#[98]⟩ : ByteArray), 0, 0⟩ : S41)] : List (S41))) := ⟨_, rfl⟩
  replace H : ((dict_Build.f y102).bind fun bt105 => ((dict_Read.f (⟨#[]⟩ : ByteArray) (([4, 7, 0, 0] : List Int))).bind fun bt113 => ((dict_Read.f (⟨#[]⟩ : ByteArray) (([0, 7] : List Int))).bind fun bt120 => ((dict_Texts.f bt105.1).bind fun bt124 => (if bt105.1.toList = ([100, 116, 110, 0, 47, 47, 97, 47, 98, 0, 110, 111, 110, 101, 0] : List UInt8) then ((postriderref02_Ints.f k bt105.2.1 (([0, 4, 0, 10, 0, 4] : List Int))).bind fun t131 => (if t131 = true then (if bt105.2.2 = 0 then ((postriderref06_Same.f k bt113.1 (([(⟨2, (⟨#[]⟩ : ByteArray), (⟨#[]⟩ : ByteArray), 4, 7⟩ : S41), (⟨0, (⟨#[]⟩ : ByteArray), (⟨#[]⟩ : ByteArray), 0, 0⟩ : S41)] : List (S41)))).bind fun t135 => (if t135 = true then (if bt113.2 = 0 then (if bt120.2 = 70 then ((postriderref07_SameTexts.f k bt124.1 (([(⟨#[100, 116, 110]⟩ : ByteArray), (⟨#[47, 47, 97, 47, 98]⟩ : ByteArray), (⟨#[110, 111, 110, 101]⟩ : ByteArray)] : List ByteArray))).bind fun t139 => (if t139 = true then (some (bt124.2 == 0)) else (none))) else (none)) else (none)) else (none))) else (none)) else (none))) else (none)))))) = some r := by first | (rw [hy102]; with_reducible exact H) | (have H2_ := (Option.bind_some _ _).symm.trans H; rw [hy102]; with_reducible exact H2_) | (have H2_ := (Option.bind_some _ _).symm.trans H; with_reducible exact H2_) | with_reducible exact H | (rw [hy102]; exact H) | exact H
  have Ny102 := Aside0.mk hy102
  clear hy102
  replace H := Option.bind_eq_some_iff.mp H
  obtain ⟨⟨t105, t106, t107⟩, A10, H⟩ := H
  replace H : ((dict_Read.f (⟨#[]⟩ : ByteArray) (([4, 7, 0, 0] : List Int))).bind fun bt113 => ((dict_Read.f (⟨#[]⟩ : ByteArray) (([0, 7] : List Int))).bind fun bt120 => ((dict_Texts.f t105).bind fun bt124 => (if t105.toList = ([100, 116, 110, 0, 47, 47, 97, 47, 98, 0, 110, 111, 110, 101, 0] : List UInt8) then ((postriderref02_Ints.f k t106 (([0, 4, 0, 10, 0, 4] : List Int))).bind fun t131 => (if t131 = true then (if t107 = 0 then ((postriderref06_Same.f k bt113.1 (([(⟨2, (⟨#[]⟩ : ByteArray), (⟨#[]⟩ : ByteArray), 4, 7⟩ : S41), (⟨0, (⟨#[]⟩ : ByteArray), (⟨#[]⟩ : ByteArray), 0, 0⟩ : S41)] : List (S41)))).bind fun t135 => (if t135 = true then (if bt113.2 = 0 then (if bt120.2 = 70 then ((postriderref07_SameTexts.f k bt124.1 (([(⟨#[100, 116, 110]⟩ : ByteArray), (⟨#[47, 47, 97, 47, 98]⟩ : ByteArray), (⟨#[110, 111, 110, 101]⟩ : ByteArray)] : List ByteArray))).bind fun t139 => (if t139 = true then (some (bt124.2 == 0)) else (none))) else (none)) else (none)) else (none))) else (none)) else (none))) else (none))))) = some r := H
  have A1 := Aside0.mk A10
  clear A10
  obtain ⟨y110, hy110⟩ : ∃ y_ : List Int, y_ = (([4, 7, 0, 0] : List Int)) := ⟨_, rfl⟩
  replace H : ((dict_Read.f (⟨#[]⟩ : ByteArray) y110).bind fun bt113 => ((dict_Read.f (⟨#[]⟩ : ByteArray) (([0, 7] : List Int))).bind fun bt120 => ((dict_Texts.f t105).bind fun bt124 => (if t105.toList = ([100, 116, 110, 0, 47, 47, 97, 47, 98, 0, 110, 111, 110, 101, 0] : List UInt8) then ((postriderref02_Ints.f k t106 (([0, 4, 0, 10, 0, 4] : List Int))).bind fun t131 => (if t131 = true then (if t107 = 0 then ((postriderref06_Same.f k bt113.1 (([(⟨2, (⟨#[]⟩ : ByteArray), (⟨#[]⟩ : ByteArray), 4, 7⟩ : S41), (⟨0, (⟨#[]⟩ : ByteArray), (⟨#[]⟩ : ByteArray), 0, 0⟩ : S41)] : List (S41)))).bind fun t135 => (if t135 = true then (if bt113.2 = 0 then (if bt120.2 = 70 then ((postriderref07_SameTexts.f k bt124.1 (([(⟨#[100, 116, 110]⟩ : ByteArray), (⟨#[47, 47, 97, 47, 98]⟩ : ByteArray), (⟨#[110, 111, 110, 101]⟩ : ByteArray)] : List ByteArray))).bind fun t139 => (if t139 = true then (some (bt124.2 == 0)) else (none))) else (none)) else (none)) else (none))) else (none)) else (none))) else (none))))) = some r := by first | (rw [hy110]; with_reducible exact H) | (have H2_ := (Option.bind_some _ _).symm.trans H; rw [hy110]; with_reducible exact H2_) | (have H2_ := (Option.bind_some _ _).symm.trans H; with_reducible exact H2_) | with_reducible exact H | (rw [hy110]; exact H) | exact H
  have Ny110 := Aside0.mk hy110
  clear hy110
  replace H := Option.bind_eq_some_iff.mp H
  obtain ⟨⟨t113, t114⟩, A20, H⟩ := H
  replace H : ((dict_Read.f (⟨#[]⟩ : ByteArray) (([0, 7] : List Int))).bind fun bt120 => ((dict_Texts.f t105).bind fun bt124 => (if t105.toList = ([100, 116, 110, 0, 47, 47, 97, 47, 98, 0, 110, 111, 110, 101, 0] : List UInt8) then ((postriderref02_Ints.f k t106 (([0, 4, 0, 10, 0, 4] : List Int))).bind fun t131 => (if t131 = true then (if t107 = 0 then ((postriderref06_Same.f k t113 (([(⟨2, (⟨#[]⟩ : ByteArray), (⟨#[]⟩ : ByteArray), 4, 7⟩ : S41), (⟨0, (⟨#[]⟩ : ByteArray), (⟨#[]⟩ : ByteArray), 0, 0⟩ : S41)] : List (S41)))).bind fun t135 => (if t135 = true then (if t114 = 0 then (if bt120.2 = 70 then ((postriderref07_SameTexts.f k bt124.1 (([(⟨#[100, 116, 110]⟩ : ByteArray), (⟨#[47, 47, 97, 47, 98]⟩ : ByteArray), (⟨#[110, 111, 110, 101]⟩ : ByteArray)] : List ByteArray))).bind fun t139 => (if t139 = true then (some (bt124.2 == 0)) else (none))) else (none)) else (none)) else (none))) else (none)) else (none))) else (none)))) = some r := H
  have A2 := Aside0.mk A20
  clear A20
  obtain ⟨y117, hy117⟩ : ∃ y_ : List Int, y_ = (([0, 7] : List Int)) := ⟨_, rfl⟩
  replace H : ((dict_Read.f (⟨#[]⟩ : ByteArray) y117).bind fun bt120 => ((dict_Texts.f t105).bind fun bt124 => (if t105.toList = ([100, 116, 110, 0, 47, 47, 97, 47, 98, 0, 110, 111, 110, 101, 0] : List UInt8) then ((postriderref02_Ints.f k t106 (([0, 4, 0, 10, 0, 4] : List Int))).bind fun t131 => (if t131 = true then (if t107 = 0 then ((postriderref06_Same.f k t113 (([(⟨2, (⟨#[]⟩ : ByteArray), (⟨#[]⟩ : ByteArray), 4, 7⟩ : S41), (⟨0, (⟨#[]⟩ : ByteArray), (⟨#[]⟩ : ByteArray), 0, 0⟩ : S41)] : List (S41)))).bind fun t135 => (if t135 = true then (if t114 = 0 then (if bt120.2 = 70 then ((postriderref07_SameTexts.f k bt124.1 (([(⟨#[100, 116, 110]⟩ : ByteArray), (⟨#[47, 47, 97, 47, 98]⟩ : ByteArray), (⟨#[110, 111, 110, 101]⟩ : ByteArray)] : List ByteArray))).bind fun t139 => (if t139 = true then (some (bt124.2 == 0)) else (none))) else (none)) else (none)) else (none))) else (none)) else (none))) else (none)))) = some r := by first | (rw [hy117]; with_reducible exact H) | (have H2_ := (Option.bind_some _ _).symm.trans H; rw [hy117]; with_reducible exact H2_) | (have H2_ := (Option.bind_some _ _).symm.trans H; with_reducible exact H2_) | with_reducible exact H | (rw [hy117]; exact H) | exact H
  have Ny117 := Aside0.mk hy117
  clear hy117
  replace H := Option.bind_eq_some_iff.mp H
  obtain ⟨⟨t120, t121⟩, A30, H⟩ := H
  replace H : ((dict_Texts.f t105).bind fun bt124 => (if t105.toList = ([100, 116, 110, 0, 47, 47, 97, 47, 98, 0, 110, 111, 110, 101, 0] : List UInt8) then ((postriderref02_Ints.f k t106 (([0, 4, 0, 10, 0, 4] : List Int))).bind fun t131 => (if t131 = true then (if t107 = 0 then ((postriderref06_Same.f k t113 (([(⟨2, (⟨#[]⟩ : ByteArray), (⟨#[]⟩ : ByteArray), 4, 7⟩ : S41), (⟨0, (⟨#[]⟩ : ByteArray), (⟨#[]⟩ : ByteArray), 0, 0⟩ : S41)] : List (S41)))).bind fun t135 => (if t135 = true then (if t114 = 0 then (if t121 = 70 then ((postriderref07_SameTexts.f k bt124.1 (([(⟨#[100, 116, 110]⟩ : ByteArray), (⟨#[47, 47, 97, 47, 98]⟩ : ByteArray), (⟨#[110, 111, 110, 101]⟩ : ByteArray)] : List ByteArray))).bind fun t139 => (if t139 = true then (some (bt124.2 == 0)) else (none))) else (none)) else (none)) else (none))) else (none)) else (none))) else (none))) = some r := H
  have A3 := Aside0.mk A30
  clear A30
  replace H := Option.bind_eq_some_iff.mp H
  obtain ⟨⟨t124, t125⟩, A40, H⟩ := H
  replace H : (if t105.toList = ([100, 116, 110, 0, 47, 47, 97, 47, 98, 0, 110, 111, 110, 101, 0] : List UInt8) then ((postriderref02_Ints.f k t106 (([0, 4, 0, 10, 0, 4] : List Int))).bind fun t131 => (if t131 = true then (if t107 = 0 then ((postriderref06_Same.f k t113 (([(⟨2, (⟨#[]⟩ : ByteArray), (⟨#[]⟩ : ByteArray), 4, 7⟩ : S41), (⟨0, (⟨#[]⟩ : ByteArray), (⟨#[]⟩ : ByteArray), 0, 0⟩ : S41)] : List (S41)))).bind fun t135 => (if t135 = true then (if t114 = 0 then (if t121 = 70 then ((postriderref07_SameTexts.f k t124 (([(⟨#[100, 116, 110]⟩ : ByteArray), (⟨#[47, 47, 97, 47, 98]⟩ : ByteArray), (⟨#[110, 111, 110, 101]⟩ : ByteArray)] : List ByteArray))).bind fun t139 => (if t139 = true then (some (t125 == 0)) else (none))) else (none)) else (none)) else (none))) else (none)) else (none))) else (none)) = some r := H
  have A4 := Aside0.mk A40
  clear A40
  by_cases c5 : t105.toList = ([100, 116, 110, 0, 47, 47, 97, 47, 98, 0, 110, 111, 110, 101, 0] : List UInt8)
  · rw [if_pos c5] at H
    have c5b0 : (t105.toList == ([100, 116, 110, 0, 47, 47, 97, 47, 98, 0, 110, 111, 110, 101, 0] : List UInt8)) = true := beq_iff_eq.mpr c5
    have c5b1 : (t105.toList != ([100, 116, 110, 0, 47, 47, 97, 47, 98, 0, 110, 111, 110, 101, 0] : List UInt8)) = false := bne_eq_false_iff_eq.mpr c5
    clear c5
    obtain ⟨y128, hy128⟩ : ∃ y_ : List Int, y_ = (([0, 4, 0, 10, 0, 4] : List Int)) := ⟨_, rfl⟩
    replace H : ((postriderref02_Ints.f k t106 y128).bind fun t131 => (if t131 = true then (if t107 = 0 then ((postriderref06_Same.f k t113 (([(⟨2, (⟨#[]⟩ : ByteArray), (⟨#[]⟩ : ByteArray), 4, 7⟩ : S41), (⟨0, (⟨#[]⟩ : ByteArray), (⟨#[]⟩ : ByteArray), 0, 0⟩ : S41)] : List (S41)))).bind fun t135 => (if t135 = true then (if t114 = 0 then (if t121 = 70 then ((postriderref07_SameTexts.f k t124 (([(⟨#[100, 116, 110]⟩ : ByteArray), (⟨#[47, 47, 97, 47, 98]⟩ : ByteArray), (⟨#[110, 111, 110, 101]⟩ : ByteArray)] : List ByteArray))).bind fun t139 => (if t139 = true then (some (t125 == 0)) else (none))) else (none)) else (none)) else (none))) else (none)) else (none))) = some r := by first | (rw [hy128]; with_reducible exact H) | (have H2_ := (Option.bind_some _ _).symm.trans H; rw [hy128]; with_reducible exact H2_) | (have H2_ := (Option.bind_some _ _).symm.trans H; with_reducible exact H2_) | with_reducible exact H | (rw [hy128]; exact H) | exact H
    have Ny128 := Aside0.mk hy128
    clear hy128
    replace H := Option.bind_eq_some_iff.mp H
    obtain ⟨t131, A60, H⟩ := H
    replace H : (if t131 = true then (if t107 = 0 then ((postriderref06_Same.f k t113 (([(⟨2, (⟨#[]⟩ : ByteArray), (⟨#[]⟩ : ByteArray), 4, 7⟩ : S41), (⟨0, (⟨#[]⟩ : ByteArray), (⟨#[]⟩ : ByteArray), 0, 0⟩ : S41)] : List (S41)))).bind fun t135 => (if t135 = true then (if t114 = 0 then (if t121 = 70 then ((postriderref07_SameTexts.f k t124 (([(⟨#[100, 116, 110]⟩ : ByteArray), (⟨#[47, 47, 97, 47, 98]⟩ : ByteArray), (⟨#[110, 111, 110, 101]⟩ : ByteArray)] : List ByteArray))).bind fun t139 => (if t139 = true then (some (t125 == 0)) else (none))) else (none)) else (none)) else (none))) else (none)) else (none)) = some r := H
    have A6 := Aside0.mk A60
    clear A60
    by_cases c7 : t131 = true
    · subst c7
      have H1 : (if t107 = 0 then ((postriderref06_Same.f k t113 (([(⟨2, (⟨#[]⟩ : ByteArray), (⟨#[]⟩ : ByteArray), 4, 7⟩ : S41), (⟨0, (⟨#[]⟩ : ByteArray), (⟨#[]⟩ : ByteArray), 0, 0⟩ : S41)] : List (S41)))).bind fun t135 => (if t135 = true then (if t114 = 0 then (if t121 = 70 then ((postriderref07_SameTexts.f k t124 (([(⟨#[100, 116, 110]⟩ : ByteArray), (⟨#[47, 47, 97, 47, 98]⟩ : ByteArray), (⟨#[110, 111, 110, 101]⟩ : ByteArray)] : List ByteArray))).bind fun t139 => (if t139 = true then (some (t125 == 0)) else (none))) else (none)) else (none)) else (none))) else (none)) = some r := by rw [if_pos rfl] at H; exact H
      clear H
      have H := H1
      clear H1
      by_cases c8 : t107 = 0
      · rw [if_pos c8] at H
        have c8b0 : (t107 == 0) = true := beq_iff_eq.mpr c8
        have c8b1 : (t107 != 0) = false := bne_eq_false_iff_eq.mpr c8
        clear c8
        obtain ⟨y132, hy132⟩ : ∃ y_ : List (S41), y_ = (([(⟨2, (⟨#[]⟩ : ByteArray), (⟨#[]⟩ : ByteArray), 4, 7⟩ : S41), (⟨0, (⟨#[]⟩ : ByteArray), (⟨#[]⟩ : ByteArray), 0, 0⟩ : S41)] : List (S41))) := ⟨_, rfl⟩
        replace H : ((postriderref06_Same.f k t113 y132).bind fun t135 => (if t135 = true then (if t114 = 0 then (if t121 = 70 then ((postriderref07_SameTexts.f k t124 (([(⟨#[100, 116, 110]⟩ : ByteArray), (⟨#[47, 47, 97, 47, 98]⟩ : ByteArray), (⟨#[110, 111, 110, 101]⟩ : ByteArray)] : List ByteArray))).bind fun t139 => (if t139 = true then (some (t125 == 0)) else (none))) else (none)) else (none)) else (none))) = some r := by first | (rw [hy132]; with_reducible exact H) | (have H2_ := (Option.bind_some _ _).symm.trans H; rw [hy132]; with_reducible exact H2_) | (have H2_ := (Option.bind_some _ _).symm.trans H; with_reducible exact H2_) | with_reducible exact H | (rw [hy132]; exact H) | exact H
        have Ny132 := Aside0.mk hy132
        clear hy132
        replace H := Option.bind_eq_some_iff.mp H
        obtain ⟨t135, A90, H⟩ := H
        replace H : (if t135 = true then (if t114 = 0 then (if t121 = 70 then ((postriderref07_SameTexts.f k t124 (([(⟨#[100, 116, 110]⟩ : ByteArray), (⟨#[47, 47, 97, 47, 98]⟩ : ByteArray), (⟨#[110, 111, 110, 101]⟩ : ByteArray)] : List ByteArray))).bind fun t139 => (if t139 = true then (some (t125 == 0)) else (none))) else (none)) else (none)) else (none)) = some r := H
        have A9 := Aside0.mk A90
        clear A90
        by_cases c10 : t135 = true
        · subst c10
          have H1 : (if t114 = 0 then (if t121 = 70 then ((postriderref07_SameTexts.f k t124 (([(⟨#[100, 116, 110]⟩ : ByteArray), (⟨#[47, 47, 97, 47, 98]⟩ : ByteArray), (⟨#[110, 111, 110, 101]⟩ : ByteArray)] : List ByteArray))).bind fun t139 => (if t139 = true then (some (t125 == 0)) else (none))) else (none)) else (none)) = some r := by rw [if_pos rfl] at H; exact H
          clear H
          have H := H1
          clear H1
          by_cases c11 : t114 = 0
          · rw [if_pos c11] at H
            have c11b0 : (t114 == 0) = true := beq_iff_eq.mpr c11
            have c11b1 : (t114 != 0) = false := bne_eq_false_iff_eq.mpr c11
            clear c11
            by_cases c12 : t121 = 70
            · rw [if_pos c12] at H
              have c12b0 : (t121 == 70) = true := beq_iff_eq.mpr c12
              have c12b1 : (t121 != 70) = false := bne_eq_false_iff_eq.mpr c12
              clear c12
              obtain ⟨y136, hy136⟩ : ∃ y_ : List ByteArray, y_ = (([(⟨#[100, 116, 110]⟩ : ByteArray), (⟨#[47, 47, 97, 47, 98]⟩ : ByteArray), (⟨#[110, 111, 110, 101]⟩ : ByteArray)] : List ByteArray)) := ⟨_, rfl⟩
              replace H : ((postriderref07_SameTexts.f k t124 y136).bind fun t139 => (if t139 = true then (some (t125 == 0)) else (none))) = some r := by first | (rw [hy136]; with_reducible exact H) | (have H2_ := (Option.bind_some _ _).symm.trans H; rw [hy136]; with_reducible exact H2_) | (have H2_ := (Option.bind_some _ _).symm.trans H; with_reducible exact H2_) | with_reducible exact H | (rw [hy136]; exact H) | exact H
              have Ny136 := Aside0.mk hy136
              clear hy136
              replace H := Option.bind_eq_some_iff.mp H
              obtain ⟨t139, A130, H⟩ := H
              replace H : (if t139 = true then (some (t125 == 0)) else (none)) = some r := H
              have A13 := Aside0.mk A130
              clear A130
              by_cases c14 : t139 = true
              · subst c14
                have H1 : (some (t125 == 0)) = some r := by rw [if_pos rfl] at H; exact H
                clear H
                have H := H1
                clear H1
                obtain rfl := Option.some.inj H
                go_enter Tryz.func8, Tryz.ntmps8
                go_wp2_with (first | ((with_reducible refine gate_dst (N := 1) rfl ?_); (try (refine gate_guard (by rfl) ?_; dsimp only)); refine box_event ?hg (N := 1) ?hd (cs := #[.int .i64 0, .string (⟨#[]⟩ : ByteArray), .string (⟨#[]⟩ : ByteArray), .int .i64 0, .int .i64 0]) (t := 41) ?hr ?_; (case hd => rfl); (case hg => rfl); (case hr => first | (go_simp; done) | (go_simp; rfl) | (go_simp; simp only [isEmpty_ne, isEmpty_eq]; done) | (go_simp; simp only [isEmpty_ne, isEmpty_eq]; rfl)); intro gb101 hg w15 hbox hb; have n0_ := Aside0.mk (below_step (by repeat (first | (with_reducible first | exact HB.out | apply below_alloc | apply pw_below_drewN | apply below_drew1) | exact HB.out)) hb); have n1_ := Aside0.mk (hbox); have n2_ := Aside0.mk ((by rw [hg]; exact (below_size (by repeat (first | (with_reducible first | exact HB.out | apply below_alloc | apply pw_below_drewN | apply below_drew1) | exact HB.out))) : w.heap.size ≤ gb101)); have n3_ := Aside0.mk ((by rw [hg]; exact (below_size (by repeat (first | (with_reducible first | exact HB.out | apply below_alloc | apply pw_below_drewN | apply below_drew1) | exact HB.out))) : w.heap.size ≤ gb101)); clear HB; have HB := n0_; have BK101 := n1_; have GW101 := n2_; have GE101 := n3_; clear n0_ n1_ n2_ n3_; clear hb hbox hg; have hcz16_0 : w15.cell? ⟨gb101, 0, none⟩ = some (.int .i64 0) := (blk_cell BK101.out 0).trans rfl; have hcz16_1 : w15.cell? ⟨gb101, 1, none⟩ = some (.string (⟨#[]⟩ : ByteArray)) := (blk_cell BK101.out 1).trans rfl; have hcz16_2 : w15.cell? ⟨gb101, 2, none⟩ = some (.string (⟨#[]⟩ : ByteArray)) := (blk_cell BK101.out 2).trans rfl; have hcz16_3 : w15.cell? ⟨gb101, 3, none⟩ = some (.int .i64 0) := (blk_cell BK101.out 3).trans rfl; have hcz16_4 : w15.cell? ⟨gb101, 4, none⟩ = some (.int .i64 0) := (blk_cell BK101.out 4).trans rfl; have hfz16_0 := blk_frozen BK101.out 0; have hfz16_1 := blk_frozen BK101.out 1; have hfz16_2 := blk_frozen BK101.out 2; have hfz16_3 := blk_frozen BK101.out 3; have hfz16_4 := blk_frozen BK101.out 4) | ((with_reducible refine gate_dst (N := 16) rfl ?_); (try (refine gate_guard (by rfl) ?_; dsimp only)); refine Kd.R_lit k41 _ 41 ?hg (N := 16) ?hd (xs := ([(⟨1, (⟨#[97]⟩ : ByteArray), (⟨#[98]⟩ : ByteArray), 0, 0⟩ : S41), (⟨0, (⟨#[]⟩ : ByteArray), (⟨#[]⟩ : ByteArray), 0, 0⟩ : S41), (⟨1, (⟨#[97]⟩ : ByteArray), (⟨#[98]⟩ : ByteArray), 0, 0⟩ : S41)] : List (S41))) (inner := [.int .i64 1, .string (⟨#[97]⟩ : ByteArray), .string (⟨#[98]⟩ : ByteArray), .int .i64 0, .int .i64 0, .int .i64 0, .string (⟨#[]⟩ : ByteArray), .string (⟨#[]⟩ : ByteArray), .int .i64 0, .int .i64 0, .int .i64 1, .string (⟨#[97]⟩ : ByteArray), .string (⟨#[98]⟩ : ByteArray), .int .i64 0, .int .i64 0]) (ok := fun _ => True) (okp := fun _ => True) ?hr ?hp (fun _ hk => hk) trivial (Below.refl _ _) (Nat.le_refl _) (by simp) ?_; (case hd => rfl); (case hg => rfl); (case hr => first | (go_simp; done) | (go_simp; rfl) | (go_simp; simp only [isEmpty_ne, isEmpty_eq]; done) | (go_simp; simp only [isEmpty_ne, isEmpty_eq]; rfl)); (case hp => exact (Reps.c5 (show Kd.M k41 _ _ _ (⟨1, (⟨#[97]⟩ : ByteArray), (⟨#[98]⟩ : ByteArray), 0, 0⟩ : S41) [.int .i64 1, .string (⟨#[97]⟩ : ByteArray), .string (⟨#[98]⟩ : ByteArray), .int .i64 0, .int .i64 0] from (k41_mkM _ _ _ (⟨1, (⟨#[97]⟩ : ByteArray), (⟨#[98]⟩ : ByteArray), 0, 0⟩ : S41) )) (Reps.c5 (show Kd.M k41 _ _ _ (⟨0, (⟨#[]⟩ : ByteArray), (⟨#[]⟩ : ByteArray), 0, 0⟩ : S41) [.int .i64 0, .string (⟨#[]⟩ : ByteArray), .string (⟨#[]⟩ : ByteArray), .int .i64 0, .int .i64 0] from (k41_mkM _ _ _ (⟨0, (⟨#[]⟩ : ByteArray), (⟨#[]⟩ : ByteArray), 0, 0⟩ : S41) )) (Reps.c5 (show Kd.M k41 _ _ _ (⟨1, (⟨#[97]⟩ : ByteArray), (⟨#[98]⟩ : ByteArray), 0, 0⟩ : S41) [.int .i64 1, .string (⟨#[97]⟩ : ByteArray), .string (⟨#[98]⟩ : ByteArray), .int .i64 0, .int .i64 0] from (k41_mkM _ _ _ (⟨1, (⟨#[97]⟩ : ByteArray), (⟨#[98]⟩ : ByteArray), 0, 0⟩ : S41) )) (Reps.none _ _))))); intro v103 w17 ho18 hb hg_ hnew_; clear hg_ hnew_; (first | rw [← Ny102.out] at ho18 | (simp only [Int.reduceToNat] at ho18; rw [← Ny102.out] at ho18)); have n0_ := Aside0.mk (Kd.R_lower (Kd.R_newB ho18 (g := gb101) (o := .cells #[.int .i64 1, .string (⟨#[97]⟩ : ByteArray), .string (⟨#[98]⟩ : ByteArray), .int .i64 0, .int .i64 0] 41 (0, 0)) (by (with_reducible repeat (first | refine blk_drewN ?_ _ | refine blk_drew ?_ | refine blk_alloc ?_ _)); refine blk_put (cs := #[.int .i64 1, .string (⟨#[97]⟩ : ByteArray), .string (⟨#[98]⟩ : ByteArray), .int .i64 0, .int .i64 0]) ?_ 4 _ rfl; (with_reducible repeat (first | refine blk_drewN ?_ _ | refine blk_drew ?_ | refine blk_alloc ?_ _)); refine blk_put (cs := #[.int .i64 1, .string (⟨#[97]⟩ : ByteArray), .string (⟨#[98]⟩ : ByteArray), .int .i64 0, .int .i64 0]) ?_ 3 _ rfl; (with_reducible repeat (first | refine blk_drewN ?_ _ | refine blk_drew ?_ | refine blk_alloc ?_ _)); refine blk_put (cs := #[.int .i64 1, .string (⟨#[97]⟩ : ByteArray), .string (⟨#[]⟩ : ByteArray), .int .i64 0, .int .i64 0]) ?_ 2 _ rfl; (with_reducible repeat (first | refine blk_drewN ?_ _ | refine blk_drew ?_ | refine blk_alloc ?_ _)); refine blk_put (cs := #[.int .i64 1, .string (⟨#[]⟩ : ByteArray), .string (⟨#[]⟩ : ByteArray), .int .i64 0, .int .i64 0]) ?_ 1 _ rfl; (with_reducible repeat (first | refine blk_drewN ?_ _ | refine blk_drew ?_ | refine blk_alloc ?_ _)); refine blk_put (cs := #[.int .i64 0, .string (⟨#[]⟩ : ByteArray), .string (⟨#[]⟩ : ByteArray), .int .i64 0, .int .i64 0]) ?_ 0 _ rfl; (with_reducible repeat (first | refine blk_drewN ?_ _ | refine blk_drew ?_ | refine blk_alloc ?_ _)); exact BK101.out)) (below_size (by repeat (first | (with_reducible first | exact HB.out | apply below_alloc | apply pw_below_drewN | apply below_drew1 | refine below_set ?_ GE101.out) | exact HB.out)))); have n1_ := Aside0.mk (blk_below (g := gb101) (o := .cells #[.int .i64 1, .string (⟨#[97]⟩ : ByteArray), .string (⟨#[98]⟩ : ByteArray), .int .i64 0, .int .i64 0] 41 (0, 0)) (by (with_reducible repeat (first | refine blk_drewN ?_ _ | refine blk_drew ?_ | refine blk_alloc ?_ _)); refine blk_put (cs := #[.int .i64 1, .string (⟨#[97]⟩ : ByteArray), .string (⟨#[98]⟩ : ByteArray), .int .i64 0, .int .i64 0]) ?_ 4 _ rfl; (with_reducible repeat (first | refine blk_drewN ?_ _ | refine blk_drew ?_ | refine blk_alloc ?_ _)); refine blk_put (cs := #[.int .i64 1, .string (⟨#[97]⟩ : ByteArray), .string (⟨#[98]⟩ : ByteArray), .int .i64 0, .int .i64 0]) ?_ 3 _ rfl; (with_reducible repeat (first | refine blk_drewN ?_ _ | refine blk_drew ?_ | refine blk_alloc ?_ _)); refine blk_put (cs := #[.int .i64 1, .string (⟨#[97]⟩ : ByteArray), .string (⟨#[]⟩ : ByteArray), .int .i64 0, .int .i64 0]) ?_ 2 _ rfl; (with_reducible repeat (first | refine blk_drewN ?_ _ | refine blk_drew ?_ | refine blk_alloc ?_ _)); refine blk_put (cs := #[.int .i64 1, .string (⟨#[]⟩ : ByteArray), .string (⟨#[]⟩ : ByteArray), .int .i64 0, .int .i64 0]) ?_ 1 _ rfl; (with_reducible repeat (first | refine blk_drewN ?_ _ | refine blk_drew ?_ | refine blk_alloc ?_ _)); refine blk_put (cs := #[.int .i64 0, .string (⟨#[]⟩ : ByteArray), .string (⟨#[]⟩ : ByteArray), .int .i64 0, .int .i64 0]) ?_ 0 _ rfl; (with_reducible repeat (first | refine blk_drewN ?_ _ | refine blk_drew ?_ | refine blk_alloc ?_ _)); exact BK101.out) hb); have n2_ := Aside0.mk (below_step (by repeat (first | (with_reducible first | exact HB.out | apply below_alloc | apply pw_below_drewN | apply below_drew1 | refine below_set ?_ GE101.out) | exact HB.out)) hb); clear BK101; clear HB; have HO104 := n0_; have BK101 := n1_; have HB := n2_; clear n0_ n1_ n2_; clear hb ho18; obtain ⟨Ao19, co19, eo19⟩ := Kd.R_slice HO104.out; subst eo19) | ((with_reducible refine gate_callee (f := 12) rfl ?_); refine goesL_ (some 17) rfl rfl Tryz.func12 (by kernel_rfl) rfl #[.slice Ao19 y102.length co19] rfl (by (try simp only [List.map_toArray, List.map_cons, List.map_nil]); first | done | rfl | (simp only [List.length_drop, List.length_take]; rfl)) ?_; (with_reducible refine (dict_Build.calls _ _ y102 t105 t106 t107 _ ?side1 ?side2 ?side3 A1.out).mono ?_); (case side1 => repeat (first | exact (Kd.R_reads' HO104.out).2.2 | (with_reducible refine Kd.C_alloc ?_ _) | (with_reducible refine Kd.C_drewN ?_ _) | (with_reducible refine Kd.C_drew ?_))); (case side2 => exact (Kd.R_reads' HO104.out).2.1); (case side3 => exact LaidD.below HLD.out (by repeat (first | (with_reducible first | exact HB.out | apply below_alloc | apply pw_below_drewN | apply below_drew1 | refine below_set ?_ GE101.out) | exact HB.out))); rintro e w20 ⟨v108, rfl, ho0, hb⟩; refine ⟨_, rfl, ?_⟩; have n0_ := Aside0.mk (Kd.R_below (by (with_reducible repeat (first | apply Kd.R_alloc | apply Kd.R_drewN | apply Kd.R_drew)); exact HO104.out) hb); have n1_ := Aside0.mk (Kd.R_lower ho0 (below_size (by repeat (first | (with_reducible first | exact HB.out | apply below_alloc | apply pw_below_drewN | apply below_drew1 | refine below_set ?_ GE101.out) | exact HB.out)))); have n2_ := Aside0.mk (blk_below (g := gb101) (o := .cells #[.int .i64 1, .string (⟨#[97]⟩ : ByteArray), .string (⟨#[98]⟩ : ByteArray), .int .i64 0, .int .i64 0] 41 (0, 0)) (by (with_reducible repeat (first | refine blk_drewN ?_ _ | refine blk_drew ?_ | refine blk_alloc ?_ _)); exact BK101.out) hb); have n3_ := Aside0.mk (below_step (by repeat (first | (with_reducible first | exact HB.out | apply below_alloc | apply pw_below_drewN | apply below_drew1 | refine below_set ?_ GE101.out) | exact HB.out)) hb); clear HO104; clear BK101; clear HB; have HO104 := n0_; have HO109 := n1_; have BK101 := n2_; have HB := n3_; clear n0_ n1_ n2_ n3_; (try clear hb); (try clear hb2); (try clear hk); (try clear hi); (try clear ho0)) | ((with_reducible refine gate_dst (N := 22) rfl ?_); (try (refine gate_guard (by rfl) ?_; dsimp only)); refine Kd.R_lit (Kd.int .i64) _ 3 ?hg (N := 22) ?hd (xs := ([4, 7, 0, 0] : List Int)) (inner := [.int .i64 4, .int .i64 7, .int .i64 0, .int .i64 0]) (ok := fun _ => True) (okp := fun _ => True) ?hr ?hp (fun _ hk => hk) trivial (Below.refl _ _) (Nat.le_refl _) (by simp) ?_; (case hd => rfl); (case hg => rfl); (case hr => first | (go_simp; done) | (go_simp; rfl) | (go_simp; simp only [isEmpty_ne, isEmpty_eq]; done) | (go_simp; simp only [isEmpty_ne, isEmpty_eq]; rfl)); (case hp => exact (Reps.one (show Kd.M (Kd.int .i64) _ _ _ 4 [.int .i64 4] from rfl) (Reps.one (show Kd.M (Kd.int .i64) _ _ _ 7 [.int .i64 7] from rfl) (Reps.one (show Kd.M (Kd.int .i64) _ _ _ 0 [.int .i64 0] from rfl) (Reps.one (show Kd.M (Kd.int .i64) _ _ _ 0 [.int .i64 0] from rfl) (Reps.none _ _)))))); intro v111 w21 ho22 hb hg_ hnew_; clear hg_ hnew_; (first | rw [← Ny110.out] at ho22 | (simp only [Int.reduceToNat] at ho22; rw [← Ny110.out] at ho22)); have n0_ := Aside0.mk (Kd.R_below (by (with_reducible repeat (first | apply Kd.R_alloc | apply Kd.R_drewN | apply Kd.R_drew)); exact HO104.out) hb); have n1_ := Aside0.mk (Kd.R_elder' (by (with_reducible repeat (first | apply Kd.R_alloc | apply Kd.R_drewN | apply Kd.R_drew)); exact HO109.out) (Kd.R_base ho22) hb); have n2_ := Aside0.mk (Kd.R_lower (Kd.R_new' ho22 (Kd.R_lt (by (with_reducible repeat (first | apply Kd.R_alloc | apply Kd.R_drewN | apply Kd.R_drew)); exact HO109.out))) (below_size (by repeat (first | (with_reducible first | exact HB.out | apply below_alloc | apply pw_below_drewN | apply below_drew1 | refine below_set ?_ GE101.out) | exact HB.out)))); have n3_ := Aside0.mk (blk_below (g := gb101) (o := .cells #[.int .i64 1, .string (⟨#[97]⟩ : ByteArray), .string (⟨#[98]⟩ : ByteArray), .int .i64 0, .int .i64 0] 41 (0, 0)) (by (with_reducible repeat (first | refine blk_drewN ?_ _ | refine blk_drew ?_ | refine blk_alloc ?_ _)); exact BK101.out) hb); have n4_ := Aside0.mk (below_step (by repeat (first | (with_reducible first | exact HB.out | apply below_alloc | apply pw_below_drewN | apply below_drew1 | refine below_set ?_ GE101.out) | exact HB.out)) hb); clear HO104; clear HO109; clear BK101; clear HB; have HO104 := n0_; have HO109 := n1_; have HO112 := n2_; have BK101 := n3_; have HB := n4_; clear n0_ n1_ n2_ n3_ n4_; clear hb ho22; obtain ⟨Ao23, co23, eo23⟩ := Kd.R_slice HO112.out; subst eo23) | ((with_reducible refine gate_callee (f := 14) rfl ?_); refine goesL_ (some 23) rfl rfl Tryz.func14 (by kernel_rfl) rfl #[.string (⟨#[]⟩ : ByteArray), .slice Ao23 y110.length co23] rfl (by (try simp only [List.map_toArray, List.map_cons, List.map_nil]); first | done | rfl | (simp only [List.length_drop, List.length_take]; rfl)) ?_; (with_reducible refine (dict_Read.calls (⟨#[]⟩ : ByteArray) _ _ y110 t113 t114 _ ?side1 ?side2 ?side3 A2.out).mono ?_); (case side1 => repeat (first | exact (Kd.R_reads' HO112.out).2.2 | (with_reducible refine Kd.C_alloc ?_ _) | (with_reducible refine Kd.C_drewN ?_ _) | (with_reducible refine Kd.C_drew ?_))); (case side2 => exact (Kd.R_reads' HO112.out).2.1); (case side3 => exact LaidD.below HLD.out (by repeat (first | (with_reducible first | exact HB.out | apply below_alloc | apply pw_below_drewN | apply below_drew1 | refine below_set ?_ GE101.out) | exact HB.out))); rintro e w24 ⟨v115, rfl, ho0, hb⟩; refine ⟨_, rfl, ?_⟩; have n0_ := Aside0.mk (Kd.R_elder' (by (with_reducible repeat (first | apply Kd.R_alloc | apply Kd.R_drewN | apply Kd.R_drew)); exact HO104.out) (Kd.R_base ho0) hb); have n1_ := Aside0.mk (Kd.R_below (by (with_reducible repeat (first | apply Kd.R_alloc | apply Kd.R_drewN | apply Kd.R_drew)); exact HO109.out) hb); have n2_ := Aside0.mk (Kd.R_below (by (with_reducible repeat (first | apply Kd.R_alloc | apply Kd.R_drewN | apply Kd.R_drew)); exact HO112.out) hb); have n3_ := Aside0.mk (Kd.R_lower (Kd.R_newB (Kd.R_new' ho0 (Kd.R_lt (by (with_reducible repeat (first | apply Kd.R_alloc | apply Kd.R_drewN | apply Kd.R_drew)); exact HO104.out))) (g := gb101) (o := .cells #[.int .i64 1, .string (⟨#[97]⟩ : ByteArray), .string (⟨#[98]⟩ : ByteArray), .int .i64 0, .int .i64 0] 41 (0, 0)) (by (with_reducible repeat (first | refine blk_drewN ?_ _ | refine blk_drew ?_ | refine blk_alloc ?_ _)); exact BK101.out)) (below_size (by repeat (first | (with_reducible first | exact HB.out | apply below_alloc | apply pw_below_drewN | apply below_drew1 | refine below_set ?_ GE101.out) | exact HB.out)))); have n4_ := Aside0.mk (blk_below (g := gb101) (o := .cells #[.int .i64 1, .string (⟨#[97]⟩ : ByteArray), .string (⟨#[98]⟩ : ByteArray), .int .i64 0, .int .i64 0] 41 (0, 0)) (by (with_reducible repeat (first | refine blk_drewN ?_ _ | refine blk_drew ?_ | refine blk_alloc ?_ _)); exact BK101.out) hb); have n5_ := Aside0.mk (below_step (by repeat (first | (with_reducible first | exact HB.out | apply below_alloc | apply pw_below_drewN | apply below_drew1 | refine below_set ?_ GE101.out) | exact HB.out)) hb); clear HO104; clear HO109; clear HO112; clear BK101; clear HB; have HO104 := n0_; have HO109 := n1_; have HO112 := n2_; have HO116 := n3_; have BK101 := n4_; have HB := n5_; clear n0_ n1_ n2_ n3_ n4_ n5_; (try clear hb); (try clear hb2); (try clear hk); (try clear hi); (try clear ho0)) | ((with_reducible refine gate_dst (N := 27) rfl ?_); (try (refine gate_guard (by rfl) ?_; dsimp only)); refine Kd.R_lit (Kd.int .i64) _ 3 ?hg (N := 27) ?hd (xs := ([0, 7] : List Int)) (inner := [.int .i64 0, .int .i64 7]) (ok := fun _ => True) (okp := fun _ => True) ?hr ?hp (fun _ hk => hk) trivial (Below.refl _ _) (Nat.le_refl _) (by simp) ?_; (case hd => rfl); (case hg => rfl); (case hr => first | (go_simp; done) | (go_simp; rfl) | (go_simp; simp only [isEmpty_ne, isEmpty_eq]; done) | (go_simp; simp only [isEmpty_ne, isEmpty_eq]; rfl)); (case hp => exact (Reps.one (show Kd.M (Kd.int .i64) _ _ _ 0 [.int .i64 0] from rfl) (Reps.one (show Kd.M (Kd.int .i64) _ _ _ 7 [.int .i64 7] from rfl) (Reps.none _ _)))); intro v118 w25 ho26 hb hg_ hnew_; clear hg_ hnew_; (first | rw [← Ny117.out] at ho26 | (simp only [Int.reduceToNat] at ho26; rw [← Ny117.out] at ho26)); have n0_ := Aside0.mk (Kd.R_below (by (with_reducible repeat (first | apply Kd.R_alloc | apply Kd.R_drewN | apply Kd.R_drew)); exact HO104.out) hb); have n1_ := Aside0.mk (Kd.R_elder' (by (with_reducible repeat (first | apply Kd.R_alloc | apply Kd.R_drewN | apply Kd.R_drew)); exact HO109.out) (Kd.R_base ho26) hb); have n2_ := Aside0.mk (Kd.R_elder' (by (with_reducible repeat (first | apply Kd.R_alloc | apply Kd.R_drewN | apply Kd.R_drew)); exact HO112.out) (Kd.R_base ho26) hb); have n3_ := Aside0.mk (Kd.R_below (by (with_reducible repeat (first | apply Kd.R_alloc | apply Kd.R_drewN | apply Kd.R_drew)); exact HO116.out) hb); have n4_ := Aside0.mk (Kd.R_lower (Kd.R_new' (Kd.R_new' ho26 (Kd.R_lt (by (with_reducible repeat (first | apply Kd.R_alloc | apply Kd.R_drewN | apply Kd.R_drew)); exact HO109.out))) (Kd.R_lt (by (with_reducible repeat (first | apply Kd.R_alloc | apply Kd.R_drewN | apply Kd.R_drew)); exact HO112.out))) (below_size (by repeat (first | (with_reducible first | exact HB.out | apply below_alloc | apply pw_below_drewN | apply below_drew1 | refine below_set ?_ GE101.out) | exact HB.out)))); have n5_ := Aside0.mk (blk_below (g := gb101) (o := .cells #[.int .i64 1, .string (⟨#[97]⟩ : ByteArray), .string (⟨#[98]⟩ : ByteArray), .int .i64 0, .int .i64 0] 41 (0, 0)) (by (with_reducible repeat (first | refine blk_drewN ?_ _ | refine blk_drew ?_ | refine blk_alloc ?_ _)); exact BK101.out) hb); have n6_ := Aside0.mk (below_step (by repeat (first | (with_reducible first | exact HB.out | apply below_alloc | apply pw_below_drewN | apply below_drew1 | refine below_set ?_ GE101.out) | exact HB.out)) hb); clear HO104; clear HO109; clear HO112; clear HO116; clear BK101; clear HB; have HO104 := n0_; have HO109 := n1_; have HO112 := n2_; have HO116 := n3_; have HO119 := n4_; have BK101 := n5_; have HB := n6_; clear n0_ n1_ n2_ n3_ n4_ n5_ n6_; clear hb ho26; obtain ⟨Ao27, co27, eo27⟩ := Kd.R_slice HO119.out; subst eo27) | ((with_reducible refine gate_callee (f := 14) rfl ?_); refine goesL_ (some 28) rfl rfl Tryz.func14 (by kernel_rfl) rfl #[.string (⟨#[]⟩ : ByteArray), .slice Ao27 y117.length co27] rfl (by (try simp only [List.map_toArray, List.map_cons, List.map_nil]); first | done | rfl | (simp only [List.length_drop, List.length_take]; rfl)) ?_; (with_reducible refine (dict_Read.calls (⟨#[]⟩ : ByteArray) _ _ y117 t120 t121 _ ?side1 ?side2 ?side3 A3.out).mono ?_); (case side1 => repeat (first | exact (Kd.R_reads' HO119.out).2.2 | (with_reducible refine Kd.C_alloc ?_ _) | (with_reducible refine Kd.C_drewN ?_ _) | (with_reducible refine Kd.C_drew ?_))); (case side2 => exact (Kd.R_reads' HO119.out).2.1); (case side3 => exact LaidD.below HLD.out (by repeat (first | (with_reducible first | exact HB.out | apply below_alloc | apply pw_below_drewN | apply below_drew1 | refine below_set ?_ GE101.out) | exact HB.out))); rintro e w28 ⟨v122, rfl, ho0, hb⟩; refine ⟨_, rfl, ?_⟩; have n0_ := Aside0.mk (Kd.R_elder' (by (with_reducible repeat (first | apply Kd.R_alloc | apply Kd.R_drewN | apply Kd.R_drew)); exact HO104.out) (Kd.R_base ho0) hb); have n1_ := Aside0.mk (Kd.R_below (by (with_reducible repeat (first | apply Kd.R_alloc | apply Kd.R_drewN | apply Kd.R_drew)); exact HO109.out) hb); have n2_ := Aside0.mk (Kd.R_below (by (with_reducible repeat (first | apply Kd.R_alloc | apply Kd.R_drewN | apply Kd.R_drew)); exact HO112.out) hb); have n3_ := Aside0.mk (Kd.R_elder' (by (with_reducible repeat (first | apply Kd.R_alloc | apply Kd.R_drewN | apply Kd.R_drew)); exact HO116.out) (Kd.R_base ho0) hb); have n4_ := Aside0.mk (Kd.R_below (by (with_reducible repeat (first | apply Kd.R_alloc | apply Kd.R_drewN | apply Kd.R_drew)); exact HO119.out) hb); have n5_ := Aside0.mk (Kd.R_lower (Kd.R_newB (Kd.R_new' (Kd.R_new' ho0 (Kd.R_lt (by (with_reducible repeat (first | apply Kd.R_alloc | apply Kd.R_drewN | apply Kd.R_drew)); exact HO104.out))) (Kd.R_lt (by (with_reducible repeat (first | apply Kd.R_alloc | apply Kd.R_drewN | apply Kd.R_drew)); exact HO116.out))) (g := gb101) (o := .cells #[.int .i64 1, .string (⟨#[97]⟩ : ByteArray), .string (⟨#[98]⟩ : ByteArray), .int .i64 0, .int .i64 0] 41 (0, 0)) (by (with_reducible repeat (first | refine blk_drewN ?_ _ | refine blk_drew ?_ | refine blk_alloc ?_ _)); exact BK101.out)) (below_size (by repeat (first | (with_reducible first | exact HB.out | apply below_alloc | apply pw_below_drewN | apply below_drew1 | refine below_set ?_ GE101.out) | exact HB.out)))); have n6_ := Aside0.mk (blk_below (g := gb101) (o := .cells #[.int .i64 1, .string (⟨#[97]⟩ : ByteArray), .string (⟨#[98]⟩ : ByteArray), .int .i64 0, .int .i64 0] 41 (0, 0)) (by (with_reducible repeat (first | refine blk_drewN ?_ _ | refine blk_drew ?_ | refine blk_alloc ?_ _)); exact BK101.out) hb); have n7_ := Aside0.mk (below_step (by repeat (first | (with_reducible first | exact HB.out | apply below_alloc | apply pw_below_drewN | apply below_drew1 | refine below_set ?_ GE101.out) | exact HB.out)) hb); clear HO104; clear HO109; clear HO112; clear HO116; clear HO119; clear BK101; clear HB; have HO104 := n0_; have HO109 := n1_; have HO112 := n2_; have HO116 := n3_; have HO119 := n4_; have HO123 := n5_; have BK101 := n6_; have HB := n7_; clear n0_ n1_ n2_ n3_ n4_ n5_ n6_ n7_; (try clear hb); (try clear hb2); (try clear hk); (try clear hi); (try clear ho0)) | ((with_reducible refine gate_callee (f := 16) rfl ?_); refine goesL_ (some 33) rfl rfl Tryz.func16 (by kernel_rfl) rfl #[.string t105] rfl (by (try simp only [List.map_toArray, List.map_cons, List.map_nil]); first | done | rfl | (simp only [List.length_drop, List.length_take]; rfl)) ?_; (with_reducible refine (dict_Texts.calls t105 t124 t125 _ ?side1 A4.out).mono ?_); (case side1 => exact LaidD.below HLD.out (by repeat (first | (with_reducible first | exact HB.out | apply below_alloc | apply pw_below_drewN | apply below_drew1 | refine below_set ?_ GE101.out) | exact HB.out))); rintro e w29 ⟨v126, rfl, ho0, hb⟩; refine ⟨_, rfl, ?_⟩; have n0_ := Aside0.mk (Kd.R_below (by (with_reducible repeat (first | apply Kd.R_alloc | apply Kd.R_drewN | apply Kd.R_drew)); exact HO104.out) hb); have n1_ := Aside0.mk (Kd.R_below (by (with_reducible repeat (first | apply Kd.R_alloc | apply Kd.R_drewN | apply Kd.R_drew)); exact HO109.out) hb); have n2_ := Aside0.mk (Kd.R_below (by (with_reducible repeat (first | apply Kd.R_alloc | apply Kd.R_drewN | apply Kd.R_drew)); exact HO112.out) hb); have n3_ := Aside0.mk (Kd.R_below (by (with_reducible repeat (first | apply Kd.R_alloc | apply Kd.R_drewN | apply Kd.R_drew)); exact HO116.out) hb); have n4_ := Aside0.mk (Kd.R_below (by (with_reducible repeat (first | apply Kd.R_alloc | apply Kd.R_drewN | apply Kd.R_drew)); exact HO119.out) hb); have n5_ := Aside0.mk (Kd.R_below (by (with_reducible repeat (first | apply Kd.R_alloc | apply Kd.R_drewN | apply Kd.R_drew)); exact HO123.out) hb); have n6_ := Aside0.mk (Kd.R_lower ho0 (below_size (by repeat (first | (with_reducible first | exact HB.out | apply below_alloc | apply pw_below_drewN | apply below_drew1 | refine below_set ?_ GE101.out) | exact HB.out)))); have n7_ := Aside0.mk (blk_below (g := gb101) (o := .cells #[.int .i64 1, .string (⟨#[97]⟩ : ByteArray), .string (⟨#[98]⟩ : ByteArray), .int .i64 0, .int .i64 0] 41 (0, 0)) (by (with_reducible repeat (first | refine blk_drewN ?_ _ | refine blk_drew ?_ | refine blk_alloc ?_ _)); exact BK101.out) hb); have n8_ := Aside0.mk (below_step (by repeat (first | (with_reducible first | exact HB.out | apply below_alloc | apply pw_below_drewN | apply below_drew1 | refine below_set ?_ GE101.out) | exact HB.out)) hb); clear HO104; clear HO109; clear HO112; clear HO116; clear HO119; clear HO123; clear BK101; clear HB; have HO104 := n0_; have HO109 := n1_; have HO112 := n2_; have HO116 := n3_; have HO119 := n4_; have HO123 := n5_; have HO127 := n6_; have BK101 := n7_; have HB := n8_; clear n0_ n1_ n2_ n3_ n4_ n5_ n6_ n7_ n8_; (try clear hb); (try clear hb2); (try clear hk); (try clear hi); (try clear ho0)) | ((with_reducible refine gate_dst (N := 40) rfl ?_); (try (refine gate_guard (by rfl) ?_; dsimp only)); refine Kd.R_lit (Kd.int .i64) _ 3 ?hg (N := 40) ?hd (xs := ([0, 4, 0, 10, 0, 4] : List Int)) (inner := [.int .i64 0, .int .i64 4, .int .i64 0, .int .i64 10, .int .i64 0, .int .i64 4]) (ok := fun _ => True) (okp := fun _ => True) ?hr ?hp (fun _ hk => hk) trivial (Below.refl _ _) (Nat.le_refl _) (by simp) ?_; (case hd => rfl); (case hg => rfl); (case hr => first | (go_simp; done) | (go_simp; rfl) | (go_simp; simp only [isEmpty_ne, isEmpty_eq]; done) | (go_simp; simp only [isEmpty_ne, isEmpty_eq]; rfl)); (case hp => exact (Reps.one (show Kd.M (Kd.int .i64) _ _ _ 0 [.int .i64 0] from rfl) (Reps.one (show Kd.M (Kd.int .i64) _ _ _ 4 [.int .i64 4] from rfl) (Reps.one (show Kd.M (Kd.int .i64) _ _ _ 0 [.int .i64 0] from rfl) (Reps.one (show Kd.M (Kd.int .i64) _ _ _ 10 [.int .i64 10] from rfl) (Reps.one (show Kd.M (Kd.int .i64) _ _ _ 0 [.int .i64 0] from rfl) (Reps.one (show Kd.M (Kd.int .i64) _ _ _ 4 [.int .i64 4] from rfl) (Reps.none _ _)))))))); intro v129 w30 ho31 hb hg_ hnew_; clear hg_ hnew_; (first | rw [← Ny128.out] at ho31 | (simp only [Int.reduceToNat] at ho31; rw [← Ny128.out] at ho31)); have n0_ := Aside0.mk (Kd.R_below (by (with_reducible repeat (first | apply Kd.R_alloc | apply Kd.R_drewN | apply Kd.R_drew)); exact HO104.out) hb); have n1_ := Aside0.mk (Kd.R_elder' (by (with_reducible repeat (first | apply Kd.R_alloc | apply Kd.R_drewN | apply Kd.R_drew)); exact HO109.out) (Kd.R_base ho31) hb); have n2_ := Aside0.mk (Kd.R_elder' (by (with_reducible repeat (first | apply Kd.R_alloc | apply Kd.R_drewN | apply Kd.R_drew)); exact HO112.out) (Kd.R_base ho31) hb); have n3_ := Aside0.mk (Kd.R_below (by (with_reducible repeat (first | apply Kd.R_alloc | apply Kd.R_drewN | apply Kd.R_drew)); exact HO116.out) hb); have n4_ := Aside0.mk (Kd.R_elder' (by (with_reducible repeat (first | apply Kd.R_alloc | apply Kd.R_drewN | apply Kd.R_drew)); exact HO119.out) (Kd.R_base ho31) hb); have n5_ := Aside0.mk (Kd.R_below (by (with_reducible repeat (first | apply Kd.R_alloc | apply Kd.R_drewN | apply Kd.R_drew)); exact HO123.out) hb); have n6_ := Aside0.mk (Kd.R_below (by (with_reducible repeat (first | apply Kd.R_alloc | apply Kd.R_drewN | apply Kd.R_drew)); exact HO127.out) hb); have n7_ := Aside0.mk (Kd.R_lower (Kd.R_new' (Kd.R_new' (Kd.R_new' ho31 (Kd.R_lt (by (with_reducible repeat (first | apply Kd.R_alloc | apply Kd.R_drewN | apply Kd.R_drew)); exact HO109.out))) (Kd.R_lt (by (with_reducible repeat (first | apply Kd.R_alloc | apply Kd.R_drewN | apply Kd.R_drew)); exact HO112.out))) (Kd.R_lt (by (with_reducible repeat (first | apply Kd.R_alloc | apply Kd.R_drewN | apply Kd.R_drew)); exact HO119.out))) (below_size (by repeat (first | (with_reducible first | exact HB.out | apply below_alloc | apply pw_below_drewN | apply below_drew1 | refine below_set ?_ GE101.out) | exact HB.out)))); have n8_ := Aside0.mk (blk_below (g := gb101) (o := .cells #[.int .i64 1, .string (⟨#[97]⟩ : ByteArray), .string (⟨#[98]⟩ : ByteArray), .int .i64 0, .int .i64 0] 41 (0, 0)) (by (with_reducible repeat (first | refine blk_drewN ?_ _ | refine blk_drew ?_ | refine blk_alloc ?_ _)); exact BK101.out) hb); have n9_ := Aside0.mk (below_step (by repeat (first | (with_reducible first | exact HB.out | apply below_alloc | apply pw_below_drewN | apply below_drew1 | refine below_set ?_ GE101.out) | exact HB.out)) hb); clear HO104; clear HO109; clear HO112; clear HO116; clear HO119; clear HO123; clear HO127; clear BK101; clear HB; have HO104 := n0_; have HO109 := n1_; have HO112 := n2_; have HO116 := n3_; have HO119 := n4_; have HO123 := n5_; have HO127 := n6_; have HO130 := n7_; have BK101 := n8_; have HB := n9_; clear n0_ n1_ n2_ n3_ n4_ n5_ n6_ n7_ n8_ n9_; clear hb ho31; obtain ⟨Ao32, co32, eo32⟩ := Kd.R_slice HO109.out; subst eo32; obtain ⟨Ao33, co33, eo33⟩ := Kd.R_slice HO130.out; subst eo33) | (go_at_call 18; (with_reducible refine (postriderref02_Ints.calls k _ _ t106 _ _ y128 true _ ?side1 ?side2 ?side3 ?side4 A6.out).mono ?_); (case side1 => repeat (first | exact (Kd.R_reads' HO109.out).2.2 | (with_reducible refine Kd.C_alloc ?_ _) | (with_reducible refine Kd.C_drewN ?_ _) | (with_reducible refine Kd.C_drew ?_))); (case side2 => exact (Kd.R_reads' HO109.out).2.1); (case side3 => repeat (first | exact (Kd.R_reads' HO130.out).2.2 | (with_reducible refine Kd.C_alloc ?_ _) | (with_reducible refine Kd.C_drewN ?_ _) | (with_reducible refine Kd.C_drew ?_))); (case side4 => exact (Kd.R_reads' HO130.out).2.1); rintro e w' ⟨rfl, ⟨nd, rfl⟩⟩) | ((with_reducible refine gate_dst (N := 51) rfl ?_); (try (refine gate_guard (by rfl) ?_; dsimp only)); refine Kd.R_lit k41 _ 41 ?hg (N := 51) ?hd (xs := ([(⟨2, (⟨#[]⟩ : ByteArray), (⟨#[]⟩ : ByteArray), 4, 7⟩ : S41), (⟨0, (⟨#[]⟩ : ByteArray), (⟨#[]⟩ : ByteArray), 0, 0⟩ : S41)] : List (S41))) (inner := [.int .i64 2, .string (⟨#[]⟩ : ByteArray), .string (⟨#[]⟩ : ByteArray), .int .i64 4, .int .i64 7, .int .i64 0, .string (⟨#[]⟩ : ByteArray), .string (⟨#[]⟩ : ByteArray), .int .i64 0, .int .i64 0]) (ok := fun _ => True) (okp := fun _ => True) ?hr ?hp (fun _ hk => hk) trivial (Below.refl _ _) (Nat.le_refl _) (by simp) ?_; (case hd => rfl); (case hg => rfl); (case hr => first | (go_simp; done) | (go_simp; rfl) | (go_simp; simp only [isEmpty_ne, isEmpty_eq]; done) | (go_simp; simp only [isEmpty_ne, isEmpty_eq]; rfl)); (case hp => exact (Reps.c5 (show Kd.M k41 _ _ _ (⟨2, (⟨#[]⟩ : ByteArray), (⟨#[]⟩ : ByteArray), 4, 7⟩ : S41) [.int .i64 2, .string (⟨#[]⟩ : ByteArray), .string (⟨#[]⟩ : ByteArray), .int .i64 4, .int .i64 7] from (k41_mkM _ _ _ (⟨2, (⟨#[]⟩ : ByteArray), (⟨#[]⟩ : ByteArray), 4, 7⟩ : S41) )) (Reps.c5 (show Kd.M k41 _ _ _ (⟨0, (⟨#[]⟩ : ByteArray), (⟨#[]⟩ : ByteArray), 0, 0⟩ : S41) [.int .i64 0, .string (⟨#[]⟩ : ByteArray), .string (⟨#[]⟩ : ByteArray), .int .i64 0, .int .i64 0] from (k41_mkM _ _ _ (⟨0, (⟨#[]⟩ : ByteArray), (⟨#[]⟩ : ByteArray), 0, 0⟩ : S41) )) (Reps.none _ _)))); intro v133 w34 ho35 hb hg_ hnew_; clear hg_ hnew_; (first | rw [← Ny132.out] at ho35 | (simp only [Int.reduceToNat] at ho35; rw [← Ny132.out] at ho35)); have n0_ := Aside0.mk (Kd.R_elder' (by (with_reducible repeat (first | apply Kd.R_alloc | apply Kd.R_drewN | apply Kd.R_drew)); exact HO104.out) (Kd.R_base ho35) hb); have n1_ := Aside0.mk (Kd.R_below (by (with_reducible repeat (first | apply Kd.R_alloc | apply Kd.R_drewN | apply Kd.R_drew)); exact HO109.out) hb); have n2_ := Aside0.mk (Kd.R_below (by (with_reducible repeat (first | apply Kd.R_alloc | apply Kd.R_drewN | apply Kd.R_drew)); exact HO112.out) hb); have n3_ := Aside0.mk (Kd.R_elder' (by (with_reducible repeat (first | apply Kd.R_alloc | apply Kd.R_drewN | apply Kd.R_drew)); exact HO116.out) (Kd.R_base ho35) hb); have n4_ := Aside0.mk (Kd.R_below (by (with_reducible repeat (first | apply Kd.R_alloc | apply Kd.R_drewN | apply Kd.R_drew)); exact HO119.out) hb); have n5_ := Aside0.mk (Kd.R_elder' (by (with_reducible repeat (first | apply Kd.R_alloc | apply Kd.R_drewN | apply Kd.R_drew)); exact HO123.out) (Kd.R_base ho35) hb); have n6_ := Aside0.mk (Kd.R_below (by (with_reducible repeat (first | apply Kd.R_alloc | apply Kd.R_drewN | apply Kd.R_drew)); exact HO127.out) hb); have n7_ := Aside0.mk (Kd.R_below (by (with_reducible repeat (first | apply Kd.R_alloc | apply Kd.R_drewN | apply Kd.R_drew)); exact HO130.out) hb); have n8_ := Aside0.mk (Kd.R_lower (Kd.R_newB (Kd.R_new' (Kd.R_new' (Kd.R_new' ho35 (Kd.R_lt (by (with_reducible repeat (first | apply Kd.R_alloc | apply Kd.R_drewN | apply Kd.R_drew)); exact HO104.out))) (Kd.R_lt (by (with_reducible repeat (first | apply Kd.R_alloc | apply Kd.R_drewN | apply Kd.R_drew)); exact HO116.out))) (Kd.R_lt (by (with_reducible repeat (first | apply Kd.R_alloc | apply Kd.R_drewN | apply Kd.R_drew)); exact HO123.out))) (g := gb101) (o := .cells #[.int .i64 1, .string (⟨#[97]⟩ : ByteArray), .string (⟨#[98]⟩ : ByteArray), .int .i64 0, .int .i64 0] 41 (0, 0)) (by (with_reducible repeat (first | refine blk_drewN ?_ _ | refine blk_drew ?_ | refine blk_alloc ?_ _)); exact BK101.out)) (below_size (by repeat (first | (with_reducible first | exact HB.out | apply below_alloc | apply pw_below_drewN | apply below_drew1 | refine below_set ?_ GE101.out) | exact HB.out)))); have n9_ := Aside0.mk (blk_below (g := gb101) (o := .cells #[.int .i64 1, .string (⟨#[97]⟩ : ByteArray), .string (⟨#[98]⟩ : ByteArray), .int .i64 0, .int .i64 0] 41 (0, 0)) (by (with_reducible repeat (first | refine blk_drewN ?_ _ | refine blk_drew ?_ | refine blk_alloc ?_ _)); exact BK101.out) hb); have n10_ := Aside0.mk (below_step (by repeat (first | (with_reducible first | exact HB.out | apply below_alloc | apply pw_below_drewN | apply below_drew1 | refine below_set ?_ GE101.out) | exact HB.out)) hb); clear HO104; clear HO109; clear HO112; clear HO116; clear HO119; clear HO123; clear HO127; clear HO130; clear BK101; clear HB; have HO104 := n0_; have HO109 := n1_; have HO112 := n2_; have HO116 := n3_; have HO119 := n4_; have HO123 := n5_; have HO127 := n6_; have HO130 := n7_; have HO134 := n8_; have BK101 := n9_; have HB := n10_; clear n0_ n1_ n2_ n3_ n4_ n5_ n6_ n7_ n8_ n9_ n10_; clear hb ho35; obtain ⟨Ao36, co36, eo36⟩ := Kd.R_slice HO116.out; subst eo36; obtain ⟨Ao37, co37, eo37⟩ := Kd.R_slice HO134.out; subst eo37) | (go_at_call 19; (with_reducible refine (postriderref06_Same.calls k _ _ t113 _ _ y132 true _ ?side1 ?side2 ?side3 ?side4 A9.out).mono ?_); (case side1 => repeat (first | exact (Kd.R_reads' HO116.out).2.2 | (with_reducible refine Kd.C_alloc ?_ _) | (with_reducible refine Kd.C_drewN ?_ _) | (with_reducible refine Kd.C_drew ?_))); (case side2 => exact (Kd.R_reads' HO116.out).2.1); (case side3 => repeat (first | exact (Kd.R_reads' HO134.out).2.2 | (with_reducible refine Kd.C_alloc ?_ _) | (with_reducible refine Kd.C_drewN ?_ _) | (with_reducible refine Kd.C_drew ?_))); (case side4 => exact (Kd.R_reads' HO134.out).2.1); rintro e w' ⟨rfl, ⟨nd, rfl⟩⟩) | ((with_reducible refine gate_dst (N := 64) rfl ?_); (try (refine gate_guard (by rfl) ?_; dsimp only)); refine Kd.R_lit Kd.string _ 9 ?hg (N := 64) ?hd (xs := ([(⟨#[100, 116, 110]⟩ : ByteArray), (⟨#[47, 47, 97, 47, 98]⟩ : ByteArray), (⟨#[110, 111, 110, 101]⟩ : ByteArray)] : List ByteArray)) (inner := [.string (⟨#[100, 116, 110]⟩ : ByteArray), .string (⟨#[47, 47, 97, 47, 98]⟩ : ByteArray), .string (⟨#[110, 111, 110, 101]⟩ : ByteArray)]) (ok := fun _ => True) (okp := fun _ => True) ?hr ?hp (fun _ hk => hk) trivial (Below.refl _ _) (Nat.le_refl _) (by simp) ?_; (case hd => rfl); (case hg => rfl); (case hr => first | (go_simp; done) | (go_simp; rfl) | (go_simp; simp only [isEmpty_ne, isEmpty_eq]; done) | (go_simp; simp only [isEmpty_ne, isEmpty_eq]; rfl)); (case hp => exact (Reps.one (show Kd.M Kd.string _ _ _ (⟨#[100, 116, 110]⟩ : ByteArray) [.string (⟨#[100, 116, 110]⟩ : ByteArray)] from rfl) (Reps.one (show Kd.M Kd.string _ _ _ (⟨#[47, 47, 97, 47, 98]⟩ : ByteArray) [.string (⟨#[47, 47, 97, 47, 98]⟩ : ByteArray)] from rfl) (Reps.one (show Kd.M Kd.string _ _ _ (⟨#[110, 111, 110, 101]⟩ : ByteArray) [.string (⟨#[110, 111, 110, 101]⟩ : ByteArray)] from rfl) (Reps.none _ _))))); intro v137 w38 ho39 hb hg_ hnew_; clear hg_ hnew_; (first | rw [← Ny136.out] at ho39 | (simp only [Int.reduceToNat] at ho39; rw [← Ny136.out] at ho39)); have n0_ := Aside0.mk (Kd.R_below (by (with_reducible repeat (first | apply Kd.R_alloc | apply Kd.R_drewN | apply Kd.R_drew)); exact HO104.out) hb); have n1_ := Aside0.mk (Kd.R_below (by (with_reducible repeat (first | apply Kd.R_alloc | apply Kd.R_drewN | apply Kd.R_drew)); exact HO109.out) hb); have n2_ := Aside0.mk (Kd.R_below (by (with_reducible repeat (first | apply Kd.R_alloc | apply Kd.R_drewN | apply Kd.R_drew)); exact HO112.out) hb); have n3_ := Aside0.mk (Kd.R_below (by (with_reducible repeat (first | apply Kd.R_alloc | apply Kd.R_drewN | apply Kd.R_drew)); exact HO116.out) hb); have n4_ := Aside0.mk (Kd.R_below (by (with_reducible repeat (first | apply Kd.R_alloc | apply Kd.R_drewN | apply Kd.R_drew)); exact HO119.out) hb); have n5_ := Aside0.mk (Kd.R_below (by (with_reducible repeat (first | apply Kd.R_alloc | apply Kd.R_drewN | apply Kd.R_drew)); exact HO123.out) hb); have n6_ := Aside0.mk (Kd.R_elder' (by (with_reducible repeat (first | apply Kd.R_alloc | apply Kd.R_drewN | apply Kd.R_drew)); exact HO127.out) (Kd.R_base ho39) hb); have n7_ := Aside0.mk (Kd.R_below (by (with_reducible repeat (first | apply Kd.R_alloc | apply Kd.R_drewN | apply Kd.R_drew)); exact HO130.out) hb); have n8_ := Aside0.mk (Kd.R_below (by (with_reducible repeat (first | apply Kd.R_alloc | apply Kd.R_drewN | apply Kd.R_drew)); exact HO134.out) hb); have n9_ := Aside0.mk (Kd.R_lower (Kd.R_new' ho39 (Kd.R_lt (by (with_reducible repeat (first | apply Kd.R_alloc | apply Kd.R_drewN | apply Kd.R_drew)); exact HO127.out))) (below_size (by repeat (first | (with_reducible first | exact HB.out | apply below_alloc | apply pw_below_drewN | apply below_drew1 | refine below_set ?_ GE101.out) | exact HB.out)))); have n10_ := Aside0.mk (blk_below (g := gb101) (o := .cells #[.int .i64 1, .string (⟨#[97]⟩ : ByteArray), .string (⟨#[98]⟩ : ByteArray), .int .i64 0, .int .i64 0] 41 (0, 0)) (by (with_reducible repeat (first | refine blk_drewN ?_ _ | refine blk_drew ?_ | refine blk_alloc ?_ _)); exact BK101.out) hb); have n11_ := Aside0.mk (below_step (by repeat (first | (with_reducible first | exact HB.out | apply below_alloc | apply pw_below_drewN | apply below_drew1 | refine below_set ?_ GE101.out) | exact HB.out)) hb); clear HO104; clear HO109; clear HO112; clear HO116; clear HO119; clear HO123; clear HO127; clear HO130; clear HO134; clear BK101; clear HB; have HO104 := n0_; have HO109 := n1_; have HO112 := n2_; have HO116 := n3_; have HO119 := n4_; have HO123 := n5_; have HO127 := n6_; have HO130 := n7_; have HO134 := n8_; have HO138 := n9_; have BK101 := n10_; have HB := n11_; clear n0_ n1_ n2_ n3_ n4_ n5_ n6_ n7_ n8_ n9_ n10_ n11_; clear hb ho39; obtain ⟨Ao40, co40, eo40⟩ := Kd.R_slice HO127.out; subst eo40; obtain ⟨Ao41, co41, eo41⟩ := Kd.R_slice HO138.out; subst eo41) | (go_at_call 20; (with_reducible refine (postriderref07_SameTexts.calls k _ _ t124 _ _ y136 true _ ?side1 ?side2 ?side3 ?side4 A13.out).mono ?_); (case side1 => repeat (first | exact (Kd.R_reads' HO127.out).2.2 | (with_reducible refine Kd.C_alloc ?_ _) | (with_reducible refine Kd.C_drewN ?_ _) | (with_reducible refine Kd.C_drew ?_))); (case side2 => exact (Kd.R_reads' HO127.out).2.1); (case side3 => repeat (first | exact (Kd.R_reads' HO138.out).2.2 | (with_reducible refine Kd.C_alloc ?_ _) | (with_reducible refine Kd.C_drewN ?_ _) | (with_reducible refine Kd.C_drew ?_))); (case side4 => exact (Kd.R_reads' HO138.out).2.1); rintro e w' ⟨rfl, ⟨nd, rfl⟩⟩))
                all_goals (first | (go_ret; exact ⟨by first | rfl | (simp [errW_none, errW_some] <;> rfl) | (simp [*, errW_none, errW_some] <;> rfl) | (simp_all; done), by repeat (first | (with_reducible first | exact HB.out | apply below_alloc | apply pw_below_drewN | apply below_drew1 | refine below_set ?_ GE101.out) | exact HB.out)⟩) | (exfalso; simp_all; done))
              · replace c14 := Bool.eq_false_iff.mpr c14
                subst c14
                have H1 : (none) = some r := by rw [if_neg (show ¬ (false = true) by decide)] at H; exact H
                clear H
                have H := H1
                clear H1
                exact absurd H (by simp)
            · rw [if_neg c12] at H
              exact absurd H (by simp)
          · rw [if_neg c11] at H
            exact absurd H (by simp)
        · replace c10 := Bool.eq_false_iff.mpr c10
          subst c10
          have H1 : (none) = some r := by rw [if_neg (show ¬ (false = true) by decide)] at H; exact H
          clear H
          have H := H1
          clear H1
          exact absurd H (by simp)
      · rw [if_neg c8] at H
        exact absurd H (by simp)
    · replace c7 := Bool.eq_false_iff.mpr c7
      subst c7
      have H1 : (none) = some r := by rw [if_neg (show ¬ (false = true) by decide)] at H; exact H
      clear H
      have H := H1
      clear H1
      exact absurd H (by simp)
  · rw [if_neg c5] at H
    exact absurd H (by simp)
end Go.Proofs.YtbjbicaffblchaaGreatDoor.SS
end
section
namespace Go.Proofs.YtbjbicaffblchaaGreatDoor.Hand
open Go.RowKit Go.Proofs.YtbjbicaffblchaaGreatDoorW Go.Proofs.YtbjbicaffblchaaGreatDoorW.PrintWords Go.Proofs.YtbjbicaffblchaaGreatDoor.SK Go.Proofs.YtbjbicaffblchaaGreatDoor.SS
theorem Build_is {l : List Nm} (h : ∀ z ∈ l, z.f1.size ≤ 21 ∧ z.f2.size ≤ 21) : dict_Build.f l = some (buildT l) := by
  unfold dict_Build.f
  rw [if_pos]
  unfold okB
  rw [List.all_eq_true]
  intro x hx
  have h1 : x.f1.size ≤ maxLen := Nat.le_trans (h x hx).1 (by decide)
  have h2 : x.f2.size ≤ maxLen := Nat.le_trans (h x hx).2 (by decide)
  simp [h1, h2]
theorem Read_is (s : ByteArray) (p : List Int) (h : s.size ≤ 1000000) : dict_Read.f s p = some (readT s p) := by
  unfold dict_Read.f
  rw [if_pos (by omega)]
theorem Texts_is (s : ByteArray) (h : s.size ≤ 1000000) : dict_Texts.f s = some (textsT s) := by
  unfold dict_Texts.f
  rw [if_pos (by omega)]
abbrev exA : Nm := ⟨1, ⟨#[97]⟩, ⟨#[98]⟩, 0, 0⟩
abbrev exS : ByteArray := ⟨#[100, 116, 110, 0, 47, 47, 97, 47, 98, 0, 110, 111, 110, 101, 0]⟩
theorem ex_build : buildT [exA, zeroNm, exA] = (exS, [0, 4, 0, 10, 0, 4], 0) := by decide +kernel
theorem ex_texts : textsT exS = ([⟨#[100, 116, 110]⟩, ⟨#[47, 47, 97, 47, 98]⟩, ⟨#[110, 111, 110, 101]⟩], 0) := by decide +kernel
theorem ex_read : readT ⟨#[]⟩ [4, 7, 0, 0] = ([⟨2, ⟨#[]⟩, ⟨#[]⟩, 4, 7⟩, zeroNm], 0) := by decide +kernel
theorem ex_read2 : readT ⟨#[]⟩ [0, 7] = ([], 70) := by decide +kernel
theorem shown_true (k : Nat) (hk : 100 < k) : postriderlaw07_shown.f k = some true := by
  unfold postriderlaw07_shown.f
  have hb : dict_Build.f [exA, zeroNm, exA] = some (buildT [exA, zeroNm, exA]) := Build_is (by decide)
  rw [ex_build] at hb
  have h1 := (Read_is ⟨#[]⟩ [4, 7, 0, 0] (by decide)).trans (congrArg some ex_read)
  have h2 := (Read_is ⟨#[]⟩ [0, 7] (by decide)).trans (congrArg some ex_read2)
  have h3 := (Texts_is exS (by decide)).trans (congrArg some ex_texts)
  have e1 := ints_is [0, 4, 0, 10, 0, 4] [0, 4, 0, 10, 0, 4] k (by decide) (by simp; omega)
  have e2 := same_is [⟨2, ⟨#[]⟩, ⟨#[]⟩, 4, 7⟩, zeroNm] [⟨2, ⟨#[]⟩, ⟨#[]⟩, 4, 7⟩, zeroNm] k (by decide) (by simp; omega)
  have e3 := sameTexts_is [⟨#[100, 116, 110]⟩, ⟨#[47, 47, 97, 47, 98]⟩, ⟨#[110, 111, 110, 101]⟩] [⟨#[100, 116, 110]⟩, ⟨#[47, 47, 97, 47, 98]⟩, ⟨#[110, 111, 110, 101]⟩] k (by decide) (by simp; omega)
  rw [decide_eq_true rfl] at e1 e2 e3
  refine (congrArg (fun z => Option.bind z _) hb).trans ?_
  simp only [Option.bind_some]
  refine (congrArg (fun z => Option.bind z _) h1).trans ?_
  simp only [Option.bind_some]
  refine (congrArg (fun z => Option.bind z _) h2).trans ?_
  simp only [Option.bind_some]
  refine (congrArg (fun z => Option.bind z _) h3).trans ?_
  simp only [Option.bind_some]
  rw [if_pos (by rw [ByteArray.toList_eq])]
  refine (congrArg (fun z => Option.bind z _) e1).trans ?_
  simp only [Option.bind_some, if_true]
  refine (congrArg (fun z => Option.bind z _) e2).trans ?_
  simp only [Option.bind_some, if_true]
  refine (congrArg (fun z => Option.bind z _) e3).trans ?_
  simp only [Option.bind_some, if_true]
  rfl
end Go.Proofs.YtbjbicaffblchaaGreatDoor.Hand
end
section
namespace Go.Proofs.YtbjbicaffblchaaGreatDoor.Hand
open Go.RowKit
end Go.Proofs.YtbjbicaffblchaaGreatDoor.Hand
end
section
namespace Go.Proofs.YtbjbicaffblchaaGreatDoor.Hand
open Go.RowKit Go.Proofs.YtbjbicaffblchaaGreatDoorW Go.Proofs.YtbjbicaffblchaaGreatDoorW.PrintWords Go.Proofs.YtbjbicaffblchaaGreatDoor.SK
abbrev Nm.w (x : Nm) : List UInt8 := x.word.data.toList
abbrev Nm.r (x : Nm) : List UInt8 := x.rest.data.toList
theorem addL_keep {L : List (List UInt8)} {P : List UInt8 → Prop} (h : ∀ t ∈ L, P t) {t : List UInt8} (ht : P t) : ∀ u ∈ addL L t, P u := by
  unfold addL
  split
  · exact h
  · intro u hu
    rcases List.mem_append.1 hu with hu | hu
    · exact h u hu
    · rw [List.mem_singleton.1 hu]; exact ht
theorem built_false (l : List Nm) : ∀ (L0 : List (List UInt8)) (p0 : List Int), l.foldl (buildF false) (L0, p0) = (L0, p0 ++ l.flatMap fun x => [x.f3, x.f4]) := by
  induction l with
  | nil => intro L0 p0; simp
  | cons x r ih =>
    intro L0 p0
    simp only [List.foldl_cons, List.flatMap_cons]
    rw [show buildF false (L0, p0) x = (L0, p0 ++ [x.f3, x.f4]) from rfl, ih]
    simp
theorem built_true (l : List Nm) : ∀ (L0 : List (List UInt8)) (p0 : List Int), ∃ M, l.foldl (buildF true) (L0, p0) = (L0 ++ M, p0 ++ l.flatMap fun x => [((placeL (L0 ++ M) x.w : Nat) : Int), ((placeL (L0 ++ M) x.r : Nat) : Int)]) ∧ ∀ x ∈ l, x.w ∈ L0 ++ M ∧ x.r ∈ L0 ++ M := by
  induction l with
  | nil => intro L0 p0; exact ⟨[], by simp, fun x hx => by cases hx⟩
  | cons x r ih =>
    intro L0 p0
    have e : buildF true (L0, p0) x = (addL (addL L0 x.w) x.r, p0 ++ [((placeL (addL L0 x.w) x.w : Nat) : Int)] ++ [((placeL (addL (addL L0 x.w) x.r) x.r : Nat) : Int)]) := rfl
    obtain ⟨M1, h1⟩ := addL_pre L0 x.w
    obtain ⟨M2, h2⟩ := addL_pre (addL L0 x.w) x.r
    obtain ⟨M, h3, h4⟩ := ih (addL (addL L0 x.w) x.r) (p0 ++ [((placeL (addL L0 x.w) x.w : Nat) : Int)] ++ [((placeL (addL (addL L0 x.w) x.r) x.r : Nat) : Int)])
    have hw := addL_mem L0 x.w
    have hr := addL_mem (addL L0 x.w) x.r
    have hL : addL (addL L0 x.w) x.r ++ M = L0 ++ (M1 ++ M2 ++ M) := by rw [h2, h1]; simp
    have pw : placeL (addL L0 x.w) x.w = placeL (addL (addL L0 x.w) x.r ++ M) x.w := by rw [h2, List.append_assoc, placeL_app _ hw]
    have pr : placeL (addL (addL L0 x.w) x.r) x.r = placeL (addL (addL L0 x.w) x.r ++ M) x.r := by rw [placeL_app _ hr]
    refine ⟨M1 ++ M2 ++ M, ?_, fun y hy => ?_⟩
    · rw [List.foldl_cons, e, h3, pw, pr, ← hL]
      simp
    · rw [← hL]
      rcases List.mem_cons.1 hy with rfl | hy
      · exact ⟨List.mem_append_left _ (by rw [h2]; exact List.mem_append_left _ hw), List.mem_append_left _ hr⟩
      · exact h4 y hy
theorem built_all {P : List UInt8 → Prop} (dtn : Bool) (l : List Nm) (hl : ∀ x ∈ l, P x.w ∧ P x.r) : ∀ (st : List (List UInt8) × List Int), (∀ t ∈ st.1, P t) → ∀ t ∈ (l.foldl (buildF dtn) st).1, P t := by
  induction l with
  | nil => intro st h; exact h
  | cons x r ih =>
    intro st h
    have hx := hl x List.mem_cons_self
    refine ih (fun y hy => hl y (List.mem_cons_of_mem _ hy)) _ ?_
    cases dtn with
    | false => exact h
    | true => exact addL_keep (addL_keep h hx.1) hx.2
theorem word_zero (n : Int) : (0 : UInt8) ∉ (wordS n).data.toList := by unfold wordS; split <;> decide
theorem rest_zero {x : Nm} (h : x.right = true) : (0 : UInt8) ∉ x.r := by
  show (0 : UInt8) ∉ x.rest.data.toList
  rw [Nm.rest_is h]
  have h' : rightS x.f0 x.f1 x.f2 x.f3 x.f4 = true := h
  rcases right_num h' with e | e | e
  · rw [e]
    show (0 : UInt8) ∉ wNone.data.toList
    decide
  · rw [e] at h' ⊢
    obtain ⟨_, hp, hq, _⟩ := right_dtn h'
    show (0 : UInt8) ∉ (restDtn x.f1 x.f2).data.toList
    rw [restDtn_data]
    have h1 := part_no hp (show okByte ⟨#[45, 46]⟩ 0 = false by decide)
    have h2 := part_no hq (show okByte ⟨#[45, 46, 47]⟩ 0 = false by decide)
    simp only [List.mem_append, List.mem_cons, List.not_mem_nil, or_false, not_or]
    exact ⟨by decide, h1, by decide, h2⟩
  · rw [e] at h' ⊢
    obtain ⟨_, _, h3, _, h4, _⟩ := right_ipn h'
    show (0 : UInt8) ∉ (restIpn x.f3 x.f4).data.toList
    rw [restIpn_data, itoa_dig x.f3 (by omega), itoa_dig x.f4 h4]
    simp only [List.mem_append, List.mem_cons, not_or]
    exact ⟨fun q => by have := (dig_ok _ _ q).1; exact absurd this (by decide), by decide, fun q => by have := (dig_ok _ _ q).1; exact absurd this (by decide)⟩
theorem cutp_one {t : List UInt8} (q : List UInt8) (h : (0 : UInt8) ∉ t) : cutp (t ++ 0 :: q) = t := by
  unfold cutp
  rw [cut_one 0 t q h]
theorem items_step (k a : Nat) {t : List UInt8} (L : List (List UInt8)) (h : (0 : UInt8) ∉ t) : itemsF (k + 1) a (flatT (t :: L)) = ((a : Int), txt t) :: itemsF k (a + t.length + 1) (flatT L) := by
  rw [itemsF, flatT_cons, cutp_one _ h, if_neg (by simp)]
  congr 2
  rw [List.drop_append]
  simp
theorem flat_len (L : List (List UInt8)) : L.length ≤ (flatT L).length := by
  induction L with
  | nil => simp
  | cons t L ih => rw [flatT_cons]; simp; omega
theorem half_none : ∀ (k a : Nat) (r : List UInt8) (b : Int) (h : ByteArray), b < a → (itemsF k a r).foldl (fun h x => if x.1 = b then x.2 else h) h = h := by
  intro k
  induction k with
  | zero => intro a r b h _; rfl
  | succ k ih =>
    intro a r b h hb
    rw [itemsF]
    split
    · rfl
    · rw [List.foldl_cons, if_neg (by show ¬ (a : Int) = b; omega), ih _ _ _ _ (by omega)]
theorem half_flat : ∀ (L : List (List UInt8)) (k a : Nat) (t : List UInt8) (h : ByteArray), L.length < k → (∀ t ∈ L, (0 : UInt8) ∉ t) → t ∈ L →
    (itemsF k a (flatT L)).foldl (fun h x => if x.1 = ((a + placeL L t : Nat) : Int) then x.2 else h) h = txt t
  | [], _, _, _, _, _, _, ht => by cases ht
  | x :: L, k, a, t, h, hk, hz, ht => by
    obtain ⟨k, rfl⟩ : ∃ m, k = m + 1 := ⟨k - 1, by simp at hk; omega⟩
    rw [items_step k a L (hz x List.mem_cons_self), List.foldl_cons]
    by_cases e : x = t
    · subst e
      rw [show placeL (x :: L) x = 0 by simp [placeL]]
      rw [if_pos (by simp), half_none _ _ _ _ _ (by omega)]
    · rw [show placeL (x :: L) t = x.length + 1 + placeL L t by simp [placeL, e]]
      rw [if_neg (by show ¬ (a : Int) = _; omega)]
      have := half_flat L k (a + x.length + 1) t h (by simp at hk; omega) (fun u hu => hz u (List.mem_cons_of_mem _ hu)) (by rcases List.mem_cons.1 ht with ht | ht; exact absurd ht.symm e; exact ht)
      rw [show a + x.length + 1 + placeL L t = a + (x.length + 1 + placeL L t) by omega] at this
      exact this
theorem half_of (L : List (List UInt8)) (t : List UInt8) (hz : ∀ t ∈ L, (0 : UInt8) ∉ t) (ht : t ∈ L) : halfOf (items (flatT L)) ((placeL L t : Nat) : Int) = txt t := by
  have := half_flat L ((flatT L).length + 1) 0 t ⟨#[]⟩ (by have := flat_len L; omega) hz ht
  rw [Nat.zero_add] at this
  exact this
structure Built (l : List Nm) (s : ByteArray) (p : List Int) : Prop where
  many : l.length ≤ 30
  right : ∀ x ∈ l, x.right = true
  text : s = txt (flatT (builtS l).1)
  pairs : p = (builtS l).2
theorem built_of {l : List Nm} {s : ByteArray} {p : List Int} {e : Int} (h : buildT l = (s, p, e)) : (e = 0 ∧ Built l s p) ∨ (e ≠ 0 ∧ s = ⟨#[]⟩ ∧ p = []) := by
  unfold buildT at h
  by_cases h30 : 30 < l.length
  · rw [if_pos h30] at h
    simp only [Prod.mk.injEq] at h
    obtain ⟨rfl, rfl, rfl⟩ := h
    exact .inr ⟨by decide, rfl, rfl⟩
  · rw [if_neg h30] at h
    by_cases hr : l.any (fun x => !x.right) = true
    · rw [if_pos hr] at h
      simp only [Prod.mk.injEq] at h
      obtain ⟨rfl, rfl, rfl⟩ := h
      exact .inr ⟨by decide, rfl, rfl⟩
    · rw [if_neg hr] at h
      simp only [Prod.mk.injEq] at h
      obtain ⟨rfl, rfl, rfl⟩ := h
      refine .inl ⟨rfl, by omega, fun x hx => ?_, rfl, rfl⟩
      have := (List.any_eq_false.1 (Bool.eq_false_iff.2 hr)) x hx
      simpa using this
theorem Built.is {l : List Nm} {s : ByteArray} {p : List Int} (h : Built l s p) : buildT l = (s, p, 0) := by
  unfold buildT
  rw [if_neg (by have := h.many; omega), if_neg ?_, h.text, h.pairs]
  intro hr
  obtain ⟨x, hx, hq⟩ := List.any_eq_true.1 hr
  rw [h.right x hx] at hq
  cases hq
theorem txt_list (l : List UInt8) : (txt l).data.toList = l := by simp [txt]
theorem Built.bytes {l : List Nm} {s : ByteArray} {p : List Int} (h : Built l s p) : s.data.toList = flatT (builtS l).1 := by rw [h.text, txt_list]
theorem Built.zero {l : List Nm} {s : ByteArray} {p : List Int} (h : Built l s p) : ∀ t ∈ (builtS l).1, (0 : UInt8) ∉ t :=
  built_all (P := fun t => (0 : UInt8) ∉ t) _ l (fun x hx => ⟨by show (0 : UInt8) ∉ x.word.data.toList; rw [Nm.word_is (h.right x hx)]; exact word_zero _, rest_zero (h.right x hx)⟩) ([], []) (fun t ht => by cases ht)
theorem Built.small {l : List Nm} {s : ByteArray} {p : List Int} (h : Built l s p) : s.size ≤ 100000 ∧ p.length = 2 * l.length := by
  obtain ⟨_, h2, h3⟩ := buildF_bounds (l.any Nm.dtn) l ([], []) h.right
  have h4 := h.many
  have h5 : s.data.toList.length = s.size := Array.length_toList ..
  rw [h.bytes] at h5
  have e1 : (flatT (builtS l).1).length ≤ (flatT []).length + 2002 * l.length := h2
  have e2 : (builtS l).2.length = ([] : List Int).length + 2 * l.length := h3
  rw [flatT_nil] at e1
  rw [h.pairs]
  simp only [List.length_nil] at e1 e2
  omega
theorem Built.plain {l : List Nm} {s : ByteArray} {p : List Int} (h : Built l s p) (hd : l.any Nm.dtn = false) : s = ⟨#[]⟩ ∧ p = l.flatMap fun x => [x.f3, x.f4] := by
  have e : builtS l = ([], l.flatMap fun x => [x.f3, x.f4]) := by
    unfold builtS
    rw [hd, built_false]
    rfl
  rw [h.text, h.pairs, e]
  exact ⟨rfl, rfl⟩
theorem Built.full {l : List Nm} {s : ByteArray} {p : List Int} (h : Built l s p) (hd : l.any Nm.dtn = true) :
    (p = l.flatMap fun x => [((placeL (builtS l).1 x.w : Nat) : Int), ((placeL (builtS l).1 x.r : Nat) : Int)]) ∧ (∀ x ∈ l, x.w ∈ (builtS l).1 ∧ x.r ∈ (builtS l).1) ∧ ¬ s.toList = [] := by
  obtain ⟨M, h1, h2⟩ := built_true l [] []
  have e : builtS l = ([] ++ M, [] ++ l.flatMap fun x => [((placeL ([] ++ M) x.w : Nat) : Int), ((placeL ([] ++ M) x.r : Nat) : Int)]) := by
    unfold builtS
    rw [hd, h1]
  rw [List.nil_append] at h2
  rw [List.nil_append, List.nil_append] at e
  have e1 : (builtS l).1 = M := by rw [e]
  rw [e1]
  refine ⟨by rw [h.pairs, e], h2, fun q => ?_⟩
  obtain ⟨x, hx, _⟩ := List.any_eq_true.1 hd
  rw [ByteArray.toList_eq, h.bytes, e1] at q
  have := placeL_le (h2 x hx).1
  rw [q] at this
  simp at this
end Go.Proofs.YtbjbicaffblchaaGreatDoor.Hand
end
section
namespace Go.Proofs.YtbjbicaffblchaaGreatDoor.Hand
open Go.RowKit Go.Proofs.YtbjbicaffblchaaGreatDoorW Go.Proofs.YtbjbicaffblchaaGreatDoorW.PrintWords Go.Proofs.YtbjbicaffblchaaGreatDoor.SA Go.Proofs.YtbjbicaffblchaaGreatDoor.SK Go.Proofs.YtbjbicaffblchaaGreatDoor.SS
theorem nil_of_toList {a : ByteArray} (h : a.toList = []) : a = ⟨#[]⟩ := by
  rw [ByteArray.toList_eq] at h
  have := congrArg txt h
  rw [txt_data] at this
  exact this
theorem names_map (s : ByteArray) (f g : Nm → Int) : ∀ l : List Nm, (∀ x ∈ l, nameT s (f x) (g x) = (x, true)) → namesT s (l.flatMap fun x => [f x, g x]) = some l
  | [], _ => rfl
  | x :: l, h => by
    have ih := names_map s f g l (fun y hy => h y (List.mem_cons_of_mem _ hy))
    have hx := h x List.mem_cons_self
    rw [List.flatMap_cons]
    show namesT s (f x :: g x :: (l.flatMap fun x => [f x, g x])) = some (x :: l)
    rw [namesT, hx, if_pos rfl, ih]
    rfl
theorem Built.names {l : List Nm} {s : ByteArray} {p : List Int} (h : Built l s p) : namesT s p = some l := by
  cases hd : l.any Nm.dtn with
  | false =>
    obtain ⟨rfl, rfl⟩ := h.plain hd
    refine names_map _ (fun x => x.f3) (fun x => x.f4) l fun x hx => ?_
    have hr : rightS x.f0 x.f1 x.f2 x.f3 x.f4 = true := h.right x hx
    have hn : ¬ x.f0 = 1 := by
      have := (List.any_eq_false.1 hd) x hx
      simpa [Nm.dtn] using this
    obtain ⟨n, a1, a2, a3, a4⟩ := x
    dsimp only at hr hn ⊢
    unfold nameT
    rw [if_pos (by rw [ByteArray.toList_eq])]
    rcases right_num hr with rfl | rfl | rfl
    · obtain ⟨rfl, rfl, rfl, rfl⟩ := right_none2 hr
      rw [if_pos ⟨rfl, rfl⟩]
    · exact absurd rfl hn
    · obtain ⟨h1, h2, h3, _⟩ := right_ipn hr
      obtain rfl := nil_of_toList h1
      obtain rfl := nil_of_toList h2
      rw [if_neg (by omega)]
  | true =>
    obtain ⟨q1, q2, q3⟩ := h.full hd
    rw [q1]
    refine names_map _ (fun x => ((placeL (builtS l).1 x.w : Nat) : Int)) (fun x => ((placeL (builtS l).1 x.r : Nat) : Int)) l fun x hx => ?_
    have hr := h.right x hx
    have hr' : rightS x.f0 x.f1 x.f2 x.f3 x.f4 = true := hr
    unfold nameT
    rw [if_neg q3, h.bytes, half_of _ _ h.zero (q2 x hx).1, half_of _ _ h.zero (q2 x hx).2, txt_data, txt_data, Nm.word_is hr, Nm.rest_is hr, joinT_of hr']
    rfl
theorem Built.read {l : List Nm} {s : ByteArray} {p : List Int} (h : Built l s p) : readT s p = (l, 0) := by
  have h1 := h.small.2
  have h2 := h.many
  unfold readT
  rw [if_pos ⟨by omega, by omega⟩, h.names]
  dsimp only
  rw [if_pos h.is]
theorem read_cases (s : ByteArray) (p : List Int) : (∃ l, readT s p = (l, 0) ∧ namesT s p = some l ∧ buildT l = (s, p, 0)) ∨ readT s p = ([], 70) := by
  unfold readT
  by_cases h1 : p.length % 2 = 0 ∧ p.length ≤ 60
  · rw [if_pos h1]
    cases hn : namesT s p with
    | none => exact .inr rfl
    | some l =>
      dsimp only
      by_cases h2 : buildT l = (s, p, 0)
      · rw [if_pos h2]; exact .inl ⟨l, rfl, rfl, h2⟩
      · rw [if_neg h2]; exact .inr rfl
  · rw [if_neg h1]; exact .inr rfl
theorem Build_ok {l : List Nm} (h : ∀ x ∈ l, x.ok) : dict_Build.f l = some (buildT l) := by
  unfold dict_Build.f
  rw [if_pos]
  unfold okB
  rw [List.all_eq_true]
  intro x hx
  have := h x hx
  simp [this.1, this.2]
end Go.Proofs.YtbjbicaffblchaaGreatDoor.Hand
end
section
namespace Go.Proofs.YtbjbicaffblchaaGreatDoor.Hand
open Go.RowKit Go.Proofs.YtbjbicaffblchaaGreatDoorW Go.Proofs.YtbjbicaffblchaaGreatDoorW.PrintWords Go.Proofs.YtbjbicaffblchaaGreatDoorW.PrintLast Go.Proofs.YtbjbicaffblchaaGreatDoorW.PrintMore Go.Proofs.YtbjbicaffblchaaGreatDoor.SK
attribute [local go_sem] max2_int min2_int max_two min_two max_three min_three max_four min_four
def few7V.f (l : List Int) : Option (List Int) := some (l.take 63)
theorem few7V.out {l r : List Int} (h : few7V.f l = some r) : r = l.take 63 := (Option.some.inj h).symm
theorem few7V.reads {w : World} {A : Option Addr} {l r : List Int} (hr : Kd.C (Kd.int .i64) w A l.length l) (h : few7V.f l = some r) : Kd.C (Kd.int .i64) w A r.length r := by
  obtain rfl := few7V.out h
  refine Kd.C_of_reads (d := (0 : Int)) (h1 := fun _ => rfl) ?_
  have := (Kd.reads_of_C (enc := Value.int .i64) (d := (0 : Int)) (h1 := fun _ => rfl) hr).take_ (min 63 l.length) (by omega)
  rw [List.length_take]
  rw [show l.take (min 63 l.length) = l.take 63 by rw [← List.take_take, List.take_length]] at this
  exact this
theorem few7V.room {l r : List Int} {c : Nat} (hc : l.length ≤ c) (h : few7V.f l = some r) : r.length ≤ c := by
  obtain rfl := few7V.out h
  rw [List.length_take]
  omega
set_option maxHeartbeats 8000000 in
set_option maxRecDepth 100000 in
theorem few7V.calls (A0 : Option Addr) (c0 : Nat) (l0 r : List Int) (w : World) (_ : Kd.C (Kd.int .i64) w A0 l0.length l0) (hc0 : l0.length ≤ c0) (h : few7V.f l0 = some r) :
    Calls Tryz.prog 11 #[.slice A0 l0.length c0] w fun e w' => e = .returned (.slice A0 r.length c0) ∧ Below w.heap.size w w' := by
  obtain ⟨j, hj⟩ : ∃ j : Int, (if 63 < (l0.length : Int) then 63 else (l0.length : Int)) = j := ⟨_, rfl⟩
  have hj0 : 0 ≤ j := by split at hj <;> omega
  have hj1 : j ≤ l0.length := by split at hj <;> omega
  have hj2 : j.toNat = min 63 l0.length := by split at hj <;> omega
  obtain ⟨i0, hi0, _, hsz, _⟩ := info_parts info3
  have hcut := (print_take_of (P := Tryz.prog) (Value.int .i64) 0 23 3 .i64 Tryz.underlying23 hi0 hsz A0 c0 l0 j hj0 hj1 hc0).1
  have hl : (l0.take j.toNat).length = r.length := by rw [few7V.out h, List.length_take, List.length_take]; omega
  rw [hl] at hcut
  clear hi0 hsz
  go_enter Tryz.func11, Tryz.ntmps11
  go_wp2
  go_ret
  exact ⟨rfl, Below.refl _ _⟩
end Go.Proofs.YtbjbicaffblchaaGreatDoor.Hand
end
section
namespace Go.Proofs.YtbjbicaffblchaaGreatDoor.SLDictBack
open Go.Proofs.YtbjbicaffblchaaGreatDoor.Hand
open Go.Proofs.YtbjbicaffblchaaGreatDoor.SA
open Go.Proofs.YtbjbicaffblchaaGreatDoor.SK
open Go.Proofs.YtbjbicaffblchaaGreatDoor.SS
open Go.RowKit Go.Proofs.YtbjbicaffblchaaGreatDoorW.PrintWords Go.Proofs.YtbjbicaffblchaaGreatDoorW.PrintLast Go.Proofs.YtbjbicaffblchaaGreatDoorW.PrintMore
attribute [local go_sem] max2_int min2_int max_two min_two max_three min_three max_four min_four
set_option linter.unusedVariables false
set_option linter.unusedSimpArgs false
def errW : Option Int → Value
  | none => .nilIface
  | some c => .iface 0 (.int .i64 c)
theorem errW_none : errW none = .nilIface := rfl
theorem errW_some (c : Int) : errW (some c) = .iface 0 (.int .i64 c) := rfl
end Go.Proofs.YtbjbicaffblchaaGreatDoor.SLDictBack
end
section
namespace Go.Proofs.YtbjbicaffblchaaGreatDoor.SLDictBack
open Go.Proofs.YtbjbicaffblchaaGreatDoor.Hand
open Go.Proofs.YtbjbicaffblchaaGreatDoor.SA
open Go.Proofs.YtbjbicaffblchaaGreatDoor.SK
open Go.Proofs.YtbjbicaffblchaaGreatDoor.SS
open Go.RowKit Go.Proofs.YtbjbicaffblchaaGreatDoorW.PrintWords Go.Proofs.YtbjbicaffblchaaGreatDoorW.PrintLast Go.Proofs.YtbjbicaffblchaaGreatDoorW.PrintMore
attribute [local go_sem] max2_int min2_int max_two min_two max_three min_three max_four min_four
set_option linter.unusedVariables false
set_option linter.unusedSimpArgs false
def postriderlaw07_DictBack.j0 : Nat → ByteArray → List Int → Bool → ByteArray → List Int → Int → Bool → Option (Bool)
  | 0, _, _, _, _, _, _, _ => none
  | k + 1, x1, x2, x7, x8, x9, x10, x56 => if x56 = true then (none) else ((dict_Read.f x1 x2).bind fun bt118 => ((dict_Build.f bt118.1).bind fun bt122 => (if x7 = true then (if x10 = 0 then (if bt118.2 = 0 then (if bt122.2.2 = 0 then (if bt122.1.toList = x1.toList then ((postriderref02_Ints.f k bt122.2.1 x2).bind fun t127 => (some t127)) else (none)) else (none)) else (if (bt118.1.length : Int) = 0 then (some true) else (none))) else (if x8.toList = ([] : List UInt8) then (if (x9.length : Int) = 0 then (if bt118.2 = 0 then (if bt122.2.2 = 0 then (if bt122.1.toList = x1.toList then ((postriderref02_Ints.f k bt122.2.1 x2).bind fun t128 => (some t128)) else (none)) else (none)) else (if (bt118.1.length : Int) = 0 then (some true) else (none))) else (none)) else (none))) else (none))))
def postriderlaw07_DictBack.f (k : Nat) (l0 : List (S41)) (a1 : ByteArray) (l2 : List Int) : Option (Bool) := (postriderlaw07_shown.f k).bind fun t101 => ((postriderlaw07_Few.f k l0).bind fun t102 => ((postriderlaw07_cut.f a1).bind fun t105 => ((few7V.f l2).bind fun t106 => ((dict_Build.f t102).bind fun bt108 => ((dict_Read.f bt108.1 bt108.2.1).bind fun bt113 => (if bt108.2.2 = 0 then (if bt113.2 = 0 then ((postriderref06_Same.f k bt113.1 t102).bind fun t117 => (if t117 = true then (postriderlaw07_DictBack.j0 k t105 t106 t101 bt108.1 bt108.2.1 bt108.2.2 ((bt108.2.1.length : Int) != (wrap64 (2 * (t102.length : Int))))) else (postriderlaw07_DictBack.j0 k t105 t106 t101 bt108.1 bt108.2.1 bt108.2.2 true))) else (postriderlaw07_DictBack.j0 k t105 t106 t101 bt108.1 bt108.2.1 bt108.2.2 true)) else (postriderlaw07_DictBack.j0 k t105 t106 t101 bt108.1 bt108.2.1 bt108.2.2 false)))))))
theorem postriderlaw07_DictBack.mono_l : ∀ k, (∀ y0 y1 y2 y3 y4 y5 y6, LeO (postriderlaw07_DictBack.j0 k y0 y1 y2 y3 y4 y5 y6) (postriderlaw07_DictBack.j0 (k + 1) y0 y1 y2 y3 y4 y5 y6))
  | 0 => fun _ _ _ _ _ _ _ r h => by simp [postriderlaw07_DictBack.j0] at h
  | k + 1 => by
    have ih0 := postriderlaw07_DictBack.mono_l k
    · intro y0 y1 y2 y3 y4 y5 y6
      unfold postriderlaw07_DictBack.j0
      repeat' first
      | (with_reducible exact ih0 _ _ _ _ _ _ _)
      | (with_reducible exact postriderlaw07_Few.mono _ _)
      | (with_reducible exact postriderlaw07_shown.mono _)
      | (with_reducible exact postriderref02_Ints.mono _ _ _)
      | (with_reducible exact postriderref06_Same.mono _ _ _)
      | (with_reducible exact LeO.refl _)
      | (with_reducible exact LeO.none _)
      | (with_reducible refine LeO.ite ?_ ?_)
      | (with_reducible refine LeO.bind ?_ (fun _ => ?_))
      | exact ih0 _ _ _ _ _ _ _
      | exact postriderlaw07_Few.mono _ _
      | exact postriderlaw07_shown.mono _
      | exact postriderref02_Ints.mono _ _ _
      | exact postriderref06_Same.mono _ _ _
      | exact LeO.none _
      | refine LeO.ite ?_ ?_
      | refine LeO.bind ?_ (fun _ => ?_)
theorem postriderlaw07_DictBack.mono : ∀ a0 a1 a2 k, LeO (postriderlaw07_DictBack.f k a0 a1 a2) (postriderlaw07_DictBack.f (k + 1) a0 a1 a2) := by
  intro a0 a1 a2 k
  have ih0 := postriderlaw07_DictBack.mono_l k
  unfold postriderlaw07_DictBack.f
  repeat' first
      | (with_reducible exact ih0 _ _ _ _ _ _ _)
      | (with_reducible exact postriderlaw07_Few.mono _ _)
      | (with_reducible exact postriderlaw07_shown.mono _)
      | (with_reducible exact postriderref02_Ints.mono _ _ _)
      | (with_reducible exact postriderref06_Same.mono _ _ _)
      | (with_reducible exact LeO.refl _)
      | (with_reducible exact LeO.none _)
      | (with_reducible refine LeO.ite ?_ ?_)
      | (with_reducible refine LeO.bind ?_ (fun _ => ?_))
      | exact ih0 _ _ _ _ _ _ _
      | exact postriderlaw07_Few.mono _ _
      | exact postriderlaw07_shown.mono _
      | exact postriderref02_Ints.mono _ _ _
      | exact postriderref06_Same.mono _ _ _
      | exact LeO.none _
      | refine LeO.ite ?_ ?_
      | refine LeO.bind ?_ (fun _ => ?_)
set_option maxHeartbeats 8000000 in
set_option maxRecDepth 100000 in
theorem postriderlaw07_DictBack.calls (k : Nat) (A0 : Option Addr) (c0 : Nat) (l0 : List (S41)) (a1 : ByteArray) (A2 : Option Addr) (c2 : Nat) (l2 : List Int) (r : Bool) (w : World) (hr0 : Kd.C k41 w A0 l0.length l0) (hc0 : l0.length ≤ c0) (hr2 : Kd.C (Kd.int .i64) w A2 l2.length l2) (hc2 : l2.length ≤ c2) (hLd : LaidD w) (h : postriderlaw07_DictBack.f k l0 a1 l2 = some r) :
    Calls Tryz.prog 4 #[.slice A0 l0.length c0, .string a1, .slice A2 l2.length c2] w fun e w' => e = .returned (.bool r) ∧ Below w.heap.size w w' := by
  have HLD := Aside0.mk hLd
  clear hLd
  have HR0 := Aside0.mk hr0
  have HC0 := Aside0.mk hc0
  clear hr0 hc0
  have HR2 := Aside0.mk hr2
  have HC2 := Aside0.mk hc2
  clear hr2 hc2
  have HB := Aside0.mk (Below.refl w.heap.size w)
  have H : ((postriderlaw07_shown.f k).bind fun t101 => ((postriderlaw07_Few.f k l0).bind fun t102 => ((postriderlaw07_cut.f a1).bind fun t105 => ((few7V.f l2).bind fun t106 => ((dict_Build.f t102).bind fun bt108 => ((dict_Read.f bt108.1 bt108.2.1).bind fun bt113 => (if bt108.2.2 = 0 then (if bt113.2 = 0 then ((postriderref06_Same.f k bt113.1 t102).bind fun t117 => (if t117 = true then (postriderlaw07_DictBack.j0 k t105 t106 t101 bt108.1 bt108.2.1 bt108.2.2 ((bt108.2.1.length : Int) != (wrap64 (2 * (t102.length : Int))))) else (postriderlaw07_DictBack.j0 k t105 t106 t101 bt108.1 bt108.2.1 bt108.2.2 true))) else (postriderlaw07_DictBack.j0 k t105 t106 t101 bt108.1 bt108.2.1 bt108.2.2 true)) else (postriderlaw07_DictBack.j0 k t105 t106 t101 bt108.1 bt108.2.1 bt108.2.2 false)))))))) = some r := h
  clear h
  replace H := Option.bind_eq_some_iff.mp H
  obtain ⟨t101, A40, H⟩ := H
  replace H : ((postriderlaw07_Few.f k l0).bind fun t102 => ((postriderlaw07_cut.f a1).bind fun t105 => ((few7V.f l2).bind fun t106 => ((dict_Build.f t102).bind fun bt108 => ((dict_Read.f bt108.1 bt108.2.1).bind fun bt113 => (if bt108.2.2 = 0 then (if bt113.2 = 0 then ((postriderref06_Same.f k bt113.1 t102).bind fun t117 => (if t117 = true then (postriderlaw07_DictBack.j0 k t105 t106 t101 bt108.1 bt108.2.1 bt108.2.2 ((bt108.2.1.length : Int) != (wrap64 (2 * (t102.length : Int))))) else (postriderlaw07_DictBack.j0 k t105 t106 t101 bt108.1 bt108.2.1 bt108.2.2 true))) else (postriderlaw07_DictBack.j0 k t105 t106 t101 bt108.1 bt108.2.1 bt108.2.2 true)) else (postriderlaw07_DictBack.j0 k t105 t106 t101 bt108.1 bt108.2.1 bt108.2.2 false))))))) = some r := H
  have A4 := Aside0.mk A40
  clear A40
  replace H := Option.bind_eq_some_iff.mp H
  obtain ⟨t102, A50, H⟩ := H
  replace H : ((postriderlaw07_cut.f a1).bind fun t105 => ((few7V.f l2).bind fun t106 => ((dict_Build.f t102).bind fun bt108 => ((dict_Read.f bt108.1 bt108.2.1).bind fun bt113 => (if bt108.2.2 = 0 then (if bt113.2 = 0 then ((postriderref06_Same.f k bt113.1 t102).bind fun t117 => (if t117 = true then (postriderlaw07_DictBack.j0 k t105 t106 t101 bt108.1 bt108.2.1 bt108.2.2 ((bt108.2.1.length : Int) != (wrap64 (2 * (t102.length : Int))))) else (postriderlaw07_DictBack.j0 k t105 t106 t101 bt108.1 bt108.2.1 bt108.2.2 true))) else (postriderlaw07_DictBack.j0 k t105 t106 t101 bt108.1 bt108.2.1 bt108.2.2 true)) else (postriderlaw07_DictBack.j0 k t105 t106 t101 bt108.1 bt108.2.1 bt108.2.2 false)))))) = some r := H
  have A5 := Aside0.mk A50
  clear A50
  replace H := Option.bind_eq_some_iff.mp H
  obtain ⟨t105, A60, H⟩ := H
  replace H : ((few7V.f l2).bind fun t106 => ((dict_Build.f t102).bind fun bt108 => ((dict_Read.f bt108.1 bt108.2.1).bind fun bt113 => (if bt108.2.2 = 0 then (if bt113.2 = 0 then ((postriderref06_Same.f k bt113.1 t102).bind fun t117 => (if t117 = true then (postriderlaw07_DictBack.j0 k t105 t106 t101 bt108.1 bt108.2.1 bt108.2.2 ((bt108.2.1.length : Int) != (wrap64 (2 * (t102.length : Int))))) else (postriderlaw07_DictBack.j0 k t105 t106 t101 bt108.1 bt108.2.1 bt108.2.2 true))) else (postriderlaw07_DictBack.j0 k t105 t106 t101 bt108.1 bt108.2.1 bt108.2.2 true)) else (postriderlaw07_DictBack.j0 k t105 t106 t101 bt108.1 bt108.2.1 bt108.2.2 false))))) = some r := H
  have A6 := Aside0.mk A60
  clear A60
  replace H := Option.bind_eq_some_iff.mp H
  obtain ⟨t106, A70, H⟩ := H
  replace H : ((dict_Build.f t102).bind fun bt108 => ((dict_Read.f bt108.1 bt108.2.1).bind fun bt113 => (if bt108.2.2 = 0 then (if bt113.2 = 0 then ((postriderref06_Same.f k bt113.1 t102).bind fun t117 => (if t117 = true then (postriderlaw07_DictBack.j0 k t105 t106 t101 bt108.1 bt108.2.1 bt108.2.2 ((bt108.2.1.length : Int) != (wrap64 (2 * (t102.length : Int))))) else (postriderlaw07_DictBack.j0 k t105 t106 t101 bt108.1 bt108.2.1 bt108.2.2 true))) else (postriderlaw07_DictBack.j0 k t105 t106 t101 bt108.1 bt108.2.1 bt108.2.2 true)) else (postriderlaw07_DictBack.j0 k t105 t106 t101 bt108.1 bt108.2.1 bt108.2.2 false)))) = some r := H
  have A7 := Aside0.mk A70
  clear A70
  have HR107 := Aside0.mk (few7V.reads HR2.out A7.out)
  have HC107 := Aside0.mk (few7V.room HC2.out A7.out)
  replace H := Option.bind_eq_some_iff.mp H
  obtain ⟨⟨t108, t109, t110⟩, A80, H⟩ := H
  replace H : ((dict_Read.f t108 t109).bind fun bt113 => (if t110 = 0 then (if bt113.2 = 0 then ((postriderref06_Same.f k bt113.1 t102).bind fun t117 => (if t117 = true then (postriderlaw07_DictBack.j0 k t105 t106 t101 t108 t109 t110 ((t109.length : Int) != (wrap64 (2 * (t102.length : Int))))) else (postriderlaw07_DictBack.j0 k t105 t106 t101 t108 t109 t110 true))) else (postriderlaw07_DictBack.j0 k t105 t106 t101 t108 t109 t110 true)) else (postriderlaw07_DictBack.j0 k t105 t106 t101 t108 t109 t110 false))) = some r := H
  have A8 := Aside0.mk A80
  clear A80
  replace H := Option.bind_eq_some_iff.mp H
  obtain ⟨⟨t113, t114⟩, A90, H⟩ := H
  replace H : (if t110 = 0 then (if t114 = 0 then ((postriderref06_Same.f k t113 t102).bind fun t117 => (if t117 = true then (postriderlaw07_DictBack.j0 k t105 t106 t101 t108 t109 t110 ((t109.length : Int) != (wrap64 (2 * (t102.length : Int))))) else (postriderlaw07_DictBack.j0 k t105 t106 t101 t108 t109 t110 true))) else (postriderlaw07_DictBack.j0 k t105 t106 t101 t108 t109 t110 true)) else (postriderlaw07_DictBack.j0 k t105 t106 t101 t108 t109 t110 false)) = some r := H
  have A9 := Aside0.mk A90
  clear A90
  have HC10 := Aside0.mk H
  clear H
  go_enter Tryz.func4, Tryz.ntmps4
  go_upto_region 7 with (first | ((with_reducible refine gate_callee (f := 8) rfl ?_); refine goesL_ (some 18) rfl rfl Tryz.func8 (by kernel_rfl) rfl #[] rfl (by (try simp only [List.map_toArray, List.map_cons, List.map_nil]); first | done | rfl | (simp only [List.length_drop, List.length_take]; rfl)) ?_; (with_reducible refine (postriderlaw07_shown.calls k  t101 _ ?side1 A4.out).mono ?_); (case side1 => exact LaidD.below HLD.out (by repeat (first | (with_reducible first | exact HB.out | apply below_alloc | apply pw_below_drewN | apply below_drew1) | exact HB.out))); rintro e w11 ⟨rfl, hb⟩; refine ⟨_, rfl, ?_⟩; have n0_ := Aside0.mk (below_step (by repeat (first | (with_reducible first | exact HB.out | apply below_alloc | apply pw_below_drewN | apply below_drew1) | exact HB.out)) hb); clear HB; have HB := n0_; clear n0_; (try clear hb); (try clear hb2); (try clear hk); (try clear hi)) | ((with_reducible refine gate_callee (f := 9) rfl ?_); refine goesL_ (some 20) rfl rfl Tryz.func9 (by kernel_rfl) rfl #[.slice A0 l0.length c0] rfl (by (try simp only [List.map_toArray, List.map_cons, List.map_nil]); first | done | rfl | (simp only [List.length_drop, List.length_take]; rfl)) ?_; (with_reducible refine (postriderlaw07_Few.calls k _ _ l0 t102 _ ?side1 ?side2 A5.out).mono ?_); (case side1 => repeat (first | exact (Kd.C_below HR0.out HB.out) | (with_reducible refine Kd.C_alloc ?_ _) | (with_reducible refine Kd.C_drewN ?_ _) | (with_reducible refine Kd.C_drew ?_))); (case side2 => exact HC0.out); rintro e w12 ⟨v103, rfl, ho0, hb⟩; refine ⟨_, rfl, ?_⟩; have n0_ := Aside0.mk (Kd.R_lower ho0 (below_size (by repeat (first | (with_reducible first | exact HB.out | apply below_alloc | apply pw_below_drewN | apply below_drew1) | exact HB.out)))); have n1_ := Aside0.mk (below_step (by repeat (first | (with_reducible first | exact HB.out | apply below_alloc | apply pw_below_drewN | apply below_drew1) | exact HB.out)) hb); clear HB; have HO104 := n0_; have HB := n1_; clear n0_ n1_; (try clear hb); (try clear hb2); (try clear hk); (try clear hi); (try clear ho0)) | ((with_reducible refine gate_callee (f := 10) rfl ?_); refine goesL_ (some 22) rfl rfl Tryz.func10 (by kernel_rfl) rfl #[.string a1] rfl (by (try simp only [List.map_toArray, List.map_cons, List.map_nil]); first | done | rfl | (simp only [List.length_drop, List.length_take]; rfl)) ?_; (with_reducible refine (postriderlaw07_cut.calls a1 t105 _ A6.out).mono ?_); rintro e w13 ⟨rfl, hb⟩; refine ⟨_, rfl, ?_⟩; have n0_ := Aside0.mk (Kd.R_below (by (with_reducible repeat (first | apply Kd.R_alloc | apply Kd.R_drewN | apply Kd.R_drew)); exact HO104.out) hb); have n1_ := Aside0.mk (below_step (by repeat (first | (with_reducible first | exact HB.out | apply below_alloc | apply pw_below_drewN | apply below_drew1) | exact HB.out)) hb); clear HO104; clear HB; have HO104 := n0_; have HB := n1_; clear n0_ n1_; (try clear hb); (try clear hb2); (try clear hk); (try clear hi)) | ((with_reducible refine gate_callee (f := 11) rfl ?_); refine goesL_ (some 24) rfl rfl Tryz.func11 (by kernel_rfl) rfl #[.slice A2 l2.length c2] rfl (by (try simp only [List.map_toArray, List.map_cons, List.map_nil]); first | done | rfl | (simp only [List.length_drop, List.length_take]; rfl)) ?_; (with_reducible refine (few7V.calls _ _ l2 t106 _ ?side1 ?side2 A7.out).mono ?_); (case side1 => repeat (first | exact (Kd.C_below HR2.out HB.out) | (with_reducible refine Kd.C_alloc ?_ _) | (with_reducible refine Kd.C_drewN ?_ _) | (with_reducible refine Kd.C_drew ?_))); (case side2 => exact HC2.out); rintro e w14 ⟨rfl, hb⟩; refine ⟨_, rfl, ?_⟩; have n0_ := Aside0.mk (Kd.R_below (by (with_reducible repeat (first | apply Kd.R_alloc | apply Kd.R_drewN | apply Kd.R_drew)); exact HO104.out) hb); have n1_ := Aside0.mk (below_step (by repeat (first | (with_reducible first | exact HB.out | apply below_alloc | apply pw_below_drewN | apply below_drew1) | exact HB.out)) hb); clear HO104; clear HB; have HO104 := n0_; have HB := n1_; clear n0_ n1_; (try clear hb); (try clear hb2); (try clear hk); (try clear hi); obtain ⟨Ao15, co15, eo15⟩ := Kd.R_slice HO104.out; subst eo15) | ((with_reducible refine gate_callee (f := 12) rfl ?_); refine goesL_ (some 27) rfl rfl Tryz.func12 (by kernel_rfl) rfl #[.slice Ao15 t102.length co15] rfl (by (try simp only [List.map_toArray, List.map_cons, List.map_nil]); first | done | rfl | (simp only [List.length_drop, List.length_take]; rfl)) ?_; (with_reducible refine (dict_Build.calls _ _ t102 t108 t109 t110 _ ?side1 ?side2 ?side3 A8.out).mono ?_); (case side1 => repeat (first | exact (Kd.R_reads' HO104.out).2.2 | (with_reducible refine Kd.C_alloc ?_ _) | (with_reducible refine Kd.C_drewN ?_ _) | (with_reducible refine Kd.C_drew ?_))); (case side2 => exact (Kd.R_reads' HO104.out).2.1); (case side3 => exact LaidD.below HLD.out (by repeat (first | (with_reducible first | exact HB.out | apply below_alloc | apply pw_below_drewN | apply below_drew1) | exact HB.out))); rintro e w16 ⟨v111, rfl, ho0, hb⟩; refine ⟨_, rfl, ?_⟩; have n0_ := Aside0.mk (Kd.R_below (by (with_reducible repeat (first | apply Kd.R_alloc | apply Kd.R_drewN | apply Kd.R_drew)); exact HO104.out) hb); have n1_ := Aside0.mk (Kd.R_lower ho0 (below_size (by repeat (first | (with_reducible first | exact HB.out | apply below_alloc | apply pw_below_drewN | apply below_drew1) | exact HB.out)))); have n2_ := Aside0.mk (below_step (by repeat (first | (with_reducible first | exact HB.out | apply below_alloc | apply pw_below_drewN | apply below_drew1) | exact HB.out)) hb); clear HO104; clear HB; have HO104 := n0_; have HO112 := n1_; have HB := n2_; clear n0_ n1_ n2_; (try clear hb); (try clear hb2); (try clear hk); (try clear hi); (try clear ho0); obtain ⟨Ao17, co17, eo17⟩ := Kd.R_slice HO112.out; subst eo17) | ((with_reducible refine gate_callee (f := 14) rfl ?_); refine goesL_ (some 34) rfl rfl Tryz.func14 (by kernel_rfl) rfl #[.string t108, .slice Ao17 t109.length co17] rfl (by (try simp only [List.map_toArray, List.map_cons, List.map_nil]); first | done | rfl | (simp only [List.length_drop, List.length_take]; rfl)) ?_; (with_reducible refine (dict_Read.calls t108 _ _ t109 t113 t114 _ ?side1 ?side2 ?side3 A9.out).mono ?_); (case side1 => repeat (first | exact (Kd.R_reads' HO112.out).2.2 | (with_reducible refine Kd.C_alloc ?_ _) | (with_reducible refine Kd.C_drewN ?_ _) | (with_reducible refine Kd.C_drew ?_))); (case side2 => exact (Kd.R_reads' HO112.out).2.1); (case side3 => exact LaidD.below HLD.out (by repeat (first | (with_reducible first | exact HB.out | apply below_alloc | apply pw_below_drewN | apply below_drew1) | exact HB.out))); rintro e w18 ⟨v115, rfl, ho0, hb⟩; refine ⟨_, rfl, ?_⟩; have n0_ := Aside0.mk (Kd.R_elder' (by (with_reducible repeat (first | apply Kd.R_alloc | apply Kd.R_drewN | apply Kd.R_drew)); exact HO104.out) (Kd.R_base ho0) hb); have n1_ := Aside0.mk (Kd.R_below (by (with_reducible repeat (first | apply Kd.R_alloc | apply Kd.R_drewN | apply Kd.R_drew)); exact HO112.out) hb); have n2_ := Aside0.mk (Kd.R_lower (Kd.R_new' ho0 (Kd.R_lt (by (with_reducible repeat (first | apply Kd.R_alloc | apply Kd.R_drewN | apply Kd.R_drew)); exact HO104.out))) (below_size (by repeat (first | (with_reducible first | exact HB.out | apply below_alloc | apply pw_below_drewN | apply below_drew1) | exact HB.out)))); have n3_ := Aside0.mk (below_step (by repeat (first | (with_reducible first | exact HB.out | apply below_alloc | apply pw_below_drewN | apply below_drew1) | exact HB.out)) hb); clear HO104; clear HO112; clear HB; have HO104 := n0_; have HO112 := n1_; have HO116 := n2_; have HB := n3_; clear n0_ n1_ n2_ n3_; (try clear hb); (try clear hb2); (try clear hk); (try clear hi); (try clear ho0)))
  (try simp only [Act.put, List.setIfInBounds_toArray, List.set_cons_zero, List.set_cons_succ])
  go_cut [56] (fun v56 wc => ∃ (kq : Nat) (x56_9 : Bool), v56 = .bool x56_9 ∧ Aside0 (postriderlaw07_DictBack.j0 kq t105 t106 t101 t108 t109 t110 x56_9 = some r) ∧ Aside0 (kq ≤ k) ∧ Aside0 (Kd.R (Kd.int .i64) 3 wc w.heap.size (fun _ => True) (.slice Ao17 t109.length co17) t109) ∧ Aside0 (Below w.heap.size w wc))
  case first =>
    have H := HC10.out
    clear HC10
    by_cases c19 : t110 = 0
    · rw [if_pos c19] at H
      have c19b0 : (t110 == 0) = true := beq_iff_eq.mpr c19
      have c19b1 : (t110 != 0) = false := bne_eq_false_iff_eq.mpr c19
      clear c19
      (first | rw [c19b0] | (simp only [i64_w, i32_w]; rw [c19b0]) | skip)
      by_cases c20 : t114 = 0
      · rw [if_pos c20] at H
        have c20b0 : (t114 == 0) = true := beq_iff_eq.mpr c20
        have c20b1 : (t114 != 0) = false := bne_eq_false_iff_eq.mpr c20
        clear c20
        replace H := Option.bind_eq_some_iff.mp H
        obtain ⟨t117, A210, H⟩ := H
        replace H : (if t117 = true then (postriderlaw07_DictBack.j0 k t105 t106 t101 t108 t109 t110 ((t109.length : Int) != (wrap64 (2 * (t102.length : Int))))) else (postriderlaw07_DictBack.j0 k t105 t106 t101 t108 t109 t110 true)) = some r := H
        have A21 := Aside0.mk A210
        clear A210
        by_cases c22 : t117 = true
        · subst c22
          have H1 : (postriderlaw07_DictBack.j0 k t105 t106 t101 t108 t109 t110 ((t109.length : Int) != (wrap64 (2 * (t102.length : Int))))) = some r := by rw [if_pos rfl] at H; exact H
          clear H
          have H := H1
          clear H1
          have H' := Aside0.mk H
          clear H
          obtain ⟨Ao23, co23, eo23⟩ := Kd.R_slice HO116.out
          subst eo23
          go_wp2_with (first | (go_at_call 19; (with_reducible refine (postriderref06_Same.calls k _ _ t113 _ _ t102 true _ ?side1 ?side2 ?side3 ?side4 A21.out).mono ?_); (case side1 => repeat (first | exact (Kd.R_reads' HO116.out).2.2 | (with_reducible refine Kd.C_alloc ?_ _) | (with_reducible refine Kd.C_drewN ?_ _) | (with_reducible refine Kd.C_drew ?_))); (case side2 => exact (Kd.R_reads' HO116.out).2.1); (case side3 => repeat (first | exact (Kd.R_reads' HO104.out).2.2 | (with_reducible refine Kd.C_alloc ?_ _) | (with_reducible refine Kd.C_drewN ?_ _) | (with_reducible refine Kd.C_drew ?_))); (case side4 => exact (Kd.R_reads' HO104.out).2.1); rintro e w' ⟨rfl, ⟨nd, rfl⟩⟩))
          go_meet
          case rel => exact ⟨_, (((t109.length : Int) != (wrap64 (2 * (t102.length : Int))))), (by first | rfl | (simp; done) | (simp [*]; done)), H', ⟨by first | omega | exact Nat.le_refl _⟩, ⟨by (with_reducible repeat (first | apply Kd.R_alloc | apply Kd.R_drewN | apply Kd.R_drew)); exact HO112.out⟩, ⟨by repeat (first | (with_reducible first | exact HB.out | apply below_alloc | apply pw_below_drewN | apply below_drew1) | exact HB.out)⟩⟩
        · replace c22 := Bool.eq_false_iff.mpr c22
          subst c22
          have H1 : (postriderlaw07_DictBack.j0 k t105 t106 t101 t108 t109 t110 true) = some r := by rw [if_neg (show ¬ (false = true) by decide)] at H; exact H
          clear H
          have H := H1
          clear H1
          have H' := Aside0.mk H
          clear H
          obtain ⟨Ao24, co24, eo24⟩ := Kd.R_slice HO116.out
          subst eo24
          go_wp2_with (first | (go_at_call 19; (with_reducible refine (postriderref06_Same.calls k _ _ t113 _ _ t102 false _ ?side1 ?side2 ?side3 ?side4 A21.out).mono ?_); (case side1 => repeat (first | exact (Kd.R_reads' HO116.out).2.2 | (with_reducible refine Kd.C_alloc ?_ _) | (with_reducible refine Kd.C_drewN ?_ _) | (with_reducible refine Kd.C_drew ?_))); (case side2 => exact (Kd.R_reads' HO116.out).2.1); (case side3 => repeat (first | exact (Kd.R_reads' HO104.out).2.2 | (with_reducible refine Kd.C_alloc ?_ _) | (with_reducible refine Kd.C_drewN ?_ _) | (with_reducible refine Kd.C_drew ?_))); (case side4 => exact (Kd.R_reads' HO104.out).2.1); rintro e w' ⟨rfl, ⟨nd, rfl⟩⟩))
          go_meet
          case rel => exact ⟨_, (true), (by first | rfl | (simp; done) | (simp [*]; done)), H', ⟨by first | omega | exact Nat.le_refl _⟩, ⟨by (with_reducible repeat (first | apply Kd.R_alloc | apply Kd.R_drewN | apply Kd.R_drew)); exact HO112.out⟩, ⟨by repeat (first | (with_reducible first | exact HB.out | apply below_alloc | apply pw_below_drewN | apply below_drew1) | exact HB.out)⟩⟩
      · rw [if_neg c20] at H
        have c20b0 : (t114 == 0) = false := beq_eq_false_iff_ne.mpr c20
        have c20b1 : (t114 != 0) = true := bne_iff_ne.mpr c20
        have H' := Aside0.mk H
        clear H
        go_wp2
        go_meet
        case rel => exact ⟨_, (true), (by first | rfl | (simp; done) | (simp [*]; done)), H', ⟨by first | omega | exact Nat.le_refl _⟩, ⟨by (with_reducible repeat (first | apply Kd.R_alloc | apply Kd.R_drewN | apply Kd.R_drew)); exact HO112.out⟩, ⟨by repeat (first | (with_reducible first | exact HB.out | apply below_alloc | apply pw_below_drewN | apply below_drew1) | exact HB.out)⟩⟩
    · rw [if_neg c19] at H
      have c19b0 : (t110 == 0) = false := beq_eq_false_iff_ne.mpr c19
      have c19b1 : (t110 != 0) = true := bne_iff_ne.mpr c19
      (first | rw [c19b0] | (simp only [i64_w, i32_w]; rw [c19b0]) | skip)
      have H' := Aside0.mk H
      clear H
      go_wp2
      go_meet
      case rel => exact ⟨_, (false), (by first | rfl | (simp; done) | (simp [*]; done)), H', ⟨by first | omega | exact Nat.le_refl _⟩, ⟨by (with_reducible repeat (first | apply Kd.R_alloc | apply Kd.R_drewN | apply Kd.R_drew)); exact HO112.out⟩, ⟨by repeat (first | (with_reducible first | exact HB.out | apply below_alloc | apply pw_below_drewN | apply below_drew1) | exact HB.out)⟩⟩
  case rest =>
    clear HC10
    try clear c1
    try clear c2
    try clear p2
    try clear c4
    try clear p6
    try clear c8
    try clear c9
    try clear c10
    try clear c11
    try clear c12
    try clear c14
    try clear c19
    try clear c19b0
    try clear c19b1
    try clear c20
    try clear c20b0
    try clear c20b1
    try clear c22
    obtain ⟨kq, x56_9, rfl, HA, HJ9, HO_9, HB⟩ := hcut
    cases kq with
    | zero => exact absurd HA.out (by simp [postriderlaw07_DictBack.j0])
    | succ kj9 =>
      have H := HA.out
      clear HA
      simp only [postriderlaw07_DictBack.j0] at H
      by_cases c25 : x56_9 = true
      · subst c25
        have H1 : (none) = some r := by rw [if_pos rfl] at H; exact H
        clear H
        have H := H1
        clear H1
        exact absurd H (by simp)
      · replace c25 := Bool.eq_false_iff.mpr c25
        subst c25
        have H1 : ((dict_Read.f t105 t106).bind fun bt118 => ((dict_Build.f bt118.1).bind fun bt122 => (if t101 = true then (if t110 = 0 then (if bt118.2 = 0 then (if bt122.2.2 = 0 then (if bt122.1.toList = t105.toList then ((postriderref02_Ints.f kj9 bt122.2.1 t106).bind fun t127 => (some t127)) else (none)) else (none)) else (if (bt118.1.length : Int) = 0 then (some true) else (none))) else (if t108.toList = ([] : List UInt8) then (if (t109.length : Int) = 0 then (if bt118.2 = 0 then (if bt122.2.2 = 0 then (if bt122.1.toList = t105.toList then ((postriderref02_Ints.f kj9 bt122.2.1 t106).bind fun t128 => (some t128)) else (none)) else (none)) else (if (bt118.1.length : Int) = 0 then (some true) else (none))) else (none)) else (none))) else (none)))) = some r := by rw [if_neg (show ¬ (false = true) by decide)] at H; exact H
        clear H
        have H := H1
        clear H1
        replace H := Option.bind_eq_some_iff.mp H
        obtain ⟨⟨t118, t119⟩, A260, H⟩ := H
        replace H : ((dict_Build.f t118).bind fun bt122 => (if t101 = true then (if t110 = 0 then (if t119 = 0 then (if bt122.2.2 = 0 then (if bt122.1.toList = t105.toList then ((postriderref02_Ints.f kj9 bt122.2.1 t106).bind fun t127 => (some t127)) else (none)) else (none)) else (if (t118.length : Int) = 0 then (some true) else (none))) else (if t108.toList = ([] : List UInt8) then (if (t109.length : Int) = 0 then (if t119 = 0 then (if bt122.2.2 = 0 then (if bt122.1.toList = t105.toList then ((postriderref02_Ints.f kj9 bt122.2.1 t106).bind fun t128 => (some t128)) else (none)) else (none)) else (if (t118.length : Int) = 0 then (some true) else (none))) else (none)) else (none))) else (none))) = some r := H
        have A26 := Aside0.mk A260
        clear A260
        replace H := Option.bind_eq_some_iff.mp H
        obtain ⟨⟨t122, t123, t124⟩, A270, H⟩ := H
        replace H : (if t101 = true then (if t110 = 0 then (if t119 = 0 then (if t124 = 0 then (if t122.toList = t105.toList then ((postriderref02_Ints.f kj9 t123 t106).bind fun t127 => (some t127)) else (none)) else (none)) else (if (t118.length : Int) = 0 then (some true) else (none))) else (if t108.toList = ([] : List UInt8) then (if (t109.length : Int) = 0 then (if t119 = 0 then (if t124 = 0 then (if t122.toList = t105.toList then ((postriderref02_Ints.f kj9 t123 t106).bind fun t128 => (some t128)) else (none)) else (none)) else (if (t118.length : Int) = 0 then (some true) else (none))) else (none)) else (none))) else (none)) = some r := H
        have A27 := Aside0.mk A270
        clear A270
        by_cases c28 : t101 = true
        · subst c28
          have H1 : (if t110 = 0 then (if t119 = 0 then (if t124 = 0 then (if t122.toList = t105.toList then ((postriderref02_Ints.f kj9 t123 t106).bind fun t127 => (some t127)) else (none)) else (none)) else (if (t118.length : Int) = 0 then (some true) else (none))) else (if t108.toList = ([] : List UInt8) then (if (t109.length : Int) = 0 then (if t119 = 0 then (if t124 = 0 then (if t122.toList = t105.toList then ((postriderref02_Ints.f kj9 t123 t106).bind fun t128 => (some t128)) else (none)) else (none)) else (if (t118.length : Int) = 0 then (some true) else (none))) else (none)) else (none))) = some r := by rw [if_pos rfl] at H; exact H
          clear H
          have H := H1
          clear H1
          by_cases c29 : t110 = 0
          · rw [if_pos c29] at H
            have c29b0 : (t110 == 0) = true := beq_iff_eq.mpr c29
            have c29b1 : (t110 != 0) = false := bne_eq_false_iff_eq.mpr c29
            clear c29
            by_cases c30 : t119 = 0
            · rw [if_pos c30] at H
              have c30b0 : (t119 == 0) = true := beq_iff_eq.mpr c30
              have c30b1 : (t119 != 0) = false := bne_eq_false_iff_eq.mpr c30
              clear c30
              by_cases c31 : t124 = 0
              · rw [if_pos c31] at H
                have c31b0 : (t124 == 0) = true := beq_iff_eq.mpr c31
                have c31b1 : (t124 != 0) = false := bne_eq_false_iff_eq.mpr c31
                clear c31
                by_cases c32 : t122.toList = t105.toList
                · rw [if_pos c32] at H
                  have c32b0 : (t122.toList == t105.toList) = true := beq_iff_eq.mpr c32
                  have c32b1 : (t122.toList != t105.toList) = false := bne_eq_false_iff_eq.mpr c32
                  clear c32
                  replace H := Option.bind_eq_some_iff.mp H
                  obtain ⟨t127, A330, H⟩ := H
                  replace H : (some t127) = some r := H
                  have A33 := Aside0.mk A330
                  clear A330
                  obtain rfl := Option.some.inj H
                  go_wp2_with (first | ((with_reducible refine gate_callee (f := 14) rfl ?_); refine goesL_ (some 60) rfl rfl Tryz.func14 (by kernel_rfl) rfl #[.string t105, .slice A2 t106.length c2] rfl (by (try simp only [List.map_toArray, List.map_cons, List.map_nil]); first | done | rfl | (simp only [List.length_drop, List.length_take]; rfl)) ?_; (with_reducible refine (dict_Read.calls t105 _ _ t106 t118 t119 _ ?side1 ?side2 ?side3 A26.out).mono ?_); (case side1 => repeat (first | exact (Kd.C_below HR107.out HB.out) | (with_reducible refine Kd.C_alloc ?_ _) | (with_reducible refine Kd.C_drewN ?_ _) | (with_reducible refine Kd.C_drew ?_))); (case side2 => exact HC107.out); (case side3 => exact LaidD.below HLD.out (by repeat (first | (with_reducible first | exact HB.out | apply below_alloc | apply pw_below_drewN | apply below_drew1) | exact HB.out))); rintro e w34 ⟨v120, rfl, ho0, hb⟩; refine ⟨_, rfl, ?_⟩; have n0_ := Aside0.mk (Kd.R_below (by (with_reducible repeat (first | apply Kd.R_alloc | apply Kd.R_drewN | apply Kd.R_drew)); exact HO_9.out) hb); have n1_ := Aside0.mk (Kd.R_lower ho0 (below_size (by repeat (first | (with_reducible first | exact HB.out | apply below_alloc | apply pw_below_drewN | apply below_drew1) | exact HB.out)))); have n2_ := Aside0.mk (below_step (by repeat (first | (with_reducible first | exact HB.out | apply below_alloc | apply pw_below_drewN | apply below_drew1) | exact HB.out)) hb); clear HO_9; clear HB; have HO_9 := n0_; have HO121 := n1_; have HB := n2_; clear n0_ n1_ n2_; (try clear hb); (try clear hb2); (try clear hk); (try clear hi); (try clear ho0); obtain ⟨Ao35, co35, eo35⟩ := Kd.R_slice HO121.out; subst eo35) | ((with_reducible refine gate_callee (f := 12) rfl ?_); refine goesL_ (some 65) rfl rfl Tryz.func12 (by kernel_rfl) rfl #[.slice Ao35 t118.length co35] rfl (by (try simp only [List.map_toArray, List.map_cons, List.map_nil]); first | done | rfl | (simp only [List.length_drop, List.length_take]; rfl)) ?_; (with_reducible refine (dict_Build.calls _ _ t118 t122 t123 t124 _ ?side1 ?side2 ?side3 A27.out).mono ?_); (case side1 => repeat (first | exact (Kd.R_reads' HO121.out).2.2 | (with_reducible refine Kd.C_alloc ?_ _) | (with_reducible refine Kd.C_drewN ?_ _) | (with_reducible refine Kd.C_drew ?_))); (case side2 => exact (Kd.R_reads' HO121.out).2.1); (case side3 => exact LaidD.below HLD.out (by repeat (first | (with_reducible first | exact HB.out | apply below_alloc | apply pw_below_drewN | apply below_drew1) | exact HB.out))); rintro e w36 ⟨v125, rfl, ho0, hb⟩; refine ⟨_, rfl, ?_⟩; have n0_ := Aside0.mk (Kd.R_elder' (by (with_reducible repeat (first | apply Kd.R_alloc | apply Kd.R_drewN | apply Kd.R_drew)); exact HO_9.out) (Kd.R_base ho0) hb); have n1_ := Aside0.mk (Kd.R_below (by (with_reducible repeat (first | apply Kd.R_alloc | apply Kd.R_drewN | apply Kd.R_drew)); exact HO121.out) hb); have n2_ := Aside0.mk (Kd.R_lower (Kd.R_new' ho0 (Kd.R_lt (by (with_reducible repeat (first | apply Kd.R_alloc | apply Kd.R_drewN | apply Kd.R_drew)); exact HO_9.out))) (below_size (by repeat (first | (with_reducible first | exact HB.out | apply below_alloc | apply pw_below_drewN | apply below_drew1) | exact HB.out)))); have n3_ := Aside0.mk (below_step (by repeat (first | (with_reducible first | exact HB.out | apply below_alloc | apply pw_below_drewN | apply below_drew1) | exact HB.out)) hb); clear HO_9; clear HO121; clear HB; have HO_9 := n0_; have HO121 := n1_; have HO126 := n2_; have HB := n3_; clear n0_ n1_ n2_ n3_; (try clear hb); (try clear hb2); (try clear hk); (try clear hi); (try clear ho0); obtain ⟨Ao37, co37, eo37⟩ := Kd.R_slice HO126.out; subst eo37) | (go_at_call 18; (with_reducible refine (postriderref02_Ints.calls kj9 _ _ t123 _ _ t106 t127 _ ?side1 ?side2 ?side3 ?side4 A33.out).mono ?_); (case side1 => repeat (first | exact (Kd.R_reads' HO126.out).2.2 | (with_reducible refine Kd.C_alloc ?_ _) | (with_reducible refine Kd.C_drewN ?_ _) | (with_reducible refine Kd.C_drew ?_))); (case side2 => exact (Kd.R_reads' HO126.out).2.1); (case side3 => repeat (first | exact (Kd.C_below HR107.out HB.out) | (with_reducible refine Kd.C_alloc ?_ _) | (with_reducible refine Kd.C_drewN ?_ _) | (with_reducible refine Kd.C_drew ?_))); (case side4 => exact HC107.out); rintro e w' ⟨rfl, ⟨nd, rfl⟩⟩))
                  all_goals (first | (go_ret; exact ⟨by first | rfl | (simp [errW_none, errW_some] <;> rfl) | (simp [*, errW_none, errW_some] <;> rfl) | (simp_all; done) | fail, by repeat (first | (with_reducible first | exact HB.out | apply below_alloc | apply pw_below_drewN | apply below_drew1) | exact HB.out)⟩) | (exfalso; simp_all; done) | (exfalso; simp only [isEmpty_eq, isEmpty_ne] at *; simp_all; done) | (exfalso; exact isEmpty_clash (by assumption) (by assumption)) | (exfalso; exact isEmpty_clash' (by assumption) (by assumption)) | (exfalso; exact isEmpty_clash2 (by assumption) (by assumption)))
                · rw [if_neg c32] at H
                  exact absurd H (by simp)
              · rw [if_neg c31] at H
                exact absurd H (by simp)
            · rw [if_neg c30] at H
              have c30b0 : (t119 == 0) = false := beq_eq_false_iff_ne.mpr c30
              have c30b1 : (t119 != 0) = true := bne_iff_ne.mpr c30
              by_cases c38 : (t118.length : Int) = 0
              · rw [if_pos c38] at H
                have c38b0 : ((t118.length : Int) == 0) = true := beq_iff_eq.mpr c38
                have c38b1 : ((t118.length : Int) != 0) = false := bne_eq_false_iff_eq.mpr c38
                clear c38
                obtain rfl := Option.some.inj H
                go_wp2_with (first | ((with_reducible refine gate_callee (f := 14) rfl ?_); refine goesL_ (some 60) rfl rfl Tryz.func14 (by kernel_rfl) rfl #[.string t105, .slice A2 t106.length c2] rfl (by (try simp only [List.map_toArray, List.map_cons, List.map_nil]); first | done | rfl | (simp only [List.length_drop, List.length_take]; rfl)) ?_; (with_reducible refine (dict_Read.calls t105 _ _ t106 t118 t119 _ ?side1 ?side2 ?side3 A26.out).mono ?_); (case side1 => repeat (first | exact (Kd.C_below HR107.out HB.out) | (with_reducible refine Kd.C_alloc ?_ _) | (with_reducible refine Kd.C_drewN ?_ _) | (with_reducible refine Kd.C_drew ?_))); (case side2 => exact HC107.out); (case side3 => exact LaidD.below HLD.out (by repeat (first | (with_reducible first | exact HB.out | apply below_alloc | apply pw_below_drewN | apply below_drew1) | exact HB.out))); rintro e w39 ⟨v120, rfl, ho0, hb⟩; refine ⟨_, rfl, ?_⟩; have n0_ := Aside0.mk (Kd.R_below (by (with_reducible repeat (first | apply Kd.R_alloc | apply Kd.R_drewN | apply Kd.R_drew)); exact HO_9.out) hb); have n1_ := Aside0.mk (Kd.R_lower ho0 (below_size (by repeat (first | (with_reducible first | exact HB.out | apply below_alloc | apply pw_below_drewN | apply below_drew1) | exact HB.out)))); have n2_ := Aside0.mk (below_step (by repeat (first | (with_reducible first | exact HB.out | apply below_alloc | apply pw_below_drewN | apply below_drew1) | exact HB.out)) hb); clear HO_9; clear HB; have HO_9 := n0_; have HO121 := n1_; have HB := n2_; clear n0_ n1_ n2_; (try clear hb); (try clear hb2); (try clear hk); (try clear hi); (try clear ho0); obtain ⟨Ao40, co40, eo40⟩ := Kd.R_slice HO121.out; subst eo40) | ((with_reducible refine gate_callee (f := 12) rfl ?_); refine goesL_ (some 65) rfl rfl Tryz.func12 (by kernel_rfl) rfl #[.slice Ao40 t118.length co40] rfl (by (try simp only [List.map_toArray, List.map_cons, List.map_nil]); first | done | rfl | (simp only [List.length_drop, List.length_take]; rfl)) ?_; (with_reducible refine (dict_Build.calls _ _ t118 t122 t123 t124 _ ?side1 ?side2 ?side3 A27.out).mono ?_); (case side1 => repeat (first | exact (Kd.R_reads' HO121.out).2.2 | (with_reducible refine Kd.C_alloc ?_ _) | (with_reducible refine Kd.C_drewN ?_ _) | (with_reducible refine Kd.C_drew ?_))); (case side2 => exact (Kd.R_reads' HO121.out).2.1); (case side3 => exact LaidD.below HLD.out (by repeat (first | (with_reducible first | exact HB.out | apply below_alloc | apply pw_below_drewN | apply below_drew1) | exact HB.out))); rintro e w41 ⟨v125, rfl, ho0, hb⟩; refine ⟨_, rfl, ?_⟩; have n0_ := Aside0.mk (Kd.R_elder' (by (with_reducible repeat (first | apply Kd.R_alloc | apply Kd.R_drewN | apply Kd.R_drew)); exact HO_9.out) (Kd.R_base ho0) hb); have n1_ := Aside0.mk (Kd.R_below (by (with_reducible repeat (first | apply Kd.R_alloc | apply Kd.R_drewN | apply Kd.R_drew)); exact HO121.out) hb); have n2_ := Aside0.mk (Kd.R_lower (Kd.R_new' ho0 (Kd.R_lt (by (with_reducible repeat (first | apply Kd.R_alloc | apply Kd.R_drewN | apply Kd.R_drew)); exact HO_9.out))) (below_size (by repeat (first | (with_reducible first | exact HB.out | apply below_alloc | apply pw_below_drewN | apply below_drew1) | exact HB.out)))); have n3_ := Aside0.mk (below_step (by repeat (first | (with_reducible first | exact HB.out | apply below_alloc | apply pw_below_drewN | apply below_drew1) | exact HB.out)) hb); clear HO_9; clear HO121; clear HB; have HO_9 := n0_; have HO121 := n1_; have HO126 := n2_; have HB := n3_; clear n0_ n1_ n2_ n3_; (try clear hb); (try clear hb2); (try clear hk); (try clear hi); (try clear ho0)))
                all_goals (first | (go_ret; exact ⟨by first | rfl | (simp [errW_none, errW_some] <;> rfl) | (simp [*, errW_none, errW_some] <;> rfl) | (simp_all; done) | fail, by repeat (first | (with_reducible first | exact HB.out | apply below_alloc | apply pw_below_drewN | apply below_drew1) | exact HB.out)⟩) | (exfalso; simp_all; done) | (exfalso; simp only [isEmpty_eq, isEmpty_ne] at *; simp_all; done) | (exfalso; exact isEmpty_clash (by assumption) (by assumption)) | (exfalso; exact isEmpty_clash' (by assumption) (by assumption)) | (exfalso; exact isEmpty_clash2 (by assumption) (by assumption)))
              · rw [if_neg c38] at H
                exact absurd H (by simp)
          · rw [if_neg c29] at H
            have c29b0 : (t110 == 0) = false := beq_eq_false_iff_ne.mpr c29
            have c29b1 : (t110 != 0) = true := bne_iff_ne.mpr c29
            by_cases c42 : t108.toList = ([] : List UInt8)
            · rw [if_pos c42] at H
              have c42b0 : (t108.toList == ([] : List UInt8)) = true := beq_iff_eq.mpr c42
              have c42b1 : (t108.toList != ([] : List UInt8)) = false := bne_eq_false_iff_eq.mpr c42
              clear c42
              by_cases c43 : (t109.length : Int) = 0
              · rw [if_pos c43] at H
                have c43b0 : ((t109.length : Int) == 0) = true := beq_iff_eq.mpr c43
                have c43b1 : ((t109.length : Int) != 0) = false := bne_eq_false_iff_eq.mpr c43
                clear c43
                by_cases c44 : t119 = 0
                · rw [if_pos c44] at H
                  have c44b0 : (t119 == 0) = true := beq_iff_eq.mpr c44
                  have c44b1 : (t119 != 0) = false := bne_eq_false_iff_eq.mpr c44
                  clear c44
                  by_cases c45 : t124 = 0
                  · rw [if_pos c45] at H
                    have c45b0 : (t124 == 0) = true := beq_iff_eq.mpr c45
                    have c45b1 : (t124 != 0) = false := bne_eq_false_iff_eq.mpr c45
                    clear c45
                    by_cases c46 : t122.toList = t105.toList
                    · rw [if_pos c46] at H
                      have c46b0 : (t122.toList == t105.toList) = true := beq_iff_eq.mpr c46
                      have c46b1 : (t122.toList != t105.toList) = false := bne_eq_false_iff_eq.mpr c46
                      clear c46
                      replace H := Option.bind_eq_some_iff.mp H
                      obtain ⟨t128, A470, H⟩ := H
                      replace H : (some t128) = some r := H
                      have A47 := Aside0.mk A470
                      clear A470
                      obtain rfl := Option.some.inj H
                      go_wp2_with (first | ((with_reducible refine gate_callee (f := 14) rfl ?_); refine goesL_ (some 60) rfl rfl Tryz.func14 (by kernel_rfl) rfl #[.string t105, .slice A2 t106.length c2] rfl (by (try simp only [List.map_toArray, List.map_cons, List.map_nil]); first | done | rfl | (simp only [List.length_drop, List.length_take]; rfl)) ?_; (with_reducible refine (dict_Read.calls t105 _ _ t106 t118 t119 _ ?side1 ?side2 ?side3 A26.out).mono ?_); (case side1 => repeat (first | exact (Kd.C_below HR107.out HB.out) | (with_reducible refine Kd.C_alloc ?_ _) | (with_reducible refine Kd.C_drewN ?_ _) | (with_reducible refine Kd.C_drew ?_))); (case side2 => exact HC107.out); (case side3 => exact LaidD.below HLD.out (by repeat (first | (with_reducible first | exact HB.out | apply below_alloc | apply pw_below_drewN | apply below_drew1) | exact HB.out))); rintro e w48 ⟨v120, rfl, ho0, hb⟩; refine ⟨_, rfl, ?_⟩; have n0_ := Aside0.mk (Kd.R_below (by (with_reducible repeat (first | apply Kd.R_alloc | apply Kd.R_drewN | apply Kd.R_drew)); exact HO_9.out) hb); have n1_ := Aside0.mk (Kd.R_lower ho0 (below_size (by repeat (first | (with_reducible first | exact HB.out | apply below_alloc | apply pw_below_drewN | apply below_drew1) | exact HB.out)))); have n2_ := Aside0.mk (below_step (by repeat (first | (with_reducible first | exact HB.out | apply below_alloc | apply pw_below_drewN | apply below_drew1) | exact HB.out)) hb); clear HO_9; clear HB; have HO_9 := n0_; have HO121 := n1_; have HB := n2_; clear n0_ n1_ n2_; (try clear hb); (try clear hb2); (try clear hk); (try clear hi); (try clear ho0); obtain ⟨Ao49, co49, eo49⟩ := Kd.R_slice HO121.out; subst eo49) | ((with_reducible refine gate_callee (f := 12) rfl ?_); refine goesL_ (some 65) rfl rfl Tryz.func12 (by kernel_rfl) rfl #[.slice Ao49 t118.length co49] rfl (by (try simp only [List.map_toArray, List.map_cons, List.map_nil]); first | done | rfl | (simp only [List.length_drop, List.length_take]; rfl)) ?_; (with_reducible refine (dict_Build.calls _ _ t118 t122 t123 t124 _ ?side1 ?side2 ?side3 A27.out).mono ?_); (case side1 => repeat (first | exact (Kd.R_reads' HO121.out).2.2 | (with_reducible refine Kd.C_alloc ?_ _) | (with_reducible refine Kd.C_drewN ?_ _) | (with_reducible refine Kd.C_drew ?_))); (case side2 => exact (Kd.R_reads' HO121.out).2.1); (case side3 => exact LaidD.below HLD.out (by repeat (first | (with_reducible first | exact HB.out | apply below_alloc | apply pw_below_drewN | apply below_drew1) | exact HB.out))); rintro e w50 ⟨v125, rfl, ho0, hb⟩; refine ⟨_, rfl, ?_⟩; have n0_ := Aside0.mk (Kd.R_elder' (by (with_reducible repeat (first | apply Kd.R_alloc | apply Kd.R_drewN | apply Kd.R_drew)); exact HO_9.out) (Kd.R_base ho0) hb); have n1_ := Aside0.mk (Kd.R_below (by (with_reducible repeat (first | apply Kd.R_alloc | apply Kd.R_drewN | apply Kd.R_drew)); exact HO121.out) hb); have n2_ := Aside0.mk (Kd.R_lower (Kd.R_new' ho0 (Kd.R_lt (by (with_reducible repeat (first | apply Kd.R_alloc | apply Kd.R_drewN | apply Kd.R_drew)); exact HO_9.out))) (below_size (by repeat (first | (with_reducible first | exact HB.out | apply below_alloc | apply pw_below_drewN | apply below_drew1) | exact HB.out)))); have n3_ := Aside0.mk (below_step (by repeat (first | (with_reducible first | exact HB.out | apply below_alloc | apply pw_below_drewN | apply below_drew1) | exact HB.out)) hb); clear HO_9; clear HO121; clear HB; have HO_9 := n0_; have HO121 := n1_; have HO126 := n2_; have HB := n3_; clear n0_ n1_ n2_ n3_; (try clear hb); (try clear hb2); (try clear hk); (try clear hi); (try clear ho0); obtain ⟨Ao51, co51, eo51⟩ := Kd.R_slice HO126.out; subst eo51) | (go_at_call 18; (with_reducible refine (postriderref02_Ints.calls kj9 _ _ t123 _ _ t106 t128 _ ?side1 ?side2 ?side3 ?side4 A47.out).mono ?_); (case side1 => repeat (first | exact (Kd.R_reads' HO126.out).2.2 | (with_reducible refine Kd.C_alloc ?_ _) | (with_reducible refine Kd.C_drewN ?_ _) | (with_reducible refine Kd.C_drew ?_))); (case side2 => exact (Kd.R_reads' HO126.out).2.1); (case side3 => repeat (first | exact (Kd.C_below HR107.out HB.out) | (with_reducible refine Kd.C_alloc ?_ _) | (with_reducible refine Kd.C_drewN ?_ _) | (with_reducible refine Kd.C_drew ?_))); (case side4 => exact HC107.out); rintro e w' ⟨rfl, ⟨nd, rfl⟩⟩))
                      all_goals (first | (go_ret; exact ⟨by first | rfl | (simp [errW_none, errW_some] <;> rfl) | (simp [*, errW_none, errW_some] <;> rfl) | (simp_all; done) | fail, by repeat (first | (with_reducible first | exact HB.out | apply below_alloc | apply pw_below_drewN | apply below_drew1) | exact HB.out)⟩) | (exfalso; simp_all; done) | (exfalso; simp only [isEmpty_eq, isEmpty_ne] at *; simp_all; done) | (exfalso; exact isEmpty_clash (by assumption) (by assumption)) | (exfalso; exact isEmpty_clash' (by assumption) (by assumption)) | (exfalso; exact isEmpty_clash2 (by assumption) (by assumption)))
                    · rw [if_neg c46] at H
                      exact absurd H (by simp)
                  · rw [if_neg c45] at H
                    exact absurd H (by simp)
                · rw [if_neg c44] at H
                  have c44b0 : (t119 == 0) = false := beq_eq_false_iff_ne.mpr c44
                  have c44b1 : (t119 != 0) = true := bne_iff_ne.mpr c44
                  by_cases c52 : (t118.length : Int) = 0
                  · rw [if_pos c52] at H
                    have c52b0 : ((t118.length : Int) == 0) = true := beq_iff_eq.mpr c52
                    have c52b1 : ((t118.length : Int) != 0) = false := bne_eq_false_iff_eq.mpr c52
                    clear c52
                    obtain rfl := Option.some.inj H
                    go_wp2_with (first | ((with_reducible refine gate_callee (f := 14) rfl ?_); refine goesL_ (some 60) rfl rfl Tryz.func14 (by kernel_rfl) rfl #[.string t105, .slice A2 t106.length c2] rfl (by (try simp only [List.map_toArray, List.map_cons, List.map_nil]); first | done | rfl | (simp only [List.length_drop, List.length_take]; rfl)) ?_; (with_reducible refine (dict_Read.calls t105 _ _ t106 t118 t119 _ ?side1 ?side2 ?side3 A26.out).mono ?_); (case side1 => repeat (first | exact (Kd.C_below HR107.out HB.out) | (with_reducible refine Kd.C_alloc ?_ _) | (with_reducible refine Kd.C_drewN ?_ _) | (with_reducible refine Kd.C_drew ?_))); (case side2 => exact HC107.out); (case side3 => exact LaidD.below HLD.out (by repeat (first | (with_reducible first | exact HB.out | apply below_alloc | apply pw_below_drewN | apply below_drew1) | exact HB.out))); rintro e w53 ⟨v120, rfl, ho0, hb⟩; refine ⟨_, rfl, ?_⟩; have n0_ := Aside0.mk (Kd.R_below (by (with_reducible repeat (first | apply Kd.R_alloc | apply Kd.R_drewN | apply Kd.R_drew)); exact HO_9.out) hb); have n1_ := Aside0.mk (Kd.R_lower ho0 (below_size (by repeat (first | (with_reducible first | exact HB.out | apply below_alloc | apply pw_below_drewN | apply below_drew1) | exact HB.out)))); have n2_ := Aside0.mk (below_step (by repeat (first | (with_reducible first | exact HB.out | apply below_alloc | apply pw_below_drewN | apply below_drew1) | exact HB.out)) hb); clear HO_9; clear HB; have HO_9 := n0_; have HO121 := n1_; have HB := n2_; clear n0_ n1_ n2_; (try clear hb); (try clear hb2); (try clear hk); (try clear hi); (try clear ho0); obtain ⟨Ao54, co54, eo54⟩ := Kd.R_slice HO121.out; subst eo54) | ((with_reducible refine gate_callee (f := 12) rfl ?_); refine goesL_ (some 65) rfl rfl Tryz.func12 (by kernel_rfl) rfl #[.slice Ao54 t118.length co54] rfl (by (try simp only [List.map_toArray, List.map_cons, List.map_nil]); first | done | rfl | (simp only [List.length_drop, List.length_take]; rfl)) ?_; (with_reducible refine (dict_Build.calls _ _ t118 t122 t123 t124 _ ?side1 ?side2 ?side3 A27.out).mono ?_); (case side1 => repeat (first | exact (Kd.R_reads' HO121.out).2.2 | (with_reducible refine Kd.C_alloc ?_ _) | (with_reducible refine Kd.C_drewN ?_ _) | (with_reducible refine Kd.C_drew ?_))); (case side2 => exact (Kd.R_reads' HO121.out).2.1); (case side3 => exact LaidD.below HLD.out (by repeat (first | (with_reducible first | exact HB.out | apply below_alloc | apply pw_below_drewN | apply below_drew1) | exact HB.out))); rintro e w55 ⟨v125, rfl, ho0, hb⟩; refine ⟨_, rfl, ?_⟩; have n0_ := Aside0.mk (Kd.R_elder' (by (with_reducible repeat (first | apply Kd.R_alloc | apply Kd.R_drewN | apply Kd.R_drew)); exact HO_9.out) (Kd.R_base ho0) hb); have n1_ := Aside0.mk (Kd.R_below (by (with_reducible repeat (first | apply Kd.R_alloc | apply Kd.R_drewN | apply Kd.R_drew)); exact HO121.out) hb); have n2_ := Aside0.mk (Kd.R_lower (Kd.R_new' ho0 (Kd.R_lt (by (with_reducible repeat (first | apply Kd.R_alloc | apply Kd.R_drewN | apply Kd.R_drew)); exact HO_9.out))) (below_size (by repeat (first | (with_reducible first | exact HB.out | apply below_alloc | apply pw_below_drewN | apply below_drew1) | exact HB.out)))); have n3_ := Aside0.mk (below_step (by repeat (first | (with_reducible first | exact HB.out | apply below_alloc | apply pw_below_drewN | apply below_drew1) | exact HB.out)) hb); clear HO_9; clear HO121; clear HB; have HO_9 := n0_; have HO121 := n1_; have HO126 := n2_; have HB := n3_; clear n0_ n1_ n2_ n3_; (try clear hb); (try clear hb2); (try clear hk); (try clear hi); (try clear ho0)))
                    all_goals (first | (go_ret; exact ⟨by first | rfl | (simp [errW_none, errW_some] <;> rfl) | (simp [*, errW_none, errW_some] <;> rfl) | (simp_all; done) | fail, by repeat (first | (with_reducible first | exact HB.out | apply below_alloc | apply pw_below_drewN | apply below_drew1) | exact HB.out)⟩) | (exfalso; simp_all; done) | (exfalso; simp only [isEmpty_eq, isEmpty_ne] at *; simp_all; done) | (exfalso; exact isEmpty_clash (by assumption) (by assumption)) | (exfalso; exact isEmpty_clash' (by assumption) (by assumption)) | (exfalso; exact isEmpty_clash2 (by assumption) (by assumption)))
                  · rw [if_neg c52] at H
                    exact absurd H (by simp)
              · rw [if_neg c43] at H
                exact absurd H (by simp)
            · rw [if_neg c42] at H
              exact absurd H (by simp)
        · replace c28 := Bool.eq_false_iff.mpr c28
          subst c28
          have H1 : (none) = some r := by rw [if_neg (show ¬ (false = true) by decide)] at H; exact H
          clear H
          have H := H1
          clear H1
          exact absurd H (by simp)
end Go.Proofs.YtbjbicaffblchaaGreatDoor.SLDictBack
end
section
namespace Go.Proofs.YtbjbicaffblchaaGreatDoor.Hand
open Go.RowKit Go.Proofs.YtbjbicaffblchaaGreatDoorW Go.Proofs.YtbjbicaffblchaaGreatDoorW.PrintWords Go.Proofs.YtbjbicaffblchaaGreatDoor.SA Go.Proofs.YtbjbicaffblchaaGreatDoor.SK Go.Proofs.YtbjbicaffblchaaGreatDoor.SS Go.Proofs.YtbjbicaffblchaaGreatDoor.SLDictBack
theorem back_end (k : Nat) (hk : 200 ≤ k) (s : ByteArray) (p : List Int) (a : ByteArray) (b : List Int) (e : Int) (hs : s.size ≤ 900) (hp : p.length ≤ 63) (he : e = 0 ∨ a = ⟨#[]⟩ ∧ b = []) :
    postriderlaw07_DictBack.j0 k s p true a b e false = some true := by
  obtain ⟨k, rfl⟩ : ∃ m, k = m + 1 := ⟨k - 1, by omega⟩
  simp only [postriderlaw07_DictBack.j0]
  rw [if_neg (by simp), Read_is s p (by omega)]
  simp only [Option.bind_some]
  rcases read_cases s p with ⟨l, h1, h2, h3⟩ | h1
  · rw [h1]
    dsimp only
    rw [Build_ok (names_ok s (by omega) p.length p l (Nat.le_refl _) h2), h3]
    simp only [Option.bind_some, if_true]
    rw [ints_is p p k (by omega) (by omega)]
    simp only [Option.bind_some, decide_true]
    by_cases h0 : e = 0
    · rw [if_pos h0]
    · rw [if_neg h0]
      rcases he with he | ⟨rfl, rfl⟩
      · exact absurd he h0
      · rw [if_pos (by rw [ByteArray.toList_eq])]
        rfl
  · rw [h1]
    dsimp only
    rw [Build_ok (fun x hx => by cases hx)]
    simp only [Option.bind_some]
    by_cases h0 : e = 0
    · rw [if_pos trivial, if_pos h0]
      rfl
    · rw [if_pos trivial, if_neg h0]
      rcases he with he | ⟨rfl, rfl⟩
      · exact absurd he h0
      · rw [if_pos (by rw [ByteArray.toList_eq])]
        rfl
theorem dictBack_any (k : Nat) (hk : 2000 ≤ k) (l0 : List Nm) (a1 : ByteArray) (l2 : List Int) : postriderlaw07_DictBack.f k l0 a1 l2 = some true := by
  obtain ⟨l, hl, hl1, hl2⟩ := few_is l0 k (by omega)
  obtain ⟨c, hc, hc1⟩ := cut7_is a1
  have hf : few7V.f l2 = some (l2.take 63) := rfl
  have hf1 : (l2.take 63).length ≤ 63 := by rw [List.length_take]; omega
  unfold postriderlaw07_DictBack.f
  rw [shown_true k (by omega), hl, hc, hf]
  simp only [Option.bind_some]
  rw [Build_is hl2]
  simp only [Option.bind_some]
  obtain ⟨s, p, e, hb⟩ : ∃ s p e, buildT l = (s, p, e) := ⟨_, _, _, rfl⟩
  rw [hb]
  rcases built_of hb with ⟨rfl, hB⟩ | ⟨he, rfl, rfl⟩
  · have hss := hB.small
    have hm := hB.many
    simp only []
    rw [Read_is s p (by omega), hB.read]
    simp only [Option.bind_some, if_true]
    rw [same_is l l k (by omega) (by omega)]
    simp only [Option.bind_some, decide_true, if_true]
    have hne : ((p.length : Int) != wrap64 (2 * (l.length : Int))) = false := by
      have : wrap64 (2 * (l.length : Int)) = 2 * (l.length : Int) := by unfold wrap64; omega
      rw [this, hss.2]
      simp
    rw [hne]
    exact back_end k (by omega) c _ s p 0 hc1 hf1 (.inl rfl)
  · simp only []
    rw [Read_is _ _ (by decide)]
    simp only [Option.bind_some, if_neg he]
    exact back_end k (by omega) c _ _ _ e hc1 hf1 (.inr ⟨rfl, rfl⟩)
theorem dictBack_true (l0 : List Nm) (a1 : ByteArray) (l2 : List Int) : postriderlaw07_DictBack.f 2000 l0 a1 l2 = some true := dictBack_any 2000 (Nat.le_refl _) l0 a1 l2
end Go.Proofs.YtbjbicaffblchaaGreatDoor.Hand
end

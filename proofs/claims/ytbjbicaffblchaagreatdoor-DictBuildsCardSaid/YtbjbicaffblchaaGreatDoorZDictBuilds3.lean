import Derived.Test.YtbjbicaffblchaaGreatDoorZDictBuilds2
import Derived.ArgAppend
import Derived.Below
import Derived.BigQuiet
import Derived.Deep.AppendLies
import Derived.Deep.CutBlock
import Derived.Deep.DeepCutAuto
import Derived.Deep.Draws
import Derived.Deep.LoopGhost
import Derived.Deep.OwnRows
import Derived.Deep.QuietTactic
import Derived.Deep.RegionHeld3
import Derived.KernelRfl
import Derived.Laws.BitsLemmas
import Derived.Laws.BytesArg
import Derived.Laws.IdiomCopy
import Derived.Laws.MakeOwn
import Derived.Laws.OwnMore
import Derived.Laws.Rows
import Derived.Laws.Slices
import Derived.Lib.AppendStr
import Derived.Lib.ConvBytes
import Derived.Maps.AppendAt
import Derived.OrdersHeld
import Derived.OwnWalk
import Derived.RowKit
import Derived.RowKit3
import Derived.Tactics
import Derived.Test.YtbjbicaffblchaaGreatDoorProg
import Derived.WalkKit
import Derived.WideLaws
section
namespace Go.Proofs.YtbjbicaffblchaaGreatDoor.SS
open Go.Proofs.YtbjbicaffblchaaGreatDoor.Hand
open Go.Proofs.YtbjbicaffblchaaGreatDoor.SA
open Go.Proofs.YtbjbicaffblchaaGreatDoor.SK
open Go.RowKit Go.Proofs.YtbjbicaffblchaaGreatDoorW.PrintWords Go.Proofs.YtbjbicaffblchaaGreatDoorW.PrintLast Go.Proofs.YtbjbicaffblchaaGreatDoorW.PrintMore
attribute [local go_sem] max2_int min2_int max_two min_two max_three min_three max_four min_four
set_option linter.unusedVariables false
set_option linter.unusedSimpArgs false
def postriderlaw07_shown.f (k : Nat)  : Option (Bool) := (dict_Build.f (([(⟨1, (⟨#[97]⟩ : ByteArray), (⟨#[98]⟩ : ByteArray), 0, 0⟩ : S41), (⟨0, (⟨#[]⟩ : ByteArray), (⟨#[]⟩ : ByteArray), 0, 0⟩ : S41), (⟨1, (⟨#[97]⟩ : ByteArray), (⟨#[98]⟩ : ByteArray), 0, 0⟩ : S41)] : List (S41)))).bind fun bt105 => ((dict_Read.f (⟨#[]⟩ : ByteArray) (([4, 7, 0, 0] : List Int))).bind fun bt113 => ((dict_Read.f (⟨#[]⟩ : ByteArray) (([0, 7] : List Int))).bind fun bt120 => ((dict_Texts.f bt105.1).bind fun bt124 => (if bt105.1.toList = ([100, 116, 110, 0, 47, 47, 97, 47, 98, 0, 110, 111, 110, 101, 0] : List UInt8) then ((postriderref02_Ints.f k bt105.2.1 (([0, 4, 0, 10, 0, 4] : List Int))).bind fun t131 => (if t131 = true then (if bt105.2.2 = 0 then ((postriderref06_Same.f k bt113.1 (([(⟨2, (⟨#[]⟩ : ByteArray), (⟨#[]⟩ : ByteArray), 4, 7⟩ : S41), (⟨0, (⟨#[]⟩ : ByteArray), (⟨#[]⟩ : ByteArray), 0, 0⟩ : S41)] : List (S41)))).bind fun t135 => (if t135 = true then (if bt113.2 = 0 then (if bt120.2 = 70 then ((postriderref07_SameTexts.f k bt124.1 (([(⟨#[100, 116, 110]⟩ : ByteArray), (⟨#[47, 47, 97, 47, 98]⟩ : ByteArray), (⟨#[110, 111, 110, 101]⟩ : ByteArray)] : List ByteArray))).bind fun t139 => (if t139 = true then (some (bt124.2 == 0)) else (none))) else (none)) else (none)) else (none))) else (none)) else (none))) else (none)))))
theorem postriderlaw07_shown.mono : ∀ k, LeO (postriderlaw07_shown.f k ) (postriderlaw07_shown.f (k + 1) ) := by
  intro  k
  unfold postriderlaw07_shown.f
  repeat' first
      | (with_reducible exact postriderref02_Ints.mono _ _ _)
      | (with_reducible exact postriderref06_Same.mono _ _ _)
      | (with_reducible exact postriderref07_SameTexts.mono _ _ _)
      | (with_reducible exact LeO.refl _)
      | (with_reducible exact LeO.none _)
      | (with_reducible refine LeO.ite ?_ ?_)
      | (with_reducible refine LeO.bind ?_ (fun _ => ?_))
      | exact postriderref02_Ints.mono _ _ _
      | exact postriderref06_Same.mono _ _ _
      | exact postriderref07_SameTexts.mono _ _ _
      | exact LeO.none _
      | refine LeO.ite ?_ ?_
      | refine LeO.bind ?_ (fun _ => ?_)
set_option maxHeartbeats 8000000 in
set_option maxRecDepth 100000 in
theorem postriderlaw07_shown.calls (k : Nat)  (r : Bool) (w : World) (hLd : LaidD w) (h : postriderlaw07_shown.f k  = some r) :
    Calls Tryz.prog 8 #[] w fun e w' => e = .returned (.bool r) ∧ Below w.heap.size w w' := by
  have hu41 := Tryz.underlying41
  have HLD := Aside0.mk hLd
  clear hLd
  have HB := Aside0.mk (Below.refl w.heap.size w)
  have H : ((dict_Build.f (([(⟨1, (⟨#[97]⟩ : ByteArray), (⟨#[98]⟩ : ByteArray), 0, 0⟩ : S41), (⟨0, (⟨#[]⟩ : ByteArray), (⟨#[]⟩ : ByteArray), 0, 0⟩ : S41), (⟨1, (⟨#[97]⟩ : ByteArray), (⟨#[98]⟩ : ByteArray), 0, 0⟩ : S41)] : List (S41)))).bind fun bt105 => ((dict_Read.f (⟨#[]⟩ : ByteArray) (([4, 7, 0, 0] : List Int))).bind fun bt113 => ((dict_Read.f (⟨#[]⟩ : ByteArray) (([0, 7] : List Int))).bind fun bt120 => ((dict_Texts.f bt105.1).bind fun bt124 => (if bt105.1.toList = ([100, 116, 110, 0, 47, 47, 97, 47, 98, 0, 110, 111, 110, 101, 0] : List UInt8) then ((postriderref02_Ints.f k bt105.2.1 (([0, 4, 0, 10, 0, 4] : List Int))).bind fun t131 => (if t131 = true then (if bt105.2.2 = 0 then ((postriderref06_Same.f k bt113.1 (([(⟨2, (⟨#[]⟩ : ByteArray), (⟨#[]⟩ : ByteArray), 4, 7⟩ : S41), (⟨0, (⟨#[]⟩ : ByteArray), (⟨#[]⟩ : ByteArray), 0, 0⟩ : S41)] : List (S41)))).bind fun t135 => (if t135 = true then (if bt113.2 = 0 then (if bt120.2 = 70 then ((postriderref07_SameTexts.f k bt124.1 (([(⟨#[100, 116, 110]⟩ : ByteArray), (⟨#[47, 47, 97, 47, 98]⟩ : ByteArray), (⟨#[110, 111, 110, 101]⟩ : ByteArray)] : List ByteArray))).bind fun t139 => (if t139 = true then (some (bt124.2 == 0)) else (none))) else (none)) else (none)) else (none))) else (none)) else (none))) else (none)))))) = some r := h
  clear h
  obtain ⟨y102, hy102⟩ : ∃ y_ : List (S41), y_ = (([(⟨1, (⟨#[97]⟩ : ByteArray), (⟨#[98]⟩ : ByteArray), 0, 0⟩ : S41), (⟨0, (⟨#[]⟩ : ByteArray), (⟨#[]⟩ : ByteArray), 0, 0⟩ : S41), (⟨1, (⟨#[97]⟩ : ByteArray), (⟨#[98]⟩ : ByteArray), 0, 0⟩ : S41)] : List (S41))) := ⟨_, rfl⟩
  replace H : ((dict_Build.f y102).bind fun bt105 => ((dict_Read.f (⟨#[]⟩ : ByteArray) (([4, 7, 0, 0] : List Int))).bind fun bt113 => ((dict_Read.f (⟨#[]⟩ : ByteArray) (([0, 7] : List Int))).bind fun bt120 => ((dict_Texts.f bt105.1).bind fun bt124 => (if bt105.1.toList = ([100, 116, 110, 0, 47, 47, 97, 47, 98, 0, 110, 111, 110, 101, 0] : List UInt8) then ((postriderref02_Ints.f k bt105.2.1 (([0, 4, 0, 10, 0, 4] : List Int))).bind fun t131 => (if t131 = true then (if bt105.2.2 = 0 then ((postriderref06_Same.f k bt113.1 (([(⟨2, (⟨#[]⟩ : ByteArray), (⟨#[]⟩ : ByteArray), 4, 7⟩ : S41), (⟨0, (⟨#[]⟩ : ByteArray), (⟨#[]⟩ : ByteArray), 0, 0⟩ : S41)] : List (S41)))).bind fun t135 => (if t135 = true then (if bt113.2 = 0 then (if bt120.2 = 70 then ((postriderref07_SameTexts.f k bt124.1 (([(⟨#[100, 116, 110]⟩ : ByteArray), (⟨#[47, 47, 97, 47, 98]⟩ : ByteArray), (⟨#[110, 111, 110, 101]⟩ : ByteArray)] : List ByteArray))).bind fun t139 => (if t139 = true then (some (bt124.2 == 0)) else (none))) else (none)) else (none)) else (none))) else (none)) else (none))) else (none)))))) = some r := by first | (rw [hy102]; with_reducible exact H) | (have H2_ := (Option.bind_some _ _).symm.trans H; rw [hy102]; with_reducible exact H2_) | (have H2_ := (Option.bind_some _ _).symm.trans H; with_reducible exact H2_) | with_reducible exact H | (rw [hy102]; exact H) | exact H
  have Ny102 := Aside0.mk hy102
  clear hy102
  replace H := Option.bind_eq_some_iff.mp H
  obtain ⟨⟨t105, t106, t107⟩, A10, H⟩ := H
  replace H : ((dict_Read.f (⟨#[]⟩ : ByteArray) (([4, 7, 0, 0] : List Int))).bind fun bt113 => ((dict_Read.f (⟨#[]⟩ : ByteArray) (([0, 7] : List Int))).bind fun bt120 => ((dict_Texts.f t105).bind fun bt124 => (if t105.toList = ([100, 116, 110, 0, 47, 47, 97, 47, 98, 0, 110, 111, 110, 101, 0] : List UInt8) then ((postriderref02_Ints.f k t106 (([0, 4, 0, 10, 0, 4] : List Int))).bind fun t131 => (if t131 = true then (if t107 = 0 then ((postriderref06_Same.f k bt113.1 (([(⟨2, (⟨#[]⟩ : ByteArray), (⟨#[]⟩ : ByteArray), 4, 7⟩ : S41), (⟨0, (⟨#[]⟩ : ByteArray), (⟨#[]⟩ : ByteArray), 0, 0⟩ : S41)] : List (S41)))).bind fun t135 => (if t135 = true then (if bt113.2 = 0 then (if bt120.2 = 70 then ((postriderref07_SameTexts.f k bt124.1 (([(⟨#[100, 116, 110]⟩ : ByteArray), (⟨#[47, 47, 97, 47, 98]⟩ : ByteArray), (⟨#[110, 111, 110, 101]⟩ : ByteArray)] : List ByteArray))).bind fun t139 => (if t139 = true then (some (bt124.2 == 0)) else (none))) else (none)) else (none)) else (none))) else (none)) else (none))) else (none))))) = some r := H
  have A1 := Aside0.mk A10
  clear A10
  obtain ⟨y110, hy110⟩ : ∃ y_ : List Int, y_ = (([4, 7, 0, 0] : List Int)) := ⟨_, rfl⟩
  replace H : ((dict_Read.f (⟨#[]⟩ : ByteArray) y110).bind fun bt113 => ((dict_Read.f (⟨#[]⟩ : ByteArray) (([0, 7] : List Int))).bind fun bt120 => ((dict_Texts.f t105).bind fun bt124 => (if t105.toList = ([100, 116, 110, 0, 47, 47, 97, 47, 98, 0, 110, 111, 110, 101, 0] : List UInt8) then ((postriderref02_Ints.f k t106 (([0, 4, 0, 10, 0, 4] : List Int))).bind fun t131 => (if t131 = true then (if t107 = 0 then ((postriderref06_Same.f k bt113.1 (([(⟨2, (⟨#[]⟩ : ByteArray), (⟨#[]⟩ : ByteArray), 4, 7⟩ : S41), (⟨0, (⟨#[]⟩ : ByteArray), (⟨#[]⟩ : ByteArray), 0, 0⟩ : S41)] : List (S41)))).bind fun t135 => (if t135 = true then (if bt113.2 = 0 then (if bt120.2 = 70 then ((postriderref07_SameTexts.f k bt124.1 (([(⟨#[100, 116, 110]⟩ : ByteArray), (⟨#[47, 47, 97, 47, 98]⟩ : ByteArray), (⟨#[110, 111, 110, 101]⟩ : ByteArray)] : List ByteArray))).bind fun t139 => (if t139 = true then (some (bt124.2 == 0)) else (none))) else (none)) else (none)) else (none))) else (none)) else (none))) else (none))))) = some r := by first | (rw [hy110]; with_reducible exact H) | (have H2_ := (Option.bind_some _ _).symm.trans H; rw [hy110]; with_reducible exact H2_) | (have H2_ := (Option.bind_some _ _).symm.trans H; with_reducible exact H2_) | with_reducible exact H | (rw [hy110]; exact H) | exact H
  have Ny110 := Aside0.mk hy110
  clear hy110
  replace H := Option.bind_eq_some_iff.mp H
  obtain ⟨⟨t113, t114⟩, A20, H⟩ := H
  replace H : ((dict_Read.f (⟨#[]⟩ : ByteArray) (([0, 7] : List Int))).bind fun bt120 => ((dict_Texts.f t105).bind fun bt124 => (if t105.toList = ([100, 116, 110, 0, 47, 47, 97, 47, 98, 0, 110, 111, 110, 101, 0] : List UInt8) then ((postriderref02_Ints.f k t106 (([0, 4, 0, 10, 0, 4] : List Int))).bind fun t131 => (if t131 = true then (if t107 = 0 then ((postriderref06_Same.f k t113 (([(⟨2, (⟨#[]⟩ : ByteArray), (⟨#[]⟩ : ByteArray), 4, 7⟩ : S41), (⟨0, (⟨#[]⟩ : ByteArray), (⟨#[]⟩ : ByteArray), 0, 0⟩ : S41)] : List (S41)))).bind fun t135 => (if t135 = true then (if t114 = 0 then (if bt120.2 = 70 then ((postriderref07_SameTexts.f k bt124.1 (([(⟨#[100, 116, 110]⟩ : ByteArray), (⟨#[47, 47, 97, 47, 98]⟩ : ByteArray), (⟨#[110, 111, 110, 101]⟩ : ByteArray)] : List ByteArray))).bind fun t139 => (if t139 = true then (some (bt124.2 == 0)) else (none))) else (none)) else (none)) else (none))) else (none)) else (none))) else (none)))) = some r := H
  have A2 := Aside0.mk A20
  clear A20
  obtain ⟨y117, hy117⟩ : ∃ y_ : List Int, y_ = (([0, 7] : List Int)) := ⟨_, rfl⟩
  replace H : ((dict_Read.f (⟨#[]⟩ : ByteArray) y117).bind fun bt120 => ((dict_Texts.f t105).bind fun bt124 => (if t105.toList = ([100, 116, 110, 0, 47, 47, 97, 47, 98, 0, 110, 111, 110, 101, 0] : List UInt8) then ((postriderref02_Ints.f k t106 (([0, 4, 0, 10, 0, 4] : List Int))).bind fun t131 => (if t131 = true then (if t107 = 0 then ((postriderref06_Same.f k t113 (([(⟨2, (⟨#[]⟩ : ByteArray), (⟨#[]⟩ : ByteArray), 4, 7⟩ : S41), (⟨0, (⟨#[]⟩ : ByteArray), (⟨#[]⟩ : ByteArray), 0, 0⟩ : S41)] : List (S41)))).bind fun t135 => (if t135 = true then (if t114 = 0 then (if bt120.2 = 70 then ((postriderref07_SameTexts.f k bt124.1 (([(⟨#[100, 116, 110]⟩ : ByteArray), (⟨#[47, 47, 97, 47, 98]⟩ : ByteArray), (⟨#[110, 111, 110, 101]⟩ : ByteArray)] : List ByteArray))).bind fun t139 => (if t139 = true then (some (bt124.2 == 0)) else (none))) else (none)) else (none)) else (none))) else (none)) else (none))) else (none)))) = some r := by first | (rw [hy117]; with_reducible exact H) | (have H2_ := (Option.bind_some _ _).symm.trans H; rw [hy117]; with_reducible exact H2_) | (have H2_ := (Option.bind_some _ _).symm.trans H; with_reducible exact H2_) | with_reducible exact H | (rw [hy117]; exact H) | exact H
  have Ny117 := Aside0.mk hy117
  clear hy117
  replace H := Option.bind_eq_some_iff.mp H
  obtain ⟨⟨t120, t121⟩, A30, H⟩ := H
  replace H : ((dict_Texts.f t105).bind fun bt124 => (if t105.toList = ([100, 116, 110, 0, 47, 47, 97, 47, 98, 0, 110, 111, 110, 101, 0] : List UInt8) then ((postriderref02_Ints.f k t106 (([0, 4, 0, 10, 0, 4] : List Int))).bind fun t131 => (if t131 = true then (if t107 = 0 then ((postriderref06_Same.f k t113 (([(⟨2, (⟨#[]⟩ : ByteArray), (⟨#[]⟩ : ByteArray), 4, 7⟩ : S41), (⟨0, (⟨#[]⟩ : ByteArray), (⟨#[]⟩ : ByteArray), 0, 0⟩ : S41)] : List (S41)))).bind fun t135 => (if t135 = true then (if t114 = 0 then (if t121 = 70 then ((postriderref07_SameTexts.f k bt124.1 (([(⟨#[100, 116, 110]⟩ : ByteArray), (⟨#[47, 47, 97, 47, 98]⟩ : ByteArray), (⟨#[110, 111, 110, 101]⟩ : ByteArray)] : List ByteArray))).bind fun t139 => (if t139 = true then (some (bt124.2 == 0)) else (none))) else (none)) else (none)) else (none))) else (none)) else (none))) else (none))) = some r := H
  have A3 := Aside0.mk A30
  clear A30
  replace H := Option.bind_eq_some_iff.mp H
  obtain ⟨⟨t124, t125⟩, A40, H⟩ := H
  replace H : (if t105.toList = ([100, 116, 110, 0, 47, 47, 97, 47, 98, 0, 110, 111, 110, 101, 0] : List UInt8) then ((postriderref02_Ints.f k t106 (([0, 4, 0, 10, 0, 4] : List Int))).bind fun t131 => (if t131 = true then (if t107 = 0 then ((postriderref06_Same.f k t113 (([(⟨2, (⟨#[]⟩ : ByteArray), (⟨#[]⟩ : ByteArray), 4, 7⟩ : S41), (⟨0, (⟨#[]⟩ : ByteArray), (⟨#[]⟩ : ByteArray), 0, 0⟩ : S41)] : List (S41)))).bind fun t135 => (if t135 = true then (if t114 = 0 then (if t121 = 70 then ((postriderref07_SameTexts.f k t124 (([(⟨#[100, 116, 110]⟩ : ByteArray), (⟨#[47, 47, 97, 47, 98]⟩ : ByteArray), (⟨#[110, 111, 110, 101]⟩ : ByteArray)] : List ByteArray))).bind fun t139 => (if t139 = true then (some (t125 == 0)) else (none))) else (none)) else (none)) else (none))) else (none)) else (none))) else (none)) = some r := H
  have A4 := Aside0.mk A40
  clear A40
  by_cases c5 : t105.toList = ([100, 116, 110, 0, 47, 47, 97, 47, 98, 0, 110, 111, 110, 101, 0] : List UInt8)
  · rw [if_pos c5] at H
    have c5b0 : (t105.toList == ([100, 116, 110, 0, 47, 47, 97, 47, 98, 0, 110, 111, 110, 101, 0] : List UInt8)) = true := beq_iff_eq.mpr c5
    have c5b1 : (t105.toList != ([100, 116, 110, 0, 47, 47, 97, 47, 98, 0, 110, 111, 110, 101, 0] : List UInt8)) = false := bne_eq_false_iff_eq.mpr c5
    clear c5
    obtain ⟨y128, hy128⟩ : ∃ y_ : List Int, y_ = (([0, 4, 0, 10, 0, 4] : List Int)) := ⟨_, rfl⟩
    replace H : ((postriderref02_Ints.f k t106 y128).bind fun t131 => (if t131 = true then (if t107 = 0 then ((postriderref06_Same.f k t113 (([(⟨2, (⟨#[]⟩ : ByteArray), (⟨#[]⟩ : ByteArray), 4, 7⟩ : S41), (⟨0, (⟨#[]⟩ : ByteArray), (⟨#[]⟩ : ByteArray), 0, 0⟩ : S41)] : List (S41)))).bind fun t135 => (if t135 = true then (if t114 = 0 then (if t121 = 70 then ((postriderref07_SameTexts.f k t124 (([(⟨#[100, 116, 110]⟩ : ByteArray), (⟨#[47, 47, 97, 47, 98]⟩ : ByteArray), (⟨#[110, 111, 110, 101]⟩ : ByteArray)] : List ByteArray))).bind fun t139 => (if t139 = true then (some (t125 == 0)) else (none))) else (none)) else (none)) else (none))) else (none)) else (none))) = some r := by first | (rw [hy128]; with_reducible exact H) | (have H2_ := (Option.bind_some _ _).symm.trans H; rw [hy128]; with_reducible exact H2_) | (have H2_ := (Option.bind_some _ _).symm.trans H; with_reducible exact H2_) | with_reducible exact H | (rw [hy128]; exact H) | exact H
    have Ny128 := Aside0.mk hy128
    clear hy128
    replace H := Option.bind_eq_some_iff.mp H
    obtain ⟨t131, A60, H⟩ := H
    replace H : (if t131 = true then (if t107 = 0 then ((postriderref06_Same.f k t113 (([(⟨2, (⟨#[]⟩ : ByteArray), (⟨#[]⟩ : ByteArray), 4, 7⟩ : S41), (⟨0, (⟨#[]⟩ : ByteArray), (⟨#[]⟩ : ByteArray), 0, 0⟩ : S41)] : List (S41)))).bind fun t135 => (if t135 = true then (if t114 = 0 then (if t121 = 70 then ((postriderref07_SameTexts.f k t124 (([(⟨#[100, 116, 110]⟩ : ByteArray), (⟨#[47, 47, 97, 47, 98]⟩ : ByteArray), (⟨#[110, 111, 110, 101]⟩ : ByteArray)] : List ByteArray))).bind fun t139 => (if t139 = true then (some (t125 == 0)) else (none))) else (none)) else (none)) else (none))) else (none)) else (none)) = some r := H
    have A6 := Aside0.mk A60
    clear A60
    by_cases c7 : t131 = true
    · subst c7
      have H1 : (if t107 = 0 then ((postriderref06_Same.f k t113 (([(⟨2, (⟨#[]⟩ : ByteArray), (⟨#[]⟩ : ByteArray), 4, 7⟩ : S41), (⟨0, (⟨#[]⟩ : ByteArray), (⟨#[]⟩ : ByteArray), 0, 0⟩ : S41)] : List (S41)))).bind fun t135 => (if t135 = true then (if t114 = 0 then (if t121 = 70 then ((postriderref07_SameTexts.f k t124 (([(⟨#[100, 116, 110]⟩ : ByteArray), (⟨#[47, 47, 97, 47, 98]⟩ : ByteArray), (⟨#[110, 111, 110, 101]⟩ : ByteArray)] : List ByteArray))).bind fun t139 => (if t139 = true then (some (t125 == 0)) else (none))) else (none)) else (none)) else (none))) else (none)) = some r := by rw [if_pos rfl] at H; exact H
      clear H
      have H := H1
      clear H1
      by_cases c8 : t107 = 0
      · rw [if_pos c8] at H
        have c8b0 : (t107 == 0) = true := beq_iff_eq.mpr c8
        have c8b1 : (t107 != 0) = false := bne_eq_false_iff_eq.mpr c8
        clear c8
        obtain ⟨y132, hy132⟩ : ∃ y_ : List (S41), y_ = (([(⟨2, (⟨#[]⟩ : ByteArray), (⟨#[]⟩ : ByteArray), 4, 7⟩ : S41), (⟨0, (⟨#[]⟩ : ByteArray), (⟨#[]⟩ : ByteArray), 0, 0⟩ : S41)] : List (S41))) := ⟨_, rfl⟩
        replace H : ((postriderref06_Same.f k t113 y132).bind fun t135 => (if t135 = true then (if t114 = 0 then (if t121 = 70 then ((postriderref07_SameTexts.f k t124 (([(⟨#[100, 116, 110]⟩ : ByteArray), (⟨#[47, 47, 97, 47, 98]⟩ : ByteArray), (⟨#[110, 111, 110, 101]⟩ : ByteArray)] : List ByteArray))).bind fun t139 => (if t139 = true then (some (t125 == 0)) else (none))) else (none)) else (none)) else (none))) = some r := by first | (rw [hy132]; with_reducible exact H) | (have H2_ := (Option.bind_some _ _).symm.trans H; rw [hy132]; with_reducible exact H2_) | (have H2_ := (Option.bind_some _ _).symm.trans H; with_reducible exact H2_) | with_reducible exact H | (rw [hy132]; exact H) | exact H
        have Ny132 := Aside0.mk hy132
        clear hy132
        replace H := Option.bind_eq_some_iff.mp H
        obtain ⟨t135, A90, H⟩ := H
        replace H : (if t135 = true then (if t114 = 0 then (if t121 = 70 then ((postriderref07_SameTexts.f k t124 (([(⟨#[100, 116, 110]⟩ : ByteArray), (⟨#[47, 47, 97, 47, 98]⟩ : ByteArray), (⟨#[110, 111, 110, 101]⟩ : ByteArray)] : List ByteArray))).bind fun t139 => (if t139 = true then (some (t125 == 0)) else (none))) else (none)) else (none)) else (none)) = some r := H
        have A9 := Aside0.mk A90
        clear A90
        by_cases c10 : t135 = true
        · subst c10
          have H1 : (if t114 = 0 then (if t121 = 70 then ((postriderref07_SameTexts.f k t124 (([(⟨#[100, 116, 110]⟩ : ByteArray), (⟨#[47, 47, 97, 47, 98]⟩ : ByteArray), (⟨#[110, 111, 110, 101]⟩ : ByteArray)] : List ByteArray))).bind fun t139 => (if t139 = true then (some (t125 == 0)) else (none))) else (none)) else (none)) = some r := by rw [if_pos rfl] at H; exact H
          clear H
          have H := H1
          clear H1
          by_cases c11 : t114 = 0
          · rw [if_pos c11] at H
            have c11b0 : (t114 == 0) = true := beq_iff_eq.mpr c11
            have c11b1 : (t114 != 0) = false := bne_eq_false_iff_eq.mpr c11
            clear c11
            by_cases c12 : t121 = 70
            · rw [if_pos c12] at H
              have c12b0 : (t121 == 70) = true := beq_iff_eq.mpr c12
              have c12b1 : (t121 != 70) = false := bne_eq_false_iff_eq.mpr c12
              clear c12
              obtain ⟨y136, hy136⟩ : ∃ y_ : List ByteArray, y_ = (([(⟨#[100, 116, 110]⟩ : ByteArray), (⟨#[47, 47, 97, 47, 98]⟩ : ByteArray), (⟨#[110, 111, 110, 101]⟩ : ByteArray)] : List ByteArray)) := ⟨_, rfl⟩
              replace H : ((postriderref07_SameTexts.f k t124 y136).bind fun t139 => (if t139 = true then (some (t125 == 0)) else (none))) = some r := by first | (rw [hy136]; with_reducible exact H) | (have H2_ := (Option.bind_some _ _).symm.trans H; rw [hy136]; with_reducible exact H2_) | (have H2_ := (Option.bind_some _ _).symm.trans H; with_reducible exact H2_) | with_reducible exact H | (rw [hy136]; exact H) | exact H
              have Ny136 := Aside0.mk hy136
              clear hy136
              replace H := Option.bind_eq_some_iff.mp H
              obtain ⟨t139, A130, H⟩ := H
              replace H : (if t139 = true then (some (t125 == 0)) else (none)) = some r := H
              have A13 := Aside0.mk A130
              clear A130
              by_cases c14 : t139 = true
              · subst c14
                have H1 : (some (t125 == 0)) = some r := by rw [if_pos rfl] at H; exact H
                clear H
                have H := H1
                clear H1
                obtain rfl := Option.some.inj H
                go_enter Tryz.func8, Tryz.ntmps8
                go_wp2_with (first | ((with_reducible refine gate_dst (N := 1) rfl ?_); (try (refine gate_guard (by rfl) ?_; dsimp only)); refine box_event ?hg (N := 1) ?hd (cs := #[.int .i64 0, .string (⟨#[]⟩ : ByteArray), .string (⟨#[]⟩ : ByteArray), .int .i64 0, .int .i64 0]) (t := 41) ?hr ?_; (case hd => rfl); (case hg => rfl); (case hr => first | (go_simp; done) | (go_simp; rfl) | (go_simp; simp only [isEmpty_ne, isEmpty_eq]; done) | (go_simp; simp only [isEmpty_ne, isEmpty_eq]; rfl)); intro gb101 hg w15 hbox hb; have n0_ := Aside0.mk (below_step (by repeat (first | (with_reducible first | exact HB.out | apply below_alloc | apply pw_below_drewN | apply below_drew1) | exact HB.out)) hb); have n1_ := Aside0.mk (hbox); have n2_ := Aside0.mk ((by rw [hg]; exact (below_size (by repeat (first | (with_reducible first | exact HB.out | apply below_alloc | apply pw_below_drewN | apply below_drew1) | exact HB.out))) : w.heap.size ≤ gb101)); have n3_ := Aside0.mk ((by rw [hg]; exact (below_size (by repeat (first | (with_reducible first | exact HB.out | apply below_alloc | apply pw_below_drewN | apply below_drew1) | exact HB.out))) : w.heap.size ≤ gb101)); clear HB; have HB := n0_; have BK101 := n1_; have GW101 := n2_; have GE101 := n3_; clear n0_ n1_ n2_ n3_; clear hb hbox hg; have hcz16_0 : w15.cell? ⟨gb101, 0, none⟩ = some (.int .i64 0) := (blk_cell BK101.out 0).trans rfl; have hcz16_1 : w15.cell? ⟨gb101, 1, none⟩ = some (.string (⟨#[]⟩ : ByteArray)) := (blk_cell BK101.out 1).trans rfl; have hcz16_2 : w15.cell? ⟨gb101, 2, none⟩ = some (.string (⟨#[]⟩ : ByteArray)) := (blk_cell BK101.out 2).trans rfl; have hcz16_3 : w15.cell? ⟨gb101, 3, none⟩ = some (.int .i64 0) := (blk_cell BK101.out 3).trans rfl; have hcz16_4 : w15.cell? ⟨gb101, 4, none⟩ = some (.int .i64 0) := (blk_cell BK101.out 4).trans rfl; have hfz16_0 := blk_frozen BK101.out 0; have hfz16_1 := blk_frozen BK101.out 1; have hfz16_2 := blk_frozen BK101.out 2; have hfz16_3 := blk_frozen BK101.out 3; have hfz16_4 := blk_frozen BK101.out 4) | ((with_reducible refine gate_dst (N := 16) rfl ?_); (try (refine gate_guard (by rfl) ?_; dsimp only)); refine Kd.R_lit k41 _ 41 ?hg (N := 16) ?hd (xs := ([(⟨1, (⟨#[97]⟩ : ByteArray), (⟨#[98]⟩ : ByteArray), 0, 0⟩ : S41), (⟨0, (⟨#[]⟩ : ByteArray), (⟨#[]⟩ : ByteArray), 0, 0⟩ : S41), (⟨1, (⟨#[97]⟩ : ByteArray), (⟨#[98]⟩ : ByteArray), 0, 0⟩ : S41)] : List (S41))) (inner := [.int .i64 1, .string (⟨#[97]⟩ : ByteArray), .string (⟨#[98]⟩ : ByteArray), .int .i64 0, .int .i64 0, .int .i64 0, .string (⟨#[]⟩ : ByteArray), .string (⟨#[]⟩ : ByteArray), .int .i64 0, .int .i64 0, .int .i64 1, .string (⟨#[97]⟩ : ByteArray), .string (⟨#[98]⟩ : ByteArray), .int .i64 0, .int .i64 0]) (ok := fun _ => True) (okp := fun _ => True) ?hr ?hp (fun _ hk => hk) trivial (Below.refl _ _) (Nat.le_refl _) (by simp) ?_; (case hd => rfl); (case hg => rfl); (case hr => first | (go_simp; done) | (go_simp; rfl) | (go_simp; simp only [isEmpty_ne, isEmpty_eq]; done) | (go_simp; simp only [isEmpty_ne, isEmpty_eq]; rfl)); (case hp => exact (Reps.c5 (show Kd.M k41 _ _ _ (⟨1, (⟨#[97]⟩ : ByteArray), (⟨#[98]⟩ : ByteArray), 0, 0⟩ : S41) [.int .i64 1, .string (⟨#[97]⟩ : ByteArray), .string (⟨#[98]⟩ : ByteArray), .int .i64 0, .int .i64 0] from (k41_mkM _ _ _ (⟨1, (⟨#[97]⟩ : ByteArray), (⟨#[98]⟩ : ByteArray), 0, 0⟩ : S41) )) (Reps.c5 (show Kd.M k41 _ _ _ (⟨0, (⟨#[]⟩ : ByteArray), (⟨#[]⟩ : ByteArray), 0, 0⟩ : S41) [.int .i64 0, .string (⟨#[]⟩ : ByteArray), .string (⟨#[]⟩ : ByteArray), .int .i64 0, .int .i64 0] from (k41_mkM _ _ _ (⟨0, (⟨#[]⟩ : ByteArray), (⟨#[]⟩ : ByteArray), 0, 0⟩ : S41) )) (Reps.c5 (show Kd.M k41 _ _ _ (⟨1, (⟨#[97]⟩ : ByteArray), (⟨#[98]⟩ : ByteArray), 0, 0⟩ : S41) [.int .i64 1, .string (⟨#[97]⟩ : ByteArray), .string (⟨#[98]⟩ : ByteArray), .int .i64 0, .int .i64 0] from (k41_mkM _ _ _ (⟨1, (⟨#[97]⟩ : ByteArray), (⟨#[98]⟩ : ByteArray), 0, 0⟩ : S41) )) (Reps.none _ _))))); intro v103 w17 ho18 hb hg_ hnew_; clear hg_ hnew_; (first | rw [← Ny102.out] at ho18 | (simp only [Int.reduceToNat] at ho18; rw [← Ny102.out] at ho18)); have n0_ := Aside0.mk (Kd.R_lower (Kd.R_newB ho18 (g := gb101) (o := .cells #[.int .i64 1, .string (⟨#[97]⟩ : ByteArray), .string (⟨#[98]⟩ : ByteArray), .int .i64 0, .int .i64 0] 41 (0, 0)) (by (with_reducible repeat (first | refine blk_drewN ?_ _ | refine blk_drew ?_ | refine blk_alloc ?_ _)); refine blk_put (cs := #[.int .i64 1, .string (⟨#[97]⟩ : ByteArray), .string (⟨#[98]⟩ : ByteArray), .int .i64 0, .int .i64 0]) ?_ 4 _ rfl; (with_reducible repeat (first | refine blk_drewN ?_ _ | refine blk_drew ?_ | refine blk_alloc ?_ _)); refine blk_put (cs := #[.int .i64 1, .string (⟨#[97]⟩ : ByteArray), .string (⟨#[98]⟩ : ByteArray), .int .i64 0, .int .i64 0]) ?_ 3 _ rfl; (with_reducible repeat (first | refine blk_drewN ?_ _ | refine blk_drew ?_ | refine blk_alloc ?_ _)); refine blk_put (cs := #[.int .i64 1, .string (⟨#[97]⟩ : ByteArray), .string (⟨#[]⟩ : ByteArray), .int .i64 0, .int .i64 0]) ?_ 2 _ rfl; (with_reducible repeat (first | refine blk_drewN ?_ _ | refine blk_drew ?_ | refine blk_alloc ?_ _)); refine blk_put (cs := #[.int .i64 1, .string (⟨#[]⟩ : ByteArray), .string (⟨#[]⟩ : ByteArray), .int .i64 0, .int .i64 0]) ?_ 1 _ rfl; (with_reducible repeat (first | refine blk_drewN ?_ _ | refine blk_drew ?_ | refine blk_alloc ?_ _)); refine blk_put (cs := #[.int .i64 0, .string (⟨#[]⟩ : ByteArray), .string (⟨#[]⟩ : ByteArray), .int .i64 0, .int .i64 0]) ?_ 0 _ rfl; (with_reducible repeat (first | refine blk_drewN ?_ _ | refine blk_drew ?_ | refine blk_alloc ?_ _)); exact BK101.out)) (below_size (by repeat (first | (with_reducible first | exact HB.out | apply below_alloc | apply pw_below_drewN | apply below_drew1 | refine below_set ?_ GE101.out) | exact HB.out)))); have n1_ := Aside0.mk (blk_below (g := gb101) (o := .cells #[.int .i64 1, .string (⟨#[97]⟩ : ByteArray), .string (⟨#[98]⟩ : ByteArray), .int .i64 0, .int .i64 0] 41 (0, 0)) (by (with_reducible repeat (first | refine blk_drewN ?_ _ | refine blk_drew ?_ | refine blk_alloc ?_ _)); refine blk_put (cs := #[.int .i64 1, .string (⟨#[97]⟩ : ByteArray), .string (⟨#[98]⟩ : ByteArray), .int .i64 0, .int .i64 0]) ?_ 4 _ rfl; (with_reducible repeat (first | refine blk_drewN ?_ _ | refine blk_drew ?_ | refine blk_alloc ?_ _)); refine blk_put (cs := #[.int .i64 1, .string (⟨#[97]⟩ : ByteArray), .string (⟨#[98]⟩ : ByteArray), .int .i64 0, .int .i64 0]) ?_ 3 _ rfl; (with_reducible repeat (first | refine blk_drewN ?_ _ | refine blk_drew ?_ | refine blk_alloc ?_ _)); refine blk_put (cs := #[.int .i64 1, .string (⟨#[97]⟩ : ByteArray), .string (⟨#[]⟩ : ByteArray), .int .i64 0, .int .i64 0]) ?_ 2 _ rfl; (with_reducible repeat (first | refine blk_drewN ?_ _ | refine blk_drew ?_ | refine blk_alloc ?_ _)); refine blk_put (cs := #[.int .i64 1, .string (⟨#[]⟩ : ByteArray), .string (⟨#[]⟩ : ByteArray), .int .i64 0, .int .i64 0]) ?_ 1 _ rfl; (with_reducible repeat (first | refine blk_drewN ?_ _ | refine blk_drew ?_ | refine blk_alloc ?_ _)); refine blk_put (cs := #[.int .i64 0, .string (⟨#[]⟩ : ByteArray), .string (⟨#[]⟩ : ByteArray), .int .i64 0, .int .i64 0]) ?_ 0 _ rfl; (with_reducible repeat (first | refine blk_drewN ?_ _ | refine blk_drew ?_ | refine blk_alloc ?_ _)); exact BK101.out) hb); have n2_ := Aside0.mk (below_step (by repeat (first | (with_reducible first | exact HB.out | apply below_alloc | apply pw_below_drewN | apply below_drew1 | refine below_set ?_ GE101.out) | exact HB.out)) hb); clear BK101; clear HB; have HO104 := n0_; have BK101 := n1_; have HB := n2_; clear n0_ n1_ n2_; clear hb ho18; obtain ⟨Ao19, co19, eo19⟩ := Kd.R_slice HO104.out; subst eo19) | ((with_reducible refine gate_callee (f := 12) rfl ?_); refine goesL_ (some 17) rfl rfl Tryz.func12 (by kernel_rfl) rfl #[.slice Ao19 y102.length co19] rfl (by (try simp only [List.map_toArray, List.map_cons, List.map_nil]); first | done | rfl | (simp only [List.length_drop, List.length_take]; rfl)) ?_; (with_reducible refine (dict_Build.calls _ _ y102 t105 t106 t107 _ ?side1 ?side2 ?side3 A1.out).mono ?_); (case side1 => repeat (first | exact (Kd.R_reads' HO104.out).2.2 | (with_reducible refine Kd.C_alloc ?_ _) | (with_reducible refine Kd.C_drewN ?_ _) | (with_reducible refine Kd.C_drew ?_))); (case side2 => exact (Kd.R_reads' HO104.out).2.1); (case side3 => exact LaidD.below HLD.out (by repeat (first | (with_reducible first | exact HB.out | apply below_alloc | apply pw_below_drewN | apply below_drew1 | refine below_set ?_ GE101.out) | exact HB.out))); rintro e w20 ⟨v108, rfl, ho0, hb⟩; refine ⟨_, rfl, ?_⟩; have n0_ := Aside0.mk (Kd.R_below (by (with_reducible repeat (first | apply Kd.R_alloc | apply Kd.R_drewN | apply Kd.R_drew)); exact HO104.out) hb); have n1_ := Aside0.mk (Kd.R_lower ho0 (below_size (by repeat (first | (with_reducible first | exact HB.out | apply below_alloc | apply pw_below_drewN | apply below_drew1 | refine below_set ?_ GE101.out) | exact HB.out)))); have n2_ := Aside0.mk (blk_below (g := gb101) (o := .cells #[.int .i64 1, .string (⟨#[97]⟩ : ByteArray), .string (⟨#[98]⟩ : ByteArray), .int .i64 0, .int .i64 0] 41 (0, 0)) (by (with_reducible repeat (first | refine blk_drewN ?_ _ | refine blk_drew ?_ | refine blk_alloc ?_ _)); exact BK101.out) hb); have n3_ := Aside0.mk (below_step (by repeat (first | (with_reducible first | exact HB.out | apply below_alloc | apply pw_below_drewN | apply below_drew1 | refine below_set ?_ GE101.out) | exact HB.out)) hb); clear HO104; clear BK101; clear HB; have HO104 := n0_; have HO109 := n1_; have BK101 := n2_; have HB := n3_; clear n0_ n1_ n2_ n3_; (try clear hb); (try clear hb2); (try clear hk); (try clear hi); (try clear ho0)) | ((with_reducible refine gate_dst (N := 22) rfl ?_); (try (refine gate_guard (by rfl) ?_; dsimp only)); refine Kd.R_lit (Kd.int .i64) _ 3 ?hg (N := 22) ?hd (xs := ([4, 7, 0, 0] : List Int)) (inner := [.int .i64 4, .int .i64 7, .int .i64 0, .int .i64 0]) (ok := fun _ => True) (okp := fun _ => True) ?hr ?hp (fun _ hk => hk) trivial (Below.refl _ _) (Nat.le_refl _) (by simp) ?_; (case hd => rfl); (case hg => rfl); (case hr => first | (go_simp; done) | (go_simp; rfl) | (go_simp; simp only [isEmpty_ne, isEmpty_eq]; done) | (go_simp; simp only [isEmpty_ne, isEmpty_eq]; rfl)); (case hp => exact (Reps.one (show Kd.M (Kd.int .i64) _ _ _ 4 [.int .i64 4] from rfl) (Reps.one (show Kd.M (Kd.int .i64) _ _ _ 7 [.int .i64 7] from rfl) (Reps.one (show Kd.M (Kd.int .i64) _ _ _ 0 [.int .i64 0] from rfl) (Reps.one (show Kd.M (Kd.int .i64) _ _ _ 0 [.int .i64 0] from rfl) (Reps.none _ _)))))); intro v111 w21 ho22 hb hg_ hnew_; clear hg_ hnew_; (first | rw [← Ny110.out] at ho22 | (simp only [Int.reduceToNat] at ho22; rw [← Ny110.out] at ho22)); have n0_ := Aside0.mk (Kd.R_below (by (with_reducible repeat (first | apply Kd.R_alloc | apply Kd.R_drewN | apply Kd.R_drew)); exact HO104.out) hb); have n1_ := Aside0.mk (Kd.R_elder' (by (with_reducible repeat (first | apply Kd.R_alloc | apply Kd.R_drewN | apply Kd.R_drew)); exact HO109.out) (Kd.R_base ho22) hb); have n2_ := Aside0.mk (Kd.R_lower (Kd.R_new' ho22 (Kd.R_lt (by (with_reducible repeat (first | apply Kd.R_alloc | apply Kd.R_drewN | apply Kd.R_drew)); exact HO109.out))) (below_size (by repeat (first | (with_reducible first | exact HB.out | apply below_alloc | apply pw_below_drewN | apply below_drew1 | refine below_set ?_ GE101.out) | exact HB.out)))); have n3_ := Aside0.mk (blk_below (g := gb101) (o := .cells #[.int .i64 1, .string (⟨#[97]⟩ : ByteArray), .string (⟨#[98]⟩ : ByteArray), .int .i64 0, .int .i64 0] 41 (0, 0)) (by (with_reducible repeat (first | refine blk_drewN ?_ _ | refine blk_drew ?_ | refine blk_alloc ?_ _)); exact BK101.out) hb); have n4_ := Aside0.mk (below_step (by repeat (first | (with_reducible first | exact HB.out | apply below_alloc | apply pw_below_drewN | apply below_drew1 | refine below_set ?_ GE101.out) | exact HB.out)) hb); clear HO104; clear HO109; clear BK101; clear HB; have HO104 := n0_; have HO109 := n1_; have HO112 := n2_; have BK101 := n3_; have HB := n4_; clear n0_ n1_ n2_ n3_ n4_; clear hb ho22; obtain ⟨Ao23, co23, eo23⟩ := Kd.R_slice HO112.out; subst eo23) | ((with_reducible refine gate_callee (f := 14) rfl ?_); refine goesL_ (some 23) rfl rfl Tryz.func14 (by kernel_rfl) rfl #[.string (⟨#[]⟩ : ByteArray), .slice Ao23 y110.length co23] rfl (by (try simp only [List.map_toArray, List.map_cons, List.map_nil]); first | done | rfl | (simp only [List.length_drop, List.length_take]; rfl)) ?_; (with_reducible refine (dict_Read.calls (⟨#[]⟩ : ByteArray) _ _ y110 t113 t114 _ ?side1 ?side2 ?side3 A2.out).mono ?_); (case side1 => repeat (first | exact (Kd.R_reads' HO112.out).2.2 | (with_reducible refine Kd.C_alloc ?_ _) | (with_reducible refine Kd.C_drewN ?_ _) | (with_reducible refine Kd.C_drew ?_))); (case side2 => exact (Kd.R_reads' HO112.out).2.1); (case side3 => exact LaidD.below HLD.out (by repeat (first | (with_reducible first | exact HB.out | apply below_alloc | apply pw_below_drewN | apply below_drew1 | refine below_set ?_ GE101.out) | exact HB.out))); rintro e w24 ⟨v115, rfl, ho0, hb⟩; refine ⟨_, rfl, ?_⟩; have n0_ := Aside0.mk (Kd.R_elder' (by (with_reducible repeat (first | apply Kd.R_alloc | apply Kd.R_drewN | apply Kd.R_drew)); exact HO104.out) (Kd.R_base ho0) hb); have n1_ := Aside0.mk (Kd.R_below (by (with_reducible repeat (first | apply Kd.R_alloc | apply Kd.R_drewN | apply Kd.R_drew)); exact HO109.out) hb); have n2_ := Aside0.mk (Kd.R_below (by (with_reducible repeat (first | apply Kd.R_alloc | apply Kd.R_drewN | apply Kd.R_drew)); exact HO112.out) hb); have n3_ := Aside0.mk (Kd.R_lower (Kd.R_newB (Kd.R_new' ho0 (Kd.R_lt (by (with_reducible repeat (first | apply Kd.R_alloc | apply Kd.R_drewN | apply Kd.R_drew)); exact HO104.out))) (g := gb101) (o := .cells #[.int .i64 1, .string (⟨#[97]⟩ : ByteArray), .string (⟨#[98]⟩ : ByteArray), .int .i64 0, .int .i64 0] 41 (0, 0)) (by (with_reducible repeat (first | refine blk_drewN ?_ _ | refine blk_drew ?_ | refine blk_alloc ?_ _)); exact BK101.out)) (below_size (by repeat (first | (with_reducible first | exact HB.out | apply below_alloc | apply pw_below_drewN | apply below_drew1 | refine below_set ?_ GE101.out) | exact HB.out)))); have n4_ := Aside0.mk (blk_below (g := gb101) (o := .cells #[.int .i64 1, .string (⟨#[97]⟩ : ByteArray), .string (⟨#[98]⟩ : ByteArray), .int .i64 0, .int .i64 0] 41 (0, 0)) (by (with_reducible repeat (first | refine blk_drewN ?_ _ | refine blk_drew ?_ | refine blk_alloc ?_ _)); exact BK101.out) hb); have n5_ := Aside0.mk (below_step (by repeat (first | (with_reducible first | exact HB.out | apply below_alloc | apply pw_below_drewN | apply below_drew1 | refine below_set ?_ GE101.out) | exact HB.out)) hb); clear HO104; clear HO109; clear HO112; clear BK101; clear HB; have HO104 := n0_; have HO109 := n1_; have HO112 := n2_; have HO116 := n3_; have BK101 := n4_; have HB := n5_; clear n0_ n1_ n2_ n3_ n4_ n5_; (try clear hb); (try clear hb2); (try clear hk); (try clear hi); (try clear ho0)) | ((with_reducible refine gate_dst (N := 27) rfl ?_); (try (refine gate_guard (by rfl) ?_; dsimp only)); refine Kd.R_lit (Kd.int .i64) _ 3 ?hg (N := 27) ?hd (xs := ([0, 7] : List Int)) (inner := [.int .i64 0, .int .i64 7]) (ok := fun _ => True) (okp := fun _ => True) ?hr ?hp (fun _ hk => hk) trivial (Below.refl _ _) (Nat.le_refl _) (by simp) ?_; (case hd => rfl); (case hg => rfl); (case hr => first | (go_simp; done) | (go_simp; rfl) | (go_simp; simp only [isEmpty_ne, isEmpty_eq]; done) | (go_simp; simp only [isEmpty_ne, isEmpty_eq]; rfl)); (case hp => exact (Reps.one (show Kd.M (Kd.int .i64) _ _ _ 0 [.int .i64 0] from rfl) (Reps.one (show Kd.M (Kd.int .i64) _ _ _ 7 [.int .i64 7] from rfl) (Reps.none _ _)))); intro v118 w25 ho26 hb hg_ hnew_; clear hg_ hnew_; (first | rw [← Ny117.out] at ho26 | (simp only [Int.reduceToNat] at ho26; rw [← Ny117.out] at ho26)); have n0_ := Aside0.mk (Kd.R_below (by (with_reducible repeat (first | apply Kd.R_alloc | apply Kd.R_drewN | apply Kd.R_drew)); exact HO104.out) hb); have n1_ := Aside0.mk (Kd.R_elder' (by (with_reducible repeat (first | apply Kd.R_alloc | apply Kd.R_drewN | apply Kd.R_drew)); exact HO109.out) (Kd.R_base ho26) hb); have n2_ := Aside0.mk (Kd.R_elder' (by (with_reducible repeat (first | apply Kd.R_alloc | apply Kd.R_drewN | apply Kd.R_drew)); exact HO112.out) (Kd.R_base ho26) hb); have n3_ := Aside0.mk (Kd.R_below (by (with_reducible repeat (first | apply Kd.R_alloc | apply Kd.R_drewN | apply Kd.R_drew)); exact HO116.out) hb); have n4_ := Aside0.mk (Kd.R_lower (Kd.R_new' (Kd.R_new' ho26 (Kd.R_lt (by (with_reducible repeat (first | apply Kd.R_alloc | apply Kd.R_drewN | apply Kd.R_drew)); exact HO109.out))) (Kd.R_lt (by (with_reducible repeat (first | apply Kd.R_alloc | apply Kd.R_drewN | apply Kd.R_drew)); exact HO112.out))) (below_size (by repeat (first | (with_reducible first | exact HB.out | apply below_alloc | apply pw_below_drewN | apply below_drew1 | refine below_set ?_ GE101.out) | exact HB.out)))); have n5_ := Aside0.mk (blk_below (g := gb101) (o := .cells #[.int .i64 1, .string (⟨#[97]⟩ : ByteArray), .string (⟨#[98]⟩ : ByteArray), .int .i64 0, .int .i64 0] 41 (0, 0)) (by (with_reducible repeat (first | refine blk_drewN ?_ _ | refine blk_drew ?_ | refine blk_alloc ?_ _)); exact BK101.out) hb); have n6_ := Aside0.mk (below_step (by repeat (first | (with_reducible first | exact HB.out | apply below_alloc | apply pw_below_drewN | apply below_drew1 | refine below_set ?_ GE101.out) | exact HB.out)) hb); clear HO104; clear HO109; clear HO112; clear HO116; clear BK101; clear HB; have HO104 := n0_; have HO109 := n1_; have HO112 := n2_; have HO116 := n3_; have HO119 := n4_; have BK101 := n5_; have HB := n6_; clear n0_ n1_ n2_ n3_ n4_ n5_ n6_; clear hb ho26; obtain ⟨Ao27, co27, eo27⟩ := Kd.R_slice HO119.out; subst eo27) | ((with_reducible refine gate_callee (f := 14) rfl ?_); refine goesL_ (some 28) rfl rfl Tryz.func14 (by kernel_rfl) rfl #[.string (⟨#[]⟩ : ByteArray), .slice Ao27 y117.length co27] rfl (by (try simp only [List.map_toArray, List.map_cons, List.map_nil]); first | done | rfl | (simp only [List.length_drop, List.length_take]; rfl)) ?_; (with_reducible refine (dict_Read.calls (⟨#[]⟩ : ByteArray) _ _ y117 t120 t121 _ ?side1 ?side2 ?side3 A3.out).mono ?_); (case side1 => repeat (first | exact (Kd.R_reads' HO119.out).2.2 | (with_reducible refine Kd.C_alloc ?_ _) | (with_reducible refine Kd.C_drewN ?_ _) | (with_reducible refine Kd.C_drew ?_))); (case side2 => exact (Kd.R_reads' HO119.out).2.1); (case side3 => exact LaidD.below HLD.out (by repeat (first | (with_reducible first | exact HB.out | apply below_alloc | apply pw_below_drewN | apply below_drew1 | refine below_set ?_ GE101.out) | exact HB.out))); rintro e w28 ⟨v122, rfl, ho0, hb⟩; refine ⟨_, rfl, ?_⟩; have n0_ := Aside0.mk (Kd.R_elder' (by (with_reducible repeat (first | apply Kd.R_alloc | apply Kd.R_drewN | apply Kd.R_drew)); exact HO104.out) (Kd.R_base ho0) hb); have n1_ := Aside0.mk (Kd.R_below (by (with_reducible repeat (first | apply Kd.R_alloc | apply Kd.R_drewN | apply Kd.R_drew)); exact HO109.out) hb); have n2_ := Aside0.mk (Kd.R_below (by (with_reducible repeat (first | apply Kd.R_alloc | apply Kd.R_drewN | apply Kd.R_drew)); exact HO112.out) hb); have n3_ := Aside0.mk (Kd.R_elder' (by (with_reducible repeat (first | apply Kd.R_alloc | apply Kd.R_drewN | apply Kd.R_drew)); exact HO116.out) (Kd.R_base ho0) hb); have n4_ := Aside0.mk (Kd.R_below (by (with_reducible repeat (first | apply Kd.R_alloc | apply Kd.R_drewN | apply Kd.R_drew)); exact HO119.out) hb); have n5_ := Aside0.mk (Kd.R_lower (Kd.R_newB (Kd.R_new' (Kd.R_new' ho0 (Kd.R_lt (by (with_reducible repeat (first | apply Kd.R_alloc | apply Kd.R_drewN | apply Kd.R_drew)); exact HO104.out))) (Kd.R_lt (by (with_reducible repeat (first | apply Kd.R_alloc | apply Kd.R_drewN | apply Kd.R_drew)); exact HO116.out))) (g := gb101) (o := .cells #[.int .i64 1, .string (⟨#[97]⟩ : ByteArray), .string (⟨#[98]⟩ : ByteArray), .int .i64 0, .int .i64 0] 41 (0, 0)) (by (with_reducible repeat (first | refine blk_drewN ?_ _ | refine blk_drew ?_ | refine blk_alloc ?_ _)); exact BK101.out)) (below_size (by repeat (first | (with_reducible first | exact HB.out | apply below_alloc | apply pw_below_drewN | apply below_drew1 | refine below_set ?_ GE101.out) | exact HB.out)))); have n6_ := Aside0.mk (blk_below (g := gb101) (o := .cells #[.int .i64 1, .string (⟨#[97]⟩ : ByteArray), .string (⟨#[98]⟩ : ByteArray), .int .i64 0, .int .i64 0] 41 (0, 0)) (by (with_reducible repeat (first | refine blk_drewN ?_ _ | refine blk_drew ?_ | refine blk_alloc ?_ _)); exact BK101.out) hb); have n7_ := Aside0.mk (below_step (by repeat (first | (with_reducible first | exact HB.out | apply below_alloc | apply pw_below_drewN | apply below_drew1 | refine below_set ?_ GE101.out) | exact HB.out)) hb); clear HO104; clear HO109; clear HO112; clear HO116; clear HO119; clear BK101; clear HB; have HO104 := n0_; have HO109 := n1_; have HO112 := n2_; have HO116 := n3_; have HO119 := n4_; have HO123 := n5_; have BK101 := n6_; have HB := n7_; clear n0_ n1_ n2_ n3_ n4_ n5_ n6_ n7_; (try clear hb); (try clear hb2); (try clear hk); (try clear hi); (try clear ho0)) | ((with_reducible refine gate_callee (f := 16) rfl ?_); refine goesL_ (some 33) rfl rfl Tryz.func16 (by kernel_rfl) rfl #[.string t105] rfl (by (try simp only [List.map_toArray, List.map_cons, List.map_nil]); first | done | rfl | (simp only [List.length_drop, List.length_take]; rfl)) ?_; (with_reducible refine (dict_Texts.calls t105 t124 t125 _ ?side1 A4.out).mono ?_); (case side1 => exact LaidD.below HLD.out (by repeat (first | (with_reducible first | exact HB.out | apply below_alloc | apply pw_below_drewN | apply below_drew1 | refine below_set ?_ GE101.out) | exact HB.out))); rintro e w29 ⟨v126, rfl, ho0, hb⟩; refine ⟨_, rfl, ?_⟩; have n0_ := Aside0.mk (Kd.R_below (by (with_reducible repeat (first | apply Kd.R_alloc | apply Kd.R_drewN | apply Kd.R_drew)); exact HO104.out) hb); have n1_ := Aside0.mk (Kd.R_below (by (with_reducible repeat (first | apply Kd.R_alloc | apply Kd.R_drewN | apply Kd.R_drew)); exact HO109.out) hb); have n2_ := Aside0.mk (Kd.R_below (by (with_reducible repeat (first | apply Kd.R_alloc | apply Kd.R_drewN | apply Kd.R_drew)); exact HO112.out) hb); have n3_ := Aside0.mk (Kd.R_below (by (with_reducible repeat (first | apply Kd.R_alloc | apply Kd.R_drewN | apply Kd.R_drew)); exact HO116.out) hb); have n4_ := Aside0.mk (Kd.R_below (by (with_reducible repeat (first | apply Kd.R_alloc | apply Kd.R_drewN | apply Kd.R_drew)); exact HO119.out) hb); have n5_ := Aside0.mk (Kd.R_below (by (with_reducible repeat (first | apply Kd.R_alloc | apply Kd.R_drewN | apply Kd.R_drew)); exact HO123.out) hb); have n6_ := Aside0.mk (Kd.R_lower ho0 (below_size (by repeat (first | (with_reducible first | exact HB.out | apply below_alloc | apply pw_below_drewN | apply below_drew1 | refine below_set ?_ GE101.out) | exact HB.out)))); have n7_ := Aside0.mk (blk_below (g := gb101) (o := .cells #[.int .i64 1, .string (⟨#[97]⟩ : ByteArray), .string (⟨#[98]⟩ : ByteArray), .int .i64 0, .int .i64 0] 41 (0, 0)) (by (with_reducible repeat (first | refine blk_drewN ?_ _ | refine blk_drew ?_ | refine blk_alloc ?_ _)); exact BK101.out) hb); have n8_ := Aside0.mk (below_step (by repeat (first | (with_reducible first | exact HB.out | apply below_alloc | apply pw_below_drewN | apply below_drew1 | refine below_set ?_ GE101.out) | exact HB.out)) hb); clear HO104; clear HO109; clear HO112; clear HO116; clear HO119; clear HO123; clear BK101; clear HB; have HO104 := n0_; have HO109 := n1_; have HO112 := n2_; have HO116 := n3_; have HO119 := n4_; have HO123 := n5_; have HO127 := n6_; have BK101 := n7_; have HB := n8_; clear n0_ n1_ n2_ n3_ n4_ n5_ n6_ n7_ n8_; (try clear hb); (try clear hb2); (try clear hk); (try clear hi); (try clear ho0)) | ((with_reducible refine gate_dst (N := 40) rfl ?_); (try (refine gate_guard (by rfl) ?_; dsimp only)); refine Kd.R_lit (Kd.int .i64) _ 3 ?hg (N := 40) ?hd (xs := ([0, 4, 0, 10, 0, 4] : List Int)) (inner := [.int .i64 0, .int .i64 4, .int .i64 0, .int .i64 10, .int .i64 0, .int .i64 4]) (ok := fun _ => True) (okp := fun _ => True) ?hr ?hp (fun _ hk => hk) trivial (Below.refl _ _) (Nat.le_refl _) (by simp) ?_; (case hd => rfl); (case hg => rfl); (case hr => first | (go_simp; done) | (go_simp; rfl) | (go_simp; simp only [isEmpty_ne, isEmpty_eq]; done) | (go_simp; simp only [isEmpty_ne, isEmpty_eq]; rfl)); (case hp => exact (Reps.one (show Kd.M (Kd.int .i64) _ _ _ 0 [.int .i64 0] from rfl) (Reps.one (show Kd.M (Kd.int .i64) _ _ _ 4 [.int .i64 4] from rfl) (Reps.one (show Kd.M (Kd.int .i64) _ _ _ 0 [.int .i64 0] from rfl) (Reps.one (show Kd.M (Kd.int .i64) _ _ _ 10 [.int .i64 10] from rfl) (Reps.one (show Kd.M (Kd.int .i64) _ _ _ 0 [.int .i64 0] from rfl) (Reps.one (show Kd.M (Kd.int .i64) _ _ _ 4 [.int .i64 4] from rfl) (Reps.none _ _)))))))); intro v129 w30 ho31 hb hg_ hnew_; clear hg_ hnew_; (first | rw [← Ny128.out] at ho31 | (simp only [Int.reduceToNat] at ho31; rw [← Ny128.out] at ho31)); have n0_ := Aside0.mk (Kd.R_below (by (with_reducible repeat (first | apply Kd.R_alloc | apply Kd.R_drewN | apply Kd.R_drew)); exact HO104.out) hb); have n1_ := Aside0.mk (Kd.R_elder' (by (with_reducible repeat (first | apply Kd.R_alloc | apply Kd.R_drewN | apply Kd.R_drew)); exact HO109.out) (Kd.R_base ho31) hb); have n2_ := Aside0.mk (Kd.R_elder' (by (with_reducible repeat (first | apply Kd.R_alloc | apply Kd.R_drewN | apply Kd.R_drew)); exact HO112.out) (Kd.R_base ho31) hb); have n3_ := Aside0.mk (Kd.R_below (by (with_reducible repeat (first | apply Kd.R_alloc | apply Kd.R_drewN | apply Kd.R_drew)); exact HO116.out) hb); have n4_ := Aside0.mk (Kd.R_elder' (by (with_reducible repeat (first | apply Kd.R_alloc | apply Kd.R_drewN | apply Kd.R_drew)); exact HO119.out) (Kd.R_base ho31) hb); have n5_ := Aside0.mk (Kd.R_below (by (with_reducible repeat (first | apply Kd.R_alloc | apply Kd.R_drewN | apply Kd.R_drew)); exact HO123.out) hb); have n6_ := Aside0.mk (Kd.R_below (by (with_reducible repeat (first | apply Kd.R_alloc | apply Kd.R_drewN | apply Kd.R_drew)); exact HO127.out) hb); have n7_ := Aside0.mk (Kd.R_lower (Kd.R_new' (Kd.R_new' (Kd.R_new' ho31 (Kd.R_lt (by (with_reducible repeat (first | apply Kd.R_alloc | apply Kd.R_drewN | apply Kd.R_drew)); exact HO109.out))) (Kd.R_lt (by (with_reducible repeat (first | apply Kd.R_alloc | apply Kd.R_drewN | apply Kd.R_drew)); exact HO112.out))) (Kd.R_lt (by (with_reducible repeat (first | apply Kd.R_alloc | apply Kd.R_drewN | apply Kd.R_drew)); exact HO119.out))) (below_size (by repeat (first | (with_reducible first | exact HB.out | apply below_alloc | apply pw_below_drewN | apply below_drew1 | refine below_set ?_ GE101.out) | exact HB.out)))); have n8_ := Aside0.mk (blk_below (g := gb101) (o := .cells #[.int .i64 1, .string (⟨#[97]⟩ : ByteArray), .string (⟨#[98]⟩ : ByteArray), .int .i64 0, .int .i64 0] 41 (0, 0)) (by (with_reducible repeat (first | refine blk_drewN ?_ _ | refine blk_drew ?_ | refine blk_alloc ?_ _)); exact BK101.out) hb); have n9_ := Aside0.mk (below_step (by repeat (first | (with_reducible first | exact HB.out | apply below_alloc | apply pw_below_drewN | apply below_drew1 | refine below_set ?_ GE101.out) | exact HB.out)) hb); clear HO104; clear HO109; clear HO112; clear HO116; clear HO119; clear HO123; clear HO127; clear BK101; clear HB; have HO104 := n0_; have HO109 := n1_; have HO112 := n2_; have HO116 := n3_; have HO119 := n4_; have HO123 := n5_; have HO127 := n6_; have HO130 := n7_; have BK101 := n8_; have HB := n9_; clear n0_ n1_ n2_ n3_ n4_ n5_ n6_ n7_ n8_ n9_; clear hb ho31; obtain ⟨Ao32, co32, eo32⟩ := Kd.R_slice HO109.out; subst eo32; obtain ⟨Ao33, co33, eo33⟩ := Kd.R_slice HO130.out; subst eo33) | (go_at_call 18; (with_reducible refine (postriderref02_Ints.calls k _ _ t106 _ _ y128 true _ ?side1 ?side2 ?side3 ?side4 A6.out).mono ?_); (case side1 => repeat (first | exact (Kd.R_reads' HO109.out).2.2 | (with_reducible refine Kd.C_alloc ?_ _) | (with_reducible refine Kd.C_drewN ?_ _) | (with_reducible refine Kd.C_drew ?_))); (case side2 => exact (Kd.R_reads' HO109.out).2.1); (case side3 => repeat (first | exact (Kd.R_reads' HO130.out).2.2 | (with_reducible refine Kd.C_alloc ?_ _) | (with_reducible refine Kd.C_drewN ?_ _) | (with_reducible refine Kd.C_drew ?_))); (case side4 => exact (Kd.R_reads' HO130.out).2.1); rintro e w' ⟨rfl, ⟨nd, rfl⟩⟩) | ((with_reducible refine gate_dst (N := 51) rfl ?_); (try (refine gate_guard (by rfl) ?_; dsimp only)); refine Kd.R_lit k41 _ 41 ?hg (N := 51) ?hd (xs := ([(⟨2, (⟨#[]⟩ : ByteArray), (⟨#[]⟩ : ByteArray), 4, 7⟩ : S41), (⟨0, (⟨#[]⟩ : ByteArray), (⟨#[]⟩ : ByteArray), 0, 0⟩ : S41)] : List (S41))) (inner := [.int .i64 2, .string (⟨#[]⟩ : ByteArray), .string (⟨#[]⟩ : ByteArray), .int .i64 4, .int .i64 7, .int .i64 0, .string (⟨#[]⟩ : ByteArray), .string (⟨#[]⟩ : ByteArray), .int .i64 0, .int .i64 0]) (ok := fun _ => True) (okp := fun _ => True) ?hr ?hp (fun _ hk => hk) trivial (Below.refl _ _) (Nat.le_refl _) (by simp) ?_; (case hd => rfl); (case hg => rfl); (case hr => first | (go_simp; done) | (go_simp; rfl) | (go_simp; simp only [isEmpty_ne, isEmpty_eq]; done) | (go_simp; simp only [isEmpty_ne, isEmpty_eq]; rfl)); (case hp => exact (Reps.c5 (show Kd.M k41 _ _ _ (⟨2, (⟨#[]⟩ : ByteArray), (⟨#[]⟩ : ByteArray), 4, 7⟩ : S41) [.int .i64 2, .string (⟨#[]⟩ : ByteArray), .string (⟨#[]⟩ : ByteArray), .int .i64 4, .int .i64 7] from (k41_mkM _ _ _ (⟨2, (⟨#[]⟩ : ByteArray), (⟨#[]⟩ : ByteArray), 4, 7⟩ : S41) )) (Reps.c5 (show Kd.M k41 _ _ _ (⟨0, (⟨#[]⟩ : ByteArray), (⟨#[]⟩ : ByteArray), 0, 0⟩ : S41) [.int .i64 0, .string (⟨#[]⟩ : ByteArray), .string (⟨#[]⟩ : ByteArray), .int .i64 0, .int .i64 0] from (k41_mkM _ _ _ (⟨0, (⟨#[]⟩ : ByteArray), (⟨#[]⟩ : ByteArray), 0, 0⟩ : S41) )) (Reps.none _ _)))); intro v133 w34 ho35 hb hg_ hnew_; clear hg_ hnew_; (first | rw [← Ny132.out] at ho35 | (simp only [Int.reduceToNat] at ho35; rw [← Ny132.out] at ho35)); have n0_ := Aside0.mk (Kd.R_elder' (by (with_reducible repeat (first | apply Kd.R_alloc | apply Kd.R_drewN | apply Kd.R_drew)); exact HO104.out) (Kd.R_base ho35) hb); have n1_ := Aside0.mk (Kd.R_below (by (with_reducible repeat (first | apply Kd.R_alloc | apply Kd.R_drewN | apply Kd.R_drew)); exact HO109.out) hb); have n2_ := Aside0.mk (Kd.R_below (by (with_reducible repeat (first | apply Kd.R_alloc | apply Kd.R_drewN | apply Kd.R_drew)); exact HO112.out) hb); have n3_ := Aside0.mk (Kd.R_elder' (by (with_reducible repeat (first | apply Kd.R_alloc | apply Kd.R_drewN | apply Kd.R_drew)); exact HO116.out) (Kd.R_base ho35) hb); have n4_ := Aside0.mk (Kd.R_below (by (with_reducible repeat (first | apply Kd.R_alloc | apply Kd.R_drewN | apply Kd.R_drew)); exact HO119.out) hb); have n5_ := Aside0.mk (Kd.R_elder' (by (with_reducible repeat (first | apply Kd.R_alloc | apply Kd.R_drewN | apply Kd.R_drew)); exact HO123.out) (Kd.R_base ho35) hb); have n6_ := Aside0.mk (Kd.R_below (by (with_reducible repeat (first | apply Kd.R_alloc | apply Kd.R_drewN | apply Kd.R_drew)); exact HO127.out) hb); have n7_ := Aside0.mk (Kd.R_below (by (with_reducible repeat (first | apply Kd.R_alloc | apply Kd.R_drewN | apply Kd.R_drew)); exact HO130.out) hb); have n8_ := Aside0.mk (Kd.R_lower (Kd.R_newB (Kd.R_new' (Kd.R_new' (Kd.R_new' ho35 (Kd.R_lt (by (with_reducible repeat (first | apply Kd.R_alloc | apply Kd.R_drewN | apply Kd.R_drew)); exact HO104.out))) (Kd.R_lt (by (with_reducible repeat (first | apply Kd.R_alloc | apply Kd.R_drewN | apply Kd.R_drew)); exact HO116.out))) (Kd.R_lt (by (with_reducible repeat (first | apply Kd.R_alloc | apply Kd.R_drewN | apply Kd.R_drew)); exact HO123.out))) (g := gb101) (o := .cells #[.int .i64 1, .string (⟨#[97]⟩ : ByteArray), .string (⟨#[98]⟩ : ByteArray), .int .i64 0, .int .i64 0] 41 (0, 0)) (by (with_reducible repeat (first | refine blk_drewN ?_ _ | refine blk_drew ?_ | refine blk_alloc ?_ _)); exact BK101.out)) (below_size (by repeat (first | (with_reducible first | exact HB.out | apply below_alloc | apply pw_below_drewN | apply below_drew1 | refine below_set ?_ GE101.out) | exact HB.out)))); have n9_ := Aside0.mk (blk_below (g := gb101) (o := .cells #[.int .i64 1, .string (⟨#[97]⟩ : ByteArray), .string (⟨#[98]⟩ : ByteArray), .int .i64 0, .int .i64 0] 41 (0, 0)) (by (with_reducible repeat (first | refine blk_drewN ?_ _ | refine blk_drew ?_ | refine blk_alloc ?_ _)); exact BK101.out) hb); have n10_ := Aside0.mk (below_step (by repeat (first | (with_reducible first | exact HB.out | apply below_alloc | apply pw_below_drewN | apply below_drew1 | refine below_set ?_ GE101.out) | exact HB.out)) hb); clear HO104; clear HO109; clear HO112; clear HO116; clear HO119; clear HO123; clear HO127; clear HO130; clear BK101; clear HB; have HO104 := n0_; have HO109 := n1_; have HO112 := n2_; have HO116 := n3_; have HO119 := n4_; have HO123 := n5_; have HO127 := n6_; have HO130 := n7_; have HO134 := n8_; have BK101 := n9_; have HB := n10_; clear n0_ n1_ n2_ n3_ n4_ n5_ n6_ n7_ n8_ n9_ n10_; clear hb ho35; obtain ⟨Ao36, co36, eo36⟩ := Kd.R_slice HO116.out; subst eo36; obtain ⟨Ao37, co37, eo37⟩ := Kd.R_slice HO134.out; subst eo37) | (go_at_call 19; (with_reducible refine (postriderref06_Same.calls k _ _ t113 _ _ y132 true _ ?side1 ?side2 ?side3 ?side4 A9.out).mono ?_); (case side1 => repeat (first | exact (Kd.R_reads' HO116.out).2.2 | (with_reducible refine Kd.C_alloc ?_ _) | (with_reducible refine Kd.C_drewN ?_ _) | (with_reducible refine Kd.C_drew ?_))); (case side2 => exact (Kd.R_reads' HO116.out).2.1); (case side3 => repeat (first | exact (Kd.R_reads' HO134.out).2.2 | (with_reducible refine Kd.C_alloc ?_ _) | (with_reducible refine Kd.C_drewN ?_ _) | (with_reducible refine Kd.C_drew ?_))); (case side4 => exact (Kd.R_reads' HO134.out).2.1); rintro e w' ⟨rfl, ⟨nd, rfl⟩⟩) | ((with_reducible refine gate_dst (N := 64) rfl ?_); (try (refine gate_guard (by rfl) ?_; dsimp only)); refine Kd.R_lit Kd.string _ 9 ?hg (N := 64) ?hd (xs := ([(⟨#[100, 116, 110]⟩ : ByteArray), (⟨#[47, 47, 97, 47, 98]⟩ : ByteArray), (⟨#[110, 111, 110, 101]⟩ : ByteArray)] : List ByteArray)) (inner := [.string (⟨#[100, 116, 110]⟩ : ByteArray), .string (⟨#[47, 47, 97, 47, 98]⟩ : ByteArray), .string (⟨#[110, 111, 110, 101]⟩ : ByteArray)]) (ok := fun _ => True) (okp := fun _ => True) ?hr ?hp (fun _ hk => hk) trivial (Below.refl _ _) (Nat.le_refl _) (by simp) ?_; (case hd => rfl); (case hg => rfl); (case hr => first | (go_simp; done) | (go_simp; rfl) | (go_simp; simp only [isEmpty_ne, isEmpty_eq]; done) | (go_simp; simp only [isEmpty_ne, isEmpty_eq]; rfl)); (case hp => exact (Reps.one (show Kd.M Kd.string _ _ _ (⟨#[100, 116, 110]⟩ : ByteArray) [.string (⟨#[100, 116, 110]⟩ : ByteArray)] from rfl) (Reps.one (show Kd.M Kd.string _ _ _ (⟨#[47, 47, 97, 47, 98]⟩ : ByteArray) [.string (⟨#[47, 47, 97, 47, 98]⟩ : ByteArray)] from rfl) (Reps.one (show Kd.M Kd.string _ _ _ (⟨#[110, 111, 110, 101]⟩ : ByteArray) [.string (⟨#[110, 111, 110, 101]⟩ : ByteArray)] from rfl) (Reps.none _ _))))); intro v137 w38 ho39 hb hg_ hnew_; clear hg_ hnew_; (first | rw [← Ny136.out] at ho39 | (simp only [Int.reduceToNat] at ho39; rw [← Ny136.out] at ho39)); have n0_ := Aside0.mk (Kd.R_below (by (with_reducible repeat (first | apply Kd.R_alloc | apply Kd.R_drewN | apply Kd.R_drew)); exact HO104.out) hb); have n1_ := Aside0.mk (Kd.R_below (by (with_reducible repeat (first | apply Kd.R_alloc | apply Kd.R_drewN | apply Kd.R_drew)); exact HO109.out) hb); have n2_ := Aside0.mk (Kd.R_below (by (with_reducible repeat (first | apply Kd.R_alloc | apply Kd.R_drewN | apply Kd.R_drew)); exact HO112.out) hb); have n3_ := Aside0.mk (Kd.R_below (by (with_reducible repeat (first | apply Kd.R_alloc | apply Kd.R_drewN | apply Kd.R_drew)); exact HO116.out) hb); have n4_ := Aside0.mk (Kd.R_below (by (with_reducible repeat (first | apply Kd.R_alloc | apply Kd.R_drewN | apply Kd.R_drew)); exact HO119.out) hb); have n5_ := Aside0.mk (Kd.R_below (by (with_reducible repeat (first | apply Kd.R_alloc | apply Kd.R_drewN | apply Kd.R_drew)); exact HO123.out) hb); have n6_ := Aside0.mk (Kd.R_elder' (by (with_reducible repeat (first | apply Kd.R_alloc | apply Kd.R_drewN | apply Kd.R_drew)); exact HO127.out) (Kd.R_base ho39) hb); have n7_ := Aside0.mk (Kd.R_below (by (with_reducible repeat (first | apply Kd.R_alloc | apply Kd.R_drewN | apply Kd.R_drew)); exact HO130.out) hb); have n8_ := Aside0.mk (Kd.R_below (by (with_reducible repeat (first | apply Kd.R_alloc | apply Kd.R_drewN | apply Kd.R_drew)); exact HO134.out) hb); have n9_ := Aside0.mk (Kd.R_lower (Kd.R_new' ho39 (Kd.R_lt (by (with_reducible repeat (first | apply Kd.R_alloc | apply Kd.R_drewN | apply Kd.R_drew)); exact HO127.out))) (below_size (by repeat (first | (with_reducible first | exact HB.out | apply below_alloc | apply pw_below_drewN | apply below_drew1 | refine below_set ?_ GE101.out) | exact HB.out)))); have n10_ := Aside0.mk (blk_below (g := gb101) (o := .cells #[.int .i64 1, .string (⟨#[97]⟩ : ByteArray), .string (⟨#[98]⟩ : ByteArray), .int .i64 0, .int .i64 0] 41 (0, 0)) (by (with_reducible repeat (first | refine blk_drewN ?_ _ | refine blk_drew ?_ | refine blk_alloc ?_ _)); exact BK101.out) hb); have n11_ := Aside0.mk (below_step (by repeat (first | (with_reducible first | exact HB.out | apply below_alloc | apply pw_below_drewN | apply below_drew1 | refine below_set ?_ GE101.out) | exact HB.out)) hb); clear HO104; clear HO109; clear HO112; clear HO116; clear HO119; clear HO123; clear HO127; clear HO130; clear HO134; clear BK101; clear HB; have HO104 := n0_; have HO109 := n1_; have HO112 := n2_; have HO116 := n3_; have HO119 := n4_; have HO123 := n5_; have HO127 := n6_; have HO130 := n7_; have HO134 := n8_; have HO138 := n9_; have BK101 := n10_; have HB := n11_; clear n0_ n1_ n2_ n3_ n4_ n5_ n6_ n7_ n8_ n9_ n10_ n11_; clear hb ho39; obtain ⟨Ao40, co40, eo40⟩ := Kd.R_slice HO127.out; subst eo40; obtain ⟨Ao41, co41, eo41⟩ := Kd.R_slice HO138.out; subst eo41) | (go_at_call 20; (with_reducible refine (postriderref07_SameTexts.calls k _ _ t124 _ _ y136 true _ ?side1 ?side2 ?side3 ?side4 A13.out).mono ?_); (case side1 => repeat (first | exact (Kd.R_reads' HO127.out).2.2 | (with_reducible refine Kd.C_alloc ?_ _) | (with_reducible refine Kd.C_drewN ?_ _) | (with_reducible refine Kd.C_drew ?_))); (case side2 => exact (Kd.R_reads' HO127.out).2.1); (case side3 => repeat (first | exact (Kd.R_reads' HO138.out).2.2 | (with_reducible refine Kd.C_alloc ?_ _) | (with_reducible refine Kd.C_drewN ?_ _) | (with_reducible refine Kd.C_drew ?_))); (case side4 => exact (Kd.R_reads' HO138.out).2.1); rintro e w' ⟨rfl, ⟨nd, rfl⟩⟩))
                all_goals (first | (go_ret; exact ⟨by first | rfl | (simp [errW_none, errW_some] <;> rfl) | (simp [*, errW_none, errW_some] <;> rfl) | (simp_all; done), by repeat (first | (with_reducible first | exact HB.out | apply below_alloc | apply pw_below_drewN | apply below_drew1 | refine below_set ?_ GE101.out) | exact HB.out)⟩) | (exfalso; simp_all; done))
              · replace c14 := Bool.eq_false_iff.mpr c14
                subst c14
                have H1 : (none) = some r := by rw [if_neg (show ¬ (false = true) by decide)] at H; exact H
                clear H
                have H := H1
                clear H1
                exact absurd H (by simp)
            · rw [if_neg c12] at H
              exact absurd H (by simp)
          · rw [if_neg c11] at H
            exact absurd H (by simp)
        · replace c10 := Bool.eq_false_iff.mpr c10
          subst c10
          have H1 : (none) = some r := by rw [if_neg (show ¬ (false = true) by decide)] at H; exact H
          clear H
          have H := H1
          clear H1
          exact absurd H (by simp)
      · rw [if_neg c8] at H
        exact absurd H (by simp)
    · replace c7 := Bool.eq_false_iff.mpr c7
      subst c7
      have H1 : (none) = some r := by rw [if_neg (show ¬ (false = true) by decide)] at H; exact H
      clear H
      have H := H1
      clear H1
      exact absurd H (by simp)
  · rw [if_neg c5] at H
    exact absurd H (by simp)
end Go.Proofs.YtbjbicaffblchaaGreatDoor.SS
end
section
namespace Go.Proofs.YtbjbicaffblchaaGreatDoor.Hand
open Go.RowKit Go.Proofs.YtbjbicaffblchaaGreatDoorW Go.Proofs.YtbjbicaffblchaaGreatDoorW.PrintWords Go.Proofs.YtbjbicaffblchaaGreatDoor.SK Go.Proofs.YtbjbicaffblchaaGreatDoor.SS
theorem Build_is {l : List Nm} (h : ∀ z ∈ l, z.f1.size ≤ 21 ∧ z.f2.size ≤ 21) : dict_Build.f l = some (buildT l) := by
  unfold dict_Build.f
  rw [if_pos]
  unfold okB
  rw [List.all_eq_true]
  intro x hx
  have h1 : x.f1.size ≤ maxLen := Nat.le_trans (h x hx).1 (by decide)
  have h2 : x.f2.size ≤ maxLen := Nat.le_trans (h x hx).2 (by decide)
  simp [h1, h2]
theorem Read_is (s : ByteArray) (p : List Int) (h : s.size ≤ 1000000) : dict_Read.f s p = some (readT s p) := by
  unfold dict_Read.f
  rw [if_pos (by omega)]
theorem Texts_is (s : ByteArray) (h : s.size ≤ 1000000) : dict_Texts.f s = some (textsT s) := by
  unfold dict_Texts.f
  rw [if_pos (by omega)]
abbrev exA : Nm := ⟨1, ⟨#[97]⟩, ⟨#[98]⟩, 0, 0⟩
abbrev exS : ByteArray := ⟨#[100, 116, 110, 0, 47, 47, 97, 47, 98, 0, 110, 111, 110, 101, 0]⟩
theorem ex_build : buildT [exA, zeroNm, exA] = (exS, [0, 4, 0, 10, 0, 4], 0) := by decide +kernel
theorem ex_texts : textsT exS = ([⟨#[100, 116, 110]⟩, ⟨#[47, 47, 97, 47, 98]⟩, ⟨#[110, 111, 110, 101]⟩], 0) := by decide +kernel
theorem ex_read : readT ⟨#[]⟩ [4, 7, 0, 0] = ([⟨2, ⟨#[]⟩, ⟨#[]⟩, 4, 7⟩, zeroNm], 0) := by decide +kernel
theorem ex_read2 : readT ⟨#[]⟩ [0, 7] = ([], 70) := by decide +kernel
theorem shown_true (k : Nat) (hk : 100 < k) : postriderlaw07_shown.f k = some true := by
  unfold postriderlaw07_shown.f
  have hb : dict_Build.f [exA, zeroNm, exA] = some (buildT [exA, zeroNm, exA]) := Build_is (by decide)
  rw [ex_build] at hb
  have h1 := (Read_is ⟨#[]⟩ [4, 7, 0, 0] (by decide)).trans (congrArg some ex_read)
  have h2 := (Read_is ⟨#[]⟩ [0, 7] (by decide)).trans (congrArg some ex_read2)
  have h3 := (Texts_is exS (by decide)).trans (congrArg some ex_texts)
  have e1 := ints_is [0, 4, 0, 10, 0, 4] [0, 4, 0, 10, 0, 4] k (by decide) (by simp; omega)
  have e2 := same_is [⟨2, ⟨#[]⟩, ⟨#[]⟩, 4, 7⟩, zeroNm] [⟨2, ⟨#[]⟩, ⟨#[]⟩, 4, 7⟩, zeroNm] k (by decide) (by simp; omega)
  have e3 := sameTexts_is [⟨#[100, 116, 110]⟩, ⟨#[47, 47, 97, 47, 98]⟩, ⟨#[110, 111, 110, 101]⟩] [⟨#[100, 116, 110]⟩, ⟨#[47, 47, 97, 47, 98]⟩, ⟨#[110, 111, 110, 101]⟩] k (by decide) (by simp; omega)
  rw [decide_eq_true rfl] at e1 e2 e3
  refine (congrArg (fun z => Option.bind z _) hb).trans ?_
  simp only [Option.bind_some]
  refine (congrArg (fun z => Option.bind z _) h1).trans ?_
  simp only [Option.bind_some]
  refine (congrArg (fun z => Option.bind z _) h2).trans ?_
  simp only [Option.bind_some]
  refine (congrArg (fun z => Option.bind z _) h3).trans ?_
  simp only [Option.bind_some]
  rw [if_pos (by rw [ByteArray.toList_eq])]
  refine (congrArg (fun z => Option.bind z _) e1).trans ?_
  simp only [Option.bind_some, if_true]
  refine (congrArg (fun z => Option.bind z _) e2).trans ?_
  simp only [Option.bind_some, if_true]
  refine (congrArg (fun z => Option.bind z _) e3).trans ?_
  simp only [Option.bind_some, if_true]
  rfl
end Go.Proofs.YtbjbicaffblchaaGreatDoor.Hand
end
section
namespace Go.Proofs.YtbjbicaffblchaaGreatDoor.Hand
open Go.RowKit
theorem index_none (c : UInt8) : ∀ p : List UInt8, c ∉ p → Lib.index p [c] = -1
  | [], _ => by simp [Lib.index]
  | b :: p, h => by
    have hb : c ≠ b := fun e => h (e ▸ List.mem_cons_self ..)
    have ih := index_none c p (fun e => h (List.mem_cons_of_mem _ e))
    simp only [Lib.index]
    rw [ih]
    simp [hb, List.isPrefixOf]
theorem split_first (c : UInt8) : ∀ r : List UInt8, c ∈ r → ∃ p q, r = p ++ c :: q ∧ c ∉ p
  | [], h => by cases h
  | b :: r, h => by
    by_cases e : b = c
    · subst e
      exact ⟨[], r, rfl, by simp⟩
    · obtain ⟨p, q, h1, h2⟩ := split_first c r (by rcases List.mem_cons.1 h with h | h; exact absurd h.symm e; exact h)
      refine ⟨b :: p, q, by rw [h1]; rfl, fun h3 => ?_⟩
      rcases List.mem_cons.1 h3 with h3 | h3
      · exact e h3.symm
      · exact h2 h3
theorem cutp_split (r : List UInt8) : (∃ p q, r = p ++ 0 :: q ∧ 0 ∉ p ∧ cutp r = p) ∨ (0 ∉ r ∧ cutp r = r) := by
  by_cases h : (0 : UInt8) ∈ r
  · obtain ⟨p, q, h1, h2⟩ := split_first 0 r h
    refine .inl ⟨p, q, h1, h2, ?_⟩
    unfold cutp
    rw [h1, cut_one 0 p q h2]
  · refine .inr ⟨h, ?_⟩
    unfold cutp Lib.cut
    rw [index_none 0 r h, if_neg (by decide)]
end Go.Proofs.YtbjbicaffblchaaGreatDoor.Hand
end
section
namespace Go.Proofs.YtbjbicaffblchaaGreatDoor.Hand
open Go.RowKit Go.Proofs.YtbjbicaffblchaaGreatDoorW Go.Proofs.YtbjbicaffblchaaGreatDoorW.PrintWords Go.Proofs.YtbjbicaffblchaaGreatDoor.SK
abbrev Nm.w (x : Nm) : List UInt8 := x.word.data.toList
abbrev Nm.r (x : Nm) : List UInt8 := x.rest.data.toList
theorem addL_keep {L : List (List UInt8)} {P : List UInt8 → Prop} (h : ∀ t ∈ L, P t) {t : List UInt8} (ht : P t) : ∀ u ∈ addL L t, P u := by
  unfold addL
  split
  · exact h
  · intro u hu
    rcases List.mem_append.1 hu with hu | hu
    · exact h u hu
    · rw [List.mem_singleton.1 hu]; exact ht
theorem built_false (l : List Nm) : ∀ (L0 : List (List UInt8)) (p0 : List Int), l.foldl (buildF false) (L0, p0) = (L0, p0 ++ l.flatMap fun x => [x.f3, x.f4]) := by
  induction l with
  | nil => intro L0 p0; simp
  | cons x r ih =>
    intro L0 p0
    simp only [List.foldl_cons, List.flatMap_cons]
    rw [show buildF false (L0, p0) x = (L0, p0 ++ [x.f3, x.f4]) from rfl, ih]
    simp
theorem built_true (l : List Nm) : ∀ (L0 : List (List UInt8)) (p0 : List Int), ∃ M, l.foldl (buildF true) (L0, p0) = (L0 ++ M, p0 ++ l.flatMap fun x => [((placeL (L0 ++ M) x.w : Nat) : Int), ((placeL (L0 ++ M) x.r : Nat) : Int)]) ∧ ∀ x ∈ l, x.w ∈ L0 ++ M ∧ x.r ∈ L0 ++ M := by
  induction l with
  | nil => intro L0 p0; exact ⟨[], by simp, fun x hx => by cases hx⟩
  | cons x r ih =>
    intro L0 p0
    have e : buildF true (L0, p0) x = (addL (addL L0 x.w) x.r, p0 ++ [((placeL (addL L0 x.w) x.w : Nat) : Int)] ++ [((placeL (addL (addL L0 x.w) x.r) x.r : Nat) : Int)]) := rfl
    obtain ⟨M1, h1⟩ := addL_pre L0 x.w
    obtain ⟨M2, h2⟩ := addL_pre (addL L0 x.w) x.r
    obtain ⟨M, h3, h4⟩ := ih (addL (addL L0 x.w) x.r) (p0 ++ [((placeL (addL L0 x.w) x.w : Nat) : Int)] ++ [((placeL (addL (addL L0 x.w) x.r) x.r : Nat) : Int)])
    have hw := addL_mem L0 x.w
    have hr := addL_mem (addL L0 x.w) x.r
    have hL : addL (addL L0 x.w) x.r ++ M = L0 ++ (M1 ++ M2 ++ M) := by rw [h2, h1]; simp
    have pw : placeL (addL L0 x.w) x.w = placeL (addL (addL L0 x.w) x.r ++ M) x.w := by rw [h2, List.append_assoc, placeL_app _ hw]
    have pr : placeL (addL (addL L0 x.w) x.r) x.r = placeL (addL (addL L0 x.w) x.r ++ M) x.r := by rw [placeL_app _ hr]
    refine ⟨M1 ++ M2 ++ M, ?_, fun y hy => ?_⟩
    · rw [List.foldl_cons, e, h3, pw, pr, ← hL]
      simp
    · rw [← hL]
      rcases List.mem_cons.1 hy with rfl | hy
      · exact ⟨List.mem_append_left _ (by rw [h2]; exact List.mem_append_left _ hw), List.mem_append_left _ hr⟩
      · exact h4 y hy
theorem built_all {P : List UInt8 → Prop} (dtn : Bool) (l : List Nm) (hl : ∀ x ∈ l, P x.w ∧ P x.r) : ∀ (st : List (List UInt8) × List Int), (∀ t ∈ st.1, P t) → ∀ t ∈ (l.foldl (buildF dtn) st).1, P t := by
  induction l with
  | nil => intro st h; exact h
  | cons x r ih =>
    intro st h
    have hx := hl x List.mem_cons_self
    refine ih (fun y hy => hl y (List.mem_cons_of_mem _ hy)) _ ?_
    cases dtn with
    | false => exact h
    | true => exact addL_keep (addL_keep h hx.1) hx.2
theorem word_zero (n : Int) : (0 : UInt8) ∉ (wordS n).data.toList := by unfold wordS; split <;> decide
theorem rest_zero {x : Nm} (h : x.right = true) : (0 : UInt8) ∉ x.r := by
  show (0 : UInt8) ∉ x.rest.data.toList
  rw [Nm.rest_is h]
  have h' : rightS x.f0 x.f1 x.f2 x.f3 x.f4 = true := h
  rcases right_num h' with e | e | e
  · rw [e]
    show (0 : UInt8) ∉ wNone.data.toList
    decide
  · rw [e] at h' ⊢
    obtain ⟨_, hp, hq, _⟩ := right_dtn h'
    show (0 : UInt8) ∉ (restDtn x.f1 x.f2).data.toList
    rw [restDtn_data]
    have h1 := part_no hp (show okByte ⟨#[45, 46]⟩ 0 = false by decide)
    have h2 := part_no hq (show okByte ⟨#[45, 46, 47]⟩ 0 = false by decide)
    simp only [List.mem_append, List.mem_cons, List.not_mem_nil, or_false, not_or]
    exact ⟨by decide, h1, by decide, h2⟩
  · rw [e] at h' ⊢
    obtain ⟨_, _, h3, _, h4, _⟩ := right_ipn h'
    show (0 : UInt8) ∉ (restIpn x.f3 x.f4).data.toList
    rw [restIpn_data, itoa_dig x.f3 (by omega), itoa_dig x.f4 h4]
    simp only [List.mem_append, List.mem_cons, not_or]
    exact ⟨fun q => by have := (dig_ok _ _ q).1; exact absurd this (by decide), by decide, fun q => by have := (dig_ok _ _ q).1; exact absurd this (by decide)⟩
theorem cutp_one {t : List UInt8} (q : List UInt8) (h : (0 : UInt8) ∉ t) : cutp (t ++ 0 :: q) = t := by
  unfold cutp
  rw [cut_one 0 t q h]
theorem items_step (k a : Nat) {t : List UInt8} (L : List (List UInt8)) (h : (0 : UInt8) ∉ t) : itemsF (k + 1) a (flatT (t :: L)) = ((a : Int), txt t) :: itemsF k (a + t.length + 1) (flatT L) := by
  rw [itemsF, flatT_cons, cutp_one _ h, if_neg (by simp)]
  congr 2
  rw [List.drop_append]
  simp
theorem flat_len (L : List (List UInt8)) : L.length ≤ (flatT L).length := by
  induction L with
  | nil => simp
  | cons t L ih => rw [flatT_cons]; simp; omega
theorem half_none : ∀ (k a : Nat) (r : List UInt8) (b : Int) (h : ByteArray), b < a → (itemsF k a r).foldl (fun h x => if x.1 = b then x.2 else h) h = h := by
  intro k
  induction k with
  | zero => intro a r b h _; rfl
  | succ k ih =>
    intro a r b h hb
    rw [itemsF]
    split
    · rfl
    · rw [List.foldl_cons, if_neg (by show ¬ (a : Int) = b; omega), ih _ _ _ _ (by omega)]
theorem half_flat : ∀ (L : List (List UInt8)) (k a : Nat) (t : List UInt8) (h : ByteArray), L.length < k → (∀ t ∈ L, (0 : UInt8) ∉ t) → t ∈ L →
    (itemsF k a (flatT L)).foldl (fun h x => if x.1 = ((a + placeL L t : Nat) : Int) then x.2 else h) h = txt t
  | [], _, _, _, _, _, _, ht => by cases ht
  | x :: L, k, a, t, h, hk, hz, ht => by
    obtain ⟨k, rfl⟩ : ∃ m, k = m + 1 := ⟨k - 1, by simp at hk; omega⟩
    rw [items_step k a L (hz x List.mem_cons_self), List.foldl_cons]
    by_cases e : x = t
    · subst e
      rw [show placeL (x :: L) x = 0 by simp [placeL]]
      rw [if_pos (by simp), half_none _ _ _ _ _ (by omega)]
    · rw [show placeL (x :: L) t = x.length + 1 + placeL L t by simp [placeL, e]]
      rw [if_neg (by show ¬ (a : Int) = _; omega)]
      have := half_flat L k (a + x.length + 1) t h (by simp at hk; omega) (fun u hu => hz u (List.mem_cons_of_mem _ hu)) (by rcases List.mem_cons.1 ht with ht | ht; exact absurd ht.symm e; exact ht)
      rw [show a + x.length + 1 + placeL L t = a + (x.length + 1 + placeL L t) by omega] at this
      exact this
theorem half_of (L : List (List UInt8)) (t : List UInt8) (hz : ∀ t ∈ L, (0 : UInt8) ∉ t) (ht : t ∈ L) : halfOf (items (flatT L)) ((placeL L t : Nat) : Int) = txt t := by
  have := half_flat L ((flatT L).length + 1) 0 t ⟨#[]⟩ (by have := flat_len L; omega) hz ht
  rw [Nat.zero_add] at this
  exact this
theorem place_split : ∀ (L : List (List UInt8)) (t : List UInt8), t ∈ L → ∃ p q, flatT L = p ++ (t ++ 0 :: q) ∧ p.length = placeL L t ∧ (p = [] ∨ p.getLast? = some 0)
  | [], _, h => by cases h
  | x :: L, t, h => by
    by_cases e : x = t
    · subst e
      exact ⟨[], flatT L, by rw [flatT_cons]; rfl, by simp [placeL], .inl rfl⟩
    · obtain ⟨p, q, h1, h2, h3⟩ := place_split L t (by rcases List.mem_cons.1 h with h | h; exact absurd h.symm e; exact h)
      refine ⟨x ++ 0 :: p, q, by rw [flatT_cons, h1]; simp, by simp [placeL, e, h2]; omega, .inr ?_⟩
      rcases h3 with rfl | h3
      · simp
      · rw [List.getLast?_append, List.getLast?_cons, h3]; rfl
structure Built (l : List Nm) (s : ByteArray) (p : List Int) : Prop where
  many : l.length ≤ 30
  right : ∀ x ∈ l, x.right = true
  text : s = txt (flatT (builtS l).1)
  pairs : p = (builtS l).2
theorem built_of {l : List Nm} {s : ByteArray} {p : List Int} {e : Int} (h : buildT l = (s, p, e)) : (e = 0 ∧ Built l s p) ∨ (e ≠ 0 ∧ s = ⟨#[]⟩ ∧ p = []) := by
  unfold buildT at h
  by_cases h30 : 30 < l.length
  · rw [if_pos h30] at h
    simp only [Prod.mk.injEq] at h
    obtain ⟨rfl, rfl, rfl⟩ := h
    exact .inr ⟨by decide, rfl, rfl⟩
  · rw [if_neg h30] at h
    by_cases hr : l.any (fun x => !x.right) = true
    · rw [if_pos hr] at h
      simp only [Prod.mk.injEq] at h
      obtain ⟨rfl, rfl, rfl⟩ := h
      exact .inr ⟨by decide, rfl, rfl⟩
    · rw [if_neg hr] at h
      simp only [Prod.mk.injEq] at h
      obtain ⟨rfl, rfl, rfl⟩ := h
      refine .inl ⟨rfl, by omega, fun x hx => ?_, rfl, rfl⟩
      have := (List.any_eq_false.1 (Bool.eq_false_iff.2 hr)) x hx
      simpa using this
theorem Built.is {l : List Nm} {s : ByteArray} {p : List Int} (h : Built l s p) : buildT l = (s, p, 0) := by
  unfold buildT
  rw [if_neg (by have := h.many; omega), if_neg ?_, h.text, h.pairs]
  intro hr
  obtain ⟨x, hx, hq⟩ := List.any_eq_true.1 hr
  rw [h.right x hx] at hq
  cases hq
theorem txt_list (l : List UInt8) : (txt l).data.toList = l := by simp [txt]
theorem Built.bytes {l : List Nm} {s : ByteArray} {p : List Int} (h : Built l s p) : s.data.toList = flatT (builtS l).1 := by rw [h.text, txt_list]
theorem Built.zero {l : List Nm} {s : ByteArray} {p : List Int} (h : Built l s p) : ∀ t ∈ (builtS l).1, (0 : UInt8) ∉ t :=
  built_all (P := fun t => (0 : UInt8) ∉ t) _ l (fun x hx => ⟨by show (0 : UInt8) ∉ x.word.data.toList; rw [Nm.word_is (h.right x hx)]; exact word_zero _, rest_zero (h.right x hx)⟩) ([], []) (fun t ht => by cases ht)
theorem Built.small {l : List Nm} {s : ByteArray} {p : List Int} (h : Built l s p) : s.size ≤ 100000 ∧ p.length = 2 * l.length := by
  obtain ⟨_, h2, h3⟩ := buildF_bounds (l.any Nm.dtn) l ([], []) h.right
  have h4 := h.many
  have h5 : s.data.toList.length = s.size := Array.length_toList ..
  rw [h.bytes] at h5
  have e1 : (flatT (builtS l).1).length ≤ (flatT []).length + 2002 * l.length := h2
  have e2 : (builtS l).2.length = ([] : List Int).length + 2 * l.length := h3
  rw [flatT_nil] at e1
  rw [h.pairs]
  simp only [List.length_nil] at e1 e2
  omega
theorem Built.plain {l : List Nm} {s : ByteArray} {p : List Int} (h : Built l s p) (hd : l.any Nm.dtn = false) : s = ⟨#[]⟩ ∧ p = l.flatMap fun x => [x.f3, x.f4] := by
  have e : builtS l = ([], l.flatMap fun x => [x.f3, x.f4]) := by
    unfold builtS
    rw [hd, built_false]
    rfl
  rw [h.text, h.pairs, e]
  exact ⟨rfl, rfl⟩
theorem Built.full {l : List Nm} {s : ByteArray} {p : List Int} (h : Built l s p) (hd : l.any Nm.dtn = true) :
    (p = l.flatMap fun x => [((placeL (builtS l).1 x.w : Nat) : Int), ((placeL (builtS l).1 x.r : Nat) : Int)]) ∧ (∀ x ∈ l, x.w ∈ (builtS l).1 ∧ x.r ∈ (builtS l).1) ∧ ¬ s.toList = [] := by
  obtain ⟨M, h1, h2⟩ := built_true l [] []
  have e : builtS l = ([] ++ M, [] ++ l.flatMap fun x => [((placeL ([] ++ M) x.w : Nat) : Int), ((placeL ([] ++ M) x.r : Nat) : Int)]) := by
    unfold builtS
    rw [hd, h1]
  rw [List.nil_append] at h2
  rw [List.nil_append, List.nil_append] at e
  have e1 : (builtS l).1 = M := by rw [e]
  rw [e1]
  refine ⟨by rw [h.pairs, e], h2, fun q => ?_⟩
  obtain ⟨x, hx, _⟩ := List.any_eq_true.1 hd
  rw [ByteArray.toList_eq, h.bytes, e1] at q
  have := placeL_le (h2 x hx).1
  rw [q] at this
  simp at this
end Go.Proofs.YtbjbicaffblchaaGreatDoor.Hand
end
section
namespace Go.Proofs.YtbjbicaffblchaaGreatDoor.SR
open Go.Proofs.YtbjbicaffblchaaGreatDoor.Hand
open Go.Proofs.YtbjbicaffblchaaGreatDoor.SA
open Go.Proofs.YtbjbicaffblchaaGreatDoor.SK
open Go.RowKit Go.Proofs.YtbjbicaffblchaaGreatDoorW.PrintWords Go.Proofs.YtbjbicaffblchaaGreatDoorW.PrintLast Go.Proofs.YtbjbicaffblchaaGreatDoorW.PrintMore
attribute [local go_sem] max2_int min2_int max_two min_two max_three min_three max_four min_four
set_option linter.unusedVariables false
set_option linter.unusedSimpArgs false
def errW : Option Int → Value
  | none => .nilIface
  | some c => .iface 0 (.int .i64 c)
theorem errW_none : errW none = .nilIface := rfl
theorem errW_some (c : Int) : errW (some c) = .iface 0 (.int .i64 c) := rfl
theorem info3 : (Tryz.prog.info? 3).map (fun i => (i.zero, i.size, i.bytes)) = some (some (.int .i64 0), 1, 8) := by kernel_rfl
theorem info9 : (Tryz.prog.info? 9).map (fun i => (i.zero, i.size, i.bytes)) = some (some (.string ⟨#[]⟩), 1, 16) := by kernel_rfl
theorem info41 : (Tryz.prog.info? 41).map (fun i => (i.zero, i.size, i.bytes)) = some (some (.agg #[(.int .i64 0), (.string ⟨#[]⟩), (.string ⟨#[]⟩), (.int .i64 0), (.int .i64 0)]), 5, 56) := by kernel_rfl
end Go.Proofs.YtbjbicaffblchaaGreatDoor.SR
end
section
namespace Go.Proofs.YtbjbicaffblchaaGreatDoor.SR
open Go.Proofs.YtbjbicaffblchaaGreatDoor.Hand
open Go.Proofs.YtbjbicaffblchaaGreatDoor.SA
open Go.Proofs.YtbjbicaffblchaaGreatDoor.SK
open Go.RowKit Go.Proofs.YtbjbicaffblchaaGreatDoorW.PrintWords Go.Proofs.YtbjbicaffblchaaGreatDoorW.PrintLast Go.Proofs.YtbjbicaffblchaaGreatDoorW.PrintMore
attribute [local go_sem] max2_int min2_int max_two min_two max_three min_three max_four min_four
set_option linter.unusedVariables false
set_option linter.unusedSimpArgs false
theorem eqA41 (d : Nat) (w : World) (x0 y0 : Int) (x1 y1 : ByteArray) (x2 y2 : ByteArray) (x3 y3 : Int) (x4 y4 : Int) :
    (Op.equalIn (d + 2) 41 (.agg #[.int .i64 x0, .string x1, .string x2, .int .i64 x3, .int .i64 x4]) (.agg #[.int .i64 y0, .string y1, .string y2, .int .i64 y3, .int .i64 y4])).run Tryz.prog w = .ok (x0 == y0 && (x1.toList == y1.toList && (x2.toList == y2.toList && (x3 == y3 && (x4 == y4))))) w := by
  refine eqA_of Tryz.underlying41 (by kernel_rfl) ?_
  refine eqf_cons (by rfl) (by go_simp; rfl) (by go_simp; rfl) (by go_simp) ?_
  refine eqf_cons (by rfl) (by go_simp; rfl) (by go_simp; rfl) (by go_simp) ?_
  refine eqf_cons (by rfl) (by go_simp; rfl) (by go_simp; rfl) (by go_simp) ?_
  refine eqf_cons (by rfl) (by go_simp; rfl) (by go_simp; rfl) (by go_simp) ?_
  exact eqf_last (by rfl) (by go_simp; rfl) (by go_simp; rfl) (by go_simp)
end Go.Proofs.YtbjbicaffblchaaGreatDoor.SR
end
section
namespace Go.Proofs.YtbjbicaffblchaaGreatDoor.SR
open Go.Proofs.YtbjbicaffblchaaGreatDoor.Hand
open Go.Proofs.YtbjbicaffblchaaGreatDoor.SA
open Go.Proofs.YtbjbicaffblchaaGreatDoor.SK
open Go.RowKit Go.Proofs.YtbjbicaffblchaaGreatDoorW.PrintWords Go.Proofs.YtbjbicaffblchaaGreatDoorW.PrintLast Go.Proofs.YtbjbicaffblchaaGreatDoorW.PrintMore
attribute [local go_sem] max2_int min2_int max_two min_two max_three min_three max_four min_four
set_option linter.unusedVariables false
set_option linter.unusedSimpArgs false
attribute [local go_sem high] eqA41
def postriderref06_part.l0 : Nat → ByteArray → Bool → Int → Option (Bool)
  | 0, _, _, _ => none
  | k + 1, x0, x1, x5 => if x5 < (x0.size : Int) then (if 0 ≤ x5 then (if (bt x0 x5) ≥ 97 then (if (bt x0 x5) ≤ 122 then (postriderref06_part.l0 k x0 x1 (wrap64 (x5 + 1))) else (if (bt x0 x5) ≥ 48 then (if (bt x0 x5) ≤ 57 then (postriderref06_part.l0 k x0 x1 (wrap64 (x5 + 1))) else (if (bt x0 x5) = 45 then (postriderref06_part.l0 k x0 x1 (wrap64 (x5 + 1))) else (if (bt x0 x5) = 46 then (postriderref06_part.l0 k x0 x1 (wrap64 (x5 + 1))) else (if x1 = true then (if ((bt x0 x5) = 47) then (postriderref06_part.l0 k x0 x1 (wrap64 (x5 + 1))) else (some false)) else (some false))))) else (if (bt x0 x5) = 45 then (postriderref06_part.l0 k x0 x1 (wrap64 (x5 + 1))) else (if (bt x0 x5) = 46 then (postriderref06_part.l0 k x0 x1 (wrap64 (x5 + 1))) else (if x1 = true then (if ((bt x0 x5) = 47) then (postriderref06_part.l0 k x0 x1 (wrap64 (x5 + 1))) else (some false)) else (some false)))))) else (if (bt x0 x5) ≥ 48 then (if (bt x0 x5) ≤ 57 then (postriderref06_part.l0 k x0 x1 (wrap64 (x5 + 1))) else (if (bt x0 x5) = 45 then (postriderref06_part.l0 k x0 x1 (wrap64 (x5 + 1))) else (if (bt x0 x5) = 46 then (postriderref06_part.l0 k x0 x1 (wrap64 (x5 + 1))) else (if x1 = true then (if ((bt x0 x5) = 47) then (postriderref06_part.l0 k x0 x1 (wrap64 (x5 + 1))) else (some false)) else (some false))))) else (if (bt x0 x5) = 45 then (postriderref06_part.l0 k x0 x1 (wrap64 (x5 + 1))) else (if (bt x0 x5) = 46 then (postriderref06_part.l0 k x0 x1 (wrap64 (x5 + 1))) else (if x1 = true then (if ((bt x0 x5) = 47) then (postriderref06_part.l0 k x0 x1 (wrap64 (x5 + 1))) else (some false)) else (some false)))))) else (none)) else (some (decide ((x0.size : Int) ≤ 20)))
def postriderref06_part.f (k : Nat) (a0 : ByteArray) (a1 : Bool) : Option (Bool) := postriderref06_part.l0 k a0 a1 0
theorem postriderref06_part.mono_l : ∀ k, (∀ y0 y1 y2, LeO (postriderref06_part.l0 k y0 y1 y2) (postriderref06_part.l0 (k + 1) y0 y1 y2))
  | 0 => fun _ _ _ r h => by simp [postriderref06_part.l0] at h
  | k + 1 => by
    have ih0 := postriderref06_part.mono_l k
    · intro y0 y1 y2
      unfold postriderref06_part.l0
      repeat' first
      | (with_reducible exact ih0 _ _ _)
      | (with_reducible exact LeO.refl _)
      | (with_reducible exact LeO.none _)
      | (with_reducible refine LeO.ite ?_ ?_)
      | (with_reducible refine LeO.bind ?_ (fun _ => ?_))
      | exact ih0 _ _ _
      | exact LeO.none _
      | refine LeO.ite ?_ ?_
      | refine LeO.bind ?_ (fun _ => ?_)
theorem postriderref06_part.mono : ∀ a0 a1 k, LeO (postriderref06_part.f k a0 a1) (postriderref06_part.f (k + 1) a0 a1) := by
  intro a0 a1 k
  have ih0 := postriderref06_part.mono_l k
  unfold postriderref06_part.f
  repeat' first
      | (with_reducible exact ih0 _ _ _)
      | (with_reducible exact LeO.refl _)
      | (with_reducible exact LeO.none _)
      | (with_reducible refine LeO.ite ?_ ?_)
      | (with_reducible refine LeO.bind ?_ (fun _ => ?_))
      | exact ih0 _ _ _
      | exact LeO.none _
      | refine LeO.ite ?_ ?_
      | refine LeO.bind ?_ (fun _ => ?_)
set_option maxHeartbeats 8000000 in
set_option maxRecDepth 100000 in
theorem postriderref06_part.calls (k : Nat) (a0 : ByteArray) (a1 : Bool) (r : Bool) (w : World) (h : postriderref06_part.f k a0 a1 = some r) :
    Calls Tryz.prog 43 #[.string a0, .bool a1] w fun e w' => e = .returned (.bool r) ∧ Drawn0 w w' := by
  have H : (postriderref06_part.l0 k a0 a1 0) = some r := h
  clear h
  have H' := Aside0.mk H
  clear H
  go_enter Tryz.func43, Tryz.ntmps43
  go_wp2
  go_loopg [5] k (fun kq v5 w' => ∃ (x5_1 : Int), v5 = .int .i64 x5_1 ∧ Aside0 (postriderref06_part.l0 kq a0 a1 x5_1 = some r) ∧ Aside0 (kq ≤ k) ∧ Drawn0 w w')
  case atStart => exact ⟨(0), (by first | rfl | (simp; done) | (simp [*]; done)), H', ⟨Nat.le_refl _⟩, by repeat (first | exact Drawn0.refl _ | apply Drawn0.step)⟩
  case round =>
    clear H'
    try clear p2
    obtain ⟨x5_1, rfl, HA, HK1, ⟨m1, rfl⟩⟩ := hrel
    cases gk with
    | zero => exact absurd HA.out (by simp [postriderref06_part.l0])
    | succ k1 =>
      have H := HA.out
      clear HA
      simp only [postriderref06_part.l0] at H
      by_cases c3 : x5_1 < (a0.size : Int)
      · rw [if_pos c3] at H
        have c3b0 : decide (x5_1 < (a0.size : Int)) = true := decide_eq_true c3
        clear c3
        by_cases c4 : 0 ≤ x5_1
        · rw [if_pos c4] at H
          have c4b0 : decide (0 ≤ x5_1) = true := decide_eq_true c4
          clear c4
          by_cases c6 : (bt a0 x5_1) ≥ 97
          · rw [if_pos c6] at H
            have c6b0 : decide (97 ≤ (bt a0 x5_1)) = true := decide_eq_true c6
            clear c6
            by_cases c7 : (bt a0 x5_1) ≤ 122
            · rw [if_pos c7] at H
              have c7b0 : decide ((bt a0 x5_1) ≤ 122) = true := decide_eq_true c7
              clear c7
              have H' := Aside0.mk H
              clear H
              have p5 : 0 ≤ (x5_1 : Int) := of_decide_eq_true (by first | (with_reducible assumption) | assumption)
              have q5 : x5_1 < (a0.size : Int) := of_decide_eq_true (by first | (with_reducible assumption) | assumption)
              have hx5 := bt_at a0 x5_1
              replace p5 := eq_true p5
              replace q5 := eq_true q5
              go_wp2
              go_roundg k1
              case measure => have := HK1.out; omega
              case rel => exact ⟨(wrap64 (x5_1 + 1)), (by first | rfl | (simp; done) | (simp [*]; done)), H', ⟨by have := HK1.out; omega⟩, by repeat (first | exact Drawn0.refl _ | apply Drawn0.step)⟩
            · rw [if_neg c7] at H
              have c7b0 : decide ((bt a0 x5_1) ≤ 122) = false := decide_eq_false c7
              clear c7
              by_cases c8 : (bt a0 x5_1) ≥ 48
              · rw [if_pos c8] at H
                have c8b0 : decide (48 ≤ (bt a0 x5_1)) = true := decide_eq_true c8
                clear c8
                by_cases c9 : (bt a0 x5_1) ≤ 57
                · rw [if_pos c9] at H
                  have c9b0 : decide ((bt a0 x5_1) ≤ 57) = true := decide_eq_true c9
                  clear c9
                  have H' := Aside0.mk H
                  clear H
                  have p5 : 0 ≤ (x5_1 : Int) := of_decide_eq_true (by first | (with_reducible assumption) | assumption)
                  have q5 : x5_1 < (a0.size : Int) := of_decide_eq_true (by first | (with_reducible assumption) | assumption)
                  have hx5 := bt_at a0 x5_1
                  replace p5 := eq_true p5
                  replace q5 := eq_true q5
                  go_wp2
                  go_roundg k1
                  case measure => have := HK1.out; omega
                  case rel => exact ⟨(wrap64 (x5_1 + 1)), (by first | rfl | (simp; done) | (simp [*]; done)), H', ⟨by have := HK1.out; omega⟩, by repeat (first | exact Drawn0.refl _ | apply Drawn0.step)⟩
                · rw [if_neg c9] at H
                  have c9b0 : decide ((bt a0 x5_1) ≤ 57) = false := decide_eq_false c9
                  clear c9
                  by_cases c10 : (bt a0 x5_1) = 45
                  · rw [if_pos c10] at H
                    have c10b0 : ((bt a0 x5_1) == 45) = true := beq_iff_eq.mpr c10
                    have c10b1 : ((bt a0 x5_1) != 45) = false := bne_eq_false_iff_eq.mpr c10
                    clear c10
                    have H' := Aside0.mk H
                    clear H
                    have p5 : 0 ≤ (x5_1 : Int) := of_decide_eq_true (by first | (with_reducible assumption) | assumption)
                    have q5 : x5_1 < (a0.size : Int) := of_decide_eq_true (by first | (with_reducible assumption) | assumption)
                    have hx5 := bt_at a0 x5_1
                    replace p5 := eq_true p5
                    replace q5 := eq_true q5
                    go_wp2
                    go_roundg k1
                    case measure => have := HK1.out; omega
                    case rel => exact ⟨(wrap64 (x5_1 + 1)), (by first | rfl | (simp; done) | (simp [*]; done)), H', ⟨by have := HK1.out; omega⟩, by repeat (first | exact Drawn0.refl _ | apply Drawn0.step)⟩
                  · rw [if_neg c10] at H
                    have c10b0 : ((bt a0 x5_1) == 45) = false := beq_eq_false_iff_ne.mpr c10
                    have c10b1 : ((bt a0 x5_1) != 45) = true := bne_iff_ne.mpr c10
                    by_cases c11 : (bt a0 x5_1) = 46
                    · rw [if_pos c11] at H
                      have c11b0 : ((bt a0 x5_1) == 46) = true := beq_iff_eq.mpr c11
                      have c11b1 : ((bt a0 x5_1) != 46) = false := bne_eq_false_iff_eq.mpr c11
                      clear c11
                      have H' := Aside0.mk H
                      clear H
                      have p5 : 0 ≤ (x5_1 : Int) := of_decide_eq_true (by first | (with_reducible assumption) | assumption)
                      have q5 : x5_1 < (a0.size : Int) := of_decide_eq_true (by first | (with_reducible assumption) | assumption)
                      have hx5 := bt_at a0 x5_1
                      replace p5 := eq_true p5
                      replace q5 := eq_true q5
                      go_wp2
                      go_roundg k1
                      case measure => have := HK1.out; omega
                      case rel => exact ⟨(wrap64 (x5_1 + 1)), (by first | rfl | (simp; done) | (simp [*]; done)), H', ⟨by have := HK1.out; omega⟩, by repeat (first | exact Drawn0.refl _ | apply Drawn0.step)⟩
                    · rw [if_neg c11] at H
                      have c11b0 : ((bt a0 x5_1) == 46) = false := beq_eq_false_iff_ne.mpr c11
                      have c11b1 : ((bt a0 x5_1) != 46) = true := bne_iff_ne.mpr c11
                      by_cases c12 : a1 = true
                      · subst c12
                        have H1 : (if ((bt a0 x5_1) = 47) then (postriderref06_part.l0 k1 a0 true (wrap64 (x5_1 + 1))) else (some false)) = some r := by rw [if_pos rfl] at H; exact H
                        clear H
                        have H := H1
                        clear H1
                        by_cases c13 : ((bt a0 x5_1) = 47)
                        · rw [if_pos c13] at H
                          have c13b0 : ((bt a0 x5_1) == 47) = true := beq_iff_eq.mpr c13
                          have c13b1 : ((bt a0 x5_1) != 47) = false := bne_eq_false_iff_eq.mpr c13
                          clear c13
                          have H' := Aside0.mk H
                          clear H
                          have p5 : 0 ≤ (x5_1 : Int) := of_decide_eq_true (by first | (with_reducible assumption) | assumption)
                          have q5 : x5_1 < (a0.size : Int) := of_decide_eq_true (by first | (with_reducible assumption) | assumption)
                          have hx5 := bt_at a0 x5_1
                          replace p5 := eq_true p5
                          replace q5 := eq_true q5
                          go_wp2
                          go_roundg k1
                          case measure => have := HK1.out; omega
                          case rel => exact ⟨(wrap64 (x5_1 + 1)), (by first | rfl | (simp; done) | (simp [*]; done)), H', ⟨by have := HK1.out; omega⟩, by repeat (first | exact Drawn0.refl _ | apply Drawn0.step)⟩
                        · rw [if_neg c13] at H
                          have c13b0 : ((bt a0 x5_1) == 47) = false := beq_eq_false_iff_ne.mpr c13
                          have c13b1 : ((bt a0 x5_1) != 47) = true := bne_iff_ne.mpr c13
                          obtain rfl := Option.some.inj H
                          have p5 : 0 ≤ (x5_1 : Int) := of_decide_eq_true (by first | (with_reducible assumption) | assumption)
                          have q5 : x5_1 < (a0.size : Int) := of_decide_eq_true (by first | (with_reducible assumption) | assumption)
                          have hx5 := bt_at a0 x5_1
                          replace p5 := eq_true p5
                          replace q5 := eq_true q5
                          go_wp2
                          all_goals (first | (go_ret; exact ⟨by first | rfl | (simp; done) | (simp [*]; done) | (simp_all; done) | fail, by repeat (first | exact Drawn0.refl _ | apply Drawn0.step)⟩) | (exfalso; simp_all; done) | (exfalso; simp only [isEmpty_eq, isEmpty_ne] at *; simp_all; done) | (exfalso; exact isEmpty_clash (by assumption) (by assumption)) | (exfalso; exact isEmpty_clash' (by assumption) (by assumption)) | (exfalso; exact isEmpty_clash2 (by assumption) (by assumption)))
                      · replace c12 := Bool.eq_false_iff.mpr c12
                        subst c12
                        have H1 : (some false) = some r := by rw [if_neg (show ¬ (false = true) by decide)] at H; exact H
                        clear H
                        have H := H1
                        clear H1
                        obtain rfl := Option.some.inj H
                        have p5 : 0 ≤ (x5_1 : Int) := of_decide_eq_true (by first | (with_reducible assumption) | assumption)
                        have q5 : x5_1 < (a0.size : Int) := of_decide_eq_true (by first | (with_reducible assumption) | assumption)
                        have hx5 := bt_at a0 x5_1
                        replace p5 := eq_true p5
                        replace q5 := eq_true q5
                        go_wp2
                        all_goals (first | (go_ret; exact ⟨by first | rfl | (simp; done) | (simp [*]; done) | (simp_all; done) | fail, by repeat (first | exact Drawn0.refl _ | apply Drawn0.step)⟩) | (exfalso; simp_all; done) | (exfalso; simp only [isEmpty_eq, isEmpty_ne] at *; simp_all; done) | (exfalso; exact isEmpty_clash (by assumption) (by assumption)) | (exfalso; exact isEmpty_clash' (by assumption) (by assumption)) | (exfalso; exact isEmpty_clash2 (by assumption) (by assumption)))
              · rw [if_neg c8] at H
                have c8b0 : decide (48 ≤ (bt a0 x5_1)) = false := decide_eq_false c8
                clear c8
                by_cases c14 : (bt a0 x5_1) = 45
                · rw [if_pos c14] at H
                  have c14b0 : ((bt a0 x5_1) == 45) = true := beq_iff_eq.mpr c14
                  have c14b1 : ((bt a0 x5_1) != 45) = false := bne_eq_false_iff_eq.mpr c14
                  clear c14
                  have H' := Aside0.mk H
                  clear H
                  have p5 : 0 ≤ (x5_1 : Int) := of_decide_eq_true (by first | (with_reducible assumption) | assumption)
                  have q5 : x5_1 < (a0.size : Int) := of_decide_eq_true (by first | (with_reducible assumption) | assumption)
                  have hx5 := bt_at a0 x5_1
                  replace p5 := eq_true p5
                  replace q5 := eq_true q5
                  go_wp2
                  go_roundg k1
                  case measure => have := HK1.out; omega
                  case rel => exact ⟨(wrap64 (x5_1 + 1)), (by first | rfl | (simp; done) | (simp [*]; done)), H', ⟨by have := HK1.out; omega⟩, by repeat (first | exact Drawn0.refl _ | apply Drawn0.step)⟩
                · rw [if_neg c14] at H
                  have c14b0 : ((bt a0 x5_1) == 45) = false := beq_eq_false_iff_ne.mpr c14
                  have c14b1 : ((bt a0 x5_1) != 45) = true := bne_iff_ne.mpr c14
                  by_cases c15 : (bt a0 x5_1) = 46
                  · rw [if_pos c15] at H
                    have c15b0 : ((bt a0 x5_1) == 46) = true := beq_iff_eq.mpr c15
                    have c15b1 : ((bt a0 x5_1) != 46) = false := bne_eq_false_iff_eq.mpr c15
                    clear c15
                    have H' := Aside0.mk H
                    clear H
                    have p5 : 0 ≤ (x5_1 : Int) := of_decide_eq_true (by first | (with_reducible assumption) | assumption)
                    have q5 : x5_1 < (a0.size : Int) := of_decide_eq_true (by first | (with_reducible assumption) | assumption)
                    have hx5 := bt_at a0 x5_1
                    replace p5 := eq_true p5
                    replace q5 := eq_true q5
                    go_wp2
                    go_roundg k1
                    case measure => have := HK1.out; omega
                    case rel => exact ⟨(wrap64 (x5_1 + 1)), (by first | rfl | (simp; done) | (simp [*]; done)), H', ⟨by have := HK1.out; omega⟩, by repeat (first | exact Drawn0.refl _ | apply Drawn0.step)⟩
                  · rw [if_neg c15] at H
                    have c15b0 : ((bt a0 x5_1) == 46) = false := beq_eq_false_iff_ne.mpr c15
                    have c15b1 : ((bt a0 x5_1) != 46) = true := bne_iff_ne.mpr c15
                    by_cases c16 : a1 = true
                    · subst c16
                      have H1 : (if ((bt a0 x5_1) = 47) then (postriderref06_part.l0 k1 a0 true (wrap64 (x5_1 + 1))) else (some false)) = some r := by rw [if_pos rfl] at H; exact H
                      clear H
                      have H := H1
                      clear H1
                      by_cases c17 : ((bt a0 x5_1) = 47)
                      · rw [if_pos c17] at H
                        have c17b0 : ((bt a0 x5_1) == 47) = true := beq_iff_eq.mpr c17
                        have c17b1 : ((bt a0 x5_1) != 47) = false := bne_eq_false_iff_eq.mpr c17
                        clear c17
                        have H' := Aside0.mk H
                        clear H
                        have p5 : 0 ≤ (x5_1 : Int) := of_decide_eq_true (by first | (with_reducible assumption) | assumption)
                        have q5 : x5_1 < (a0.size : Int) := of_decide_eq_true (by first | (with_reducible assumption) | assumption)
                        have hx5 := bt_at a0 x5_1
                        replace p5 := eq_true p5
                        replace q5 := eq_true q5
                        go_wp2
                        go_roundg k1
                        case measure => have := HK1.out; omega
                        case rel => exact ⟨(wrap64 (x5_1 + 1)), (by first | rfl | (simp; done) | (simp [*]; done)), H', ⟨by have := HK1.out; omega⟩, by repeat (first | exact Drawn0.refl _ | apply Drawn0.step)⟩
                      · rw [if_neg c17] at H
                        have c17b0 : ((bt a0 x5_1) == 47) = false := beq_eq_false_iff_ne.mpr c17
                        have c17b1 : ((bt a0 x5_1) != 47) = true := bne_iff_ne.mpr c17
                        obtain rfl := Option.some.inj H
                        have p5 : 0 ≤ (x5_1 : Int) := of_decide_eq_true (by first | (with_reducible assumption) | assumption)
                        have q5 : x5_1 < (a0.size : Int) := of_decide_eq_true (by first | (with_reducible assumption) | assumption)
                        have hx5 := bt_at a0 x5_1
                        replace p5 := eq_true p5
                        replace q5 := eq_true q5
                        go_wp2
                        all_goals (first | (go_ret; exact ⟨by first | rfl | (simp; done) | (simp [*]; done) | (simp_all; done) | fail, by repeat (first | exact Drawn0.refl _ | apply Drawn0.step)⟩) | (exfalso; simp_all; done) | (exfalso; simp only [isEmpty_eq, isEmpty_ne] at *; simp_all; done) | (exfalso; exact isEmpty_clash (by assumption) (by assumption)) | (exfalso; exact isEmpty_clash' (by assumption) (by assumption)) | (exfalso; exact isEmpty_clash2 (by assumption) (by assumption)))
                    · replace c16 := Bool.eq_false_iff.mpr c16
                      subst c16
                      have H1 : (some false) = some r := by rw [if_neg (show ¬ (false = true) by decide)] at H; exact H
                      clear H
                      have H := H1
                      clear H1
                      obtain rfl := Option.some.inj H
                      have p5 : 0 ≤ (x5_1 : Int) := of_decide_eq_true (by first | (with_reducible assumption) | assumption)
                      have q5 : x5_1 < (a0.size : Int) := of_decide_eq_true (by first | (with_reducible assumption) | assumption)
                      have hx5 := bt_at a0 x5_1
                      replace p5 := eq_true p5
                      replace q5 := eq_true q5
                      go_wp2
                      all_goals (first | (go_ret; exact ⟨by first | rfl | (simp; done) | (simp [*]; done) | (simp_all; done) | fail, by repeat (first | exact Drawn0.refl _ | apply Drawn0.step)⟩) | (exfalso; simp_all; done) | (exfalso; simp only [isEmpty_eq, isEmpty_ne] at *; simp_all; done) | (exfalso; exact isEmpty_clash (by assumption) (by assumption)) | (exfalso; exact isEmpty_clash' (by assumption) (by assumption)) | (exfalso; exact isEmpty_clash2 (by assumption) (by assumption)))
          · rw [if_neg c6] at H
            have c6b0 : decide (97 ≤ (bt a0 x5_1)) = false := decide_eq_false c6
            clear c6
            by_cases c18 : (bt a0 x5_1) ≥ 48
            · rw [if_pos c18] at H
              have c18b0 : decide (48 ≤ (bt a0 x5_1)) = true := decide_eq_true c18
              clear c18
              by_cases c19 : (bt a0 x5_1) ≤ 57
              · rw [if_pos c19] at H
                have c19b0 : decide ((bt a0 x5_1) ≤ 57) = true := decide_eq_true c19
                clear c19
                have H' := Aside0.mk H
                clear H
                have p5 : 0 ≤ (x5_1 : Int) := of_decide_eq_true (by first | (with_reducible assumption) | assumption)
                have q5 : x5_1 < (a0.size : Int) := of_decide_eq_true (by first | (with_reducible assumption) | assumption)
                have hx5 := bt_at a0 x5_1
                replace p5 := eq_true p5
                replace q5 := eq_true q5
                go_wp2
                go_roundg k1
                case measure => have := HK1.out; omega
                case rel => exact ⟨(wrap64 (x5_1 + 1)), (by first | rfl | (simp; done) | (simp [*]; done)), H', ⟨by have := HK1.out; omega⟩, by repeat (first | exact Drawn0.refl _ | apply Drawn0.step)⟩
              · rw [if_neg c19] at H
                have c19b0 : decide ((bt a0 x5_1) ≤ 57) = false := decide_eq_false c19
                clear c19
                by_cases c20 : (bt a0 x5_1) = 45
                · rw [if_pos c20] at H
                  have c20b0 : ((bt a0 x5_1) == 45) = true := beq_iff_eq.mpr c20
                  have c20b1 : ((bt a0 x5_1) != 45) = false := bne_eq_false_iff_eq.mpr c20
                  clear c20
                  have H' := Aside0.mk H
                  clear H
                  have p5 : 0 ≤ (x5_1 : Int) := of_decide_eq_true (by first | (with_reducible assumption) | assumption)
                  have q5 : x5_1 < (a0.size : Int) := of_decide_eq_true (by first | (with_reducible assumption) | assumption)
                  have hx5 := bt_at a0 x5_1
                  replace p5 := eq_true p5
                  replace q5 := eq_true q5
                  go_wp2
                  go_roundg k1
                  case measure => have := HK1.out; omega
                  case rel => exact ⟨(wrap64 (x5_1 + 1)), (by first | rfl | (simp; done) | (simp [*]; done)), H', ⟨by have := HK1.out; omega⟩, by repeat (first | exact Drawn0.refl _ | apply Drawn0.step)⟩
                · rw [if_neg c20] at H
                  have c20b0 : ((bt a0 x5_1) == 45) = false := beq_eq_false_iff_ne.mpr c20
                  have c20b1 : ((bt a0 x5_1) != 45) = true := bne_iff_ne.mpr c20
                  by_cases c21 : (bt a0 x5_1) = 46
                  · rw [if_pos c21] at H
                    have c21b0 : ((bt a0 x5_1) == 46) = true := beq_iff_eq.mpr c21
                    have c21b1 : ((bt a0 x5_1) != 46) = false := bne_eq_false_iff_eq.mpr c21
                    clear c21
                    have H' := Aside0.mk H
                    clear H
                    have p5 : 0 ≤ (x5_1 : Int) := of_decide_eq_true (by first | (with_reducible assumption) | assumption)
                    have q5 : x5_1 < (a0.size : Int) := of_decide_eq_true (by first | (with_reducible assumption) | assumption)
                    have hx5 := bt_at a0 x5_1
                    replace p5 := eq_true p5
                    replace q5 := eq_true q5
                    go_wp2
                    go_roundg k1
                    case measure => have := HK1.out; omega
                    case rel => exact ⟨(wrap64 (x5_1 + 1)), (by first | rfl | (simp; done) | (simp [*]; done)), H', ⟨by have := HK1.out; omega⟩, by repeat (first | exact Drawn0.refl _ | apply Drawn0.step)⟩
                  · rw [if_neg c21] at H
                    have c21b0 : ((bt a0 x5_1) == 46) = false := beq_eq_false_iff_ne.mpr c21
                    have c21b1 : ((bt a0 x5_1) != 46) = true := bne_iff_ne.mpr c21
                    by_cases c22 : a1 = true
                    · subst c22
                      have H1 : (if ((bt a0 x5_1) = 47) then (postriderref06_part.l0 k1 a0 true (wrap64 (x5_1 + 1))) else (some false)) = some r := by rw [if_pos rfl] at H; exact H
                      clear H
                      have H := H1
                      clear H1
                      by_cases c23 : ((bt a0 x5_1) = 47)
                      · rw [if_pos c23] at H
                        have c23b0 : ((bt a0 x5_1) == 47) = true := beq_iff_eq.mpr c23
                        have c23b1 : ((bt a0 x5_1) != 47) = false := bne_eq_false_iff_eq.mpr c23
                        clear c23
                        have H' := Aside0.mk H
                        clear H
                        have p5 : 0 ≤ (x5_1 : Int) := of_decide_eq_true (by first | (with_reducible assumption) | assumption)
                        have q5 : x5_1 < (a0.size : Int) := of_decide_eq_true (by first | (with_reducible assumption) | assumption)
                        have hx5 := bt_at a0 x5_1
                        replace p5 := eq_true p5
                        replace q5 := eq_true q5
                        go_wp2
                        go_roundg k1
                        case measure => have := HK1.out; omega
                        case rel => exact ⟨(wrap64 (x5_1 + 1)), (by first | rfl | (simp; done) | (simp [*]; done)), H', ⟨by have := HK1.out; omega⟩, by repeat (first | exact Drawn0.refl _ | apply Drawn0.step)⟩
                      · rw [if_neg c23] at H
                        have c23b0 : ((bt a0 x5_1) == 47) = false := beq_eq_false_iff_ne.mpr c23
                        have c23b1 : ((bt a0 x5_1) != 47) = true := bne_iff_ne.mpr c23
                        obtain rfl := Option.some.inj H
                        have p5 : 0 ≤ (x5_1 : Int) := of_decide_eq_true (by first | (with_reducible assumption) | assumption)
                        have q5 : x5_1 < (a0.size : Int) := of_decide_eq_true (by first | (with_reducible assumption) | assumption)
                        have hx5 := bt_at a0 x5_1
                        replace p5 := eq_true p5
                        replace q5 := eq_true q5
                        go_wp2
                        all_goals (first | (go_ret; exact ⟨by first | rfl | (simp; done) | (simp [*]; done) | (simp_all; done) | fail, by repeat (first | exact Drawn0.refl _ | apply Drawn0.step)⟩) | (exfalso; simp_all; done) | (exfalso; simp only [isEmpty_eq, isEmpty_ne] at *; simp_all; done) | (exfalso; exact isEmpty_clash (by assumption) (by assumption)) | (exfalso; exact isEmpty_clash' (by assumption) (by assumption)) | (exfalso; exact isEmpty_clash2 (by assumption) (by assumption)))
                    · replace c22 := Bool.eq_false_iff.mpr c22
                      subst c22
                      have H1 : (some false) = some r := by rw [if_neg (show ¬ (false = true) by decide)] at H; exact H
                      clear H
                      have H := H1
                      clear H1
                      obtain rfl := Option.some.inj H
                      have p5 : 0 ≤ (x5_1 : Int) := of_decide_eq_true (by first | (with_reducible assumption) | assumption)
                      have q5 : x5_1 < (a0.size : Int) := of_decide_eq_true (by first | (with_reducible assumption) | assumption)
                      have hx5 := bt_at a0 x5_1
                      replace p5 := eq_true p5
                      replace q5 := eq_true q5
                      go_wp2
                      all_goals (first | (go_ret; exact ⟨by first | rfl | (simp; done) | (simp [*]; done) | (simp_all; done) | fail, by repeat (first | exact Drawn0.refl _ | apply Drawn0.step)⟩) | (exfalso; simp_all; done) | (exfalso; simp only [isEmpty_eq, isEmpty_ne] at *; simp_all; done) | (exfalso; exact isEmpty_clash (by assumption) (by assumption)) | (exfalso; exact isEmpty_clash' (by assumption) (by assumption)) | (exfalso; exact isEmpty_clash2 (by assumption) (by assumption)))
            · rw [if_neg c18] at H
              have c18b0 : decide (48 ≤ (bt a0 x5_1)) = false := decide_eq_false c18
              clear c18
              by_cases c24 : (bt a0 x5_1) = 45
              · rw [if_pos c24] at H
                have c24b0 : ((bt a0 x5_1) == 45) = true := beq_iff_eq.mpr c24
                have c24b1 : ((bt a0 x5_1) != 45) = false := bne_eq_false_iff_eq.mpr c24
                clear c24
                have H' := Aside0.mk H
                clear H
                have p5 : 0 ≤ (x5_1 : Int) := of_decide_eq_true (by first | (with_reducible assumption) | assumption)
                have q5 : x5_1 < (a0.size : Int) := of_decide_eq_true (by first | (with_reducible assumption) | assumption)
                have hx5 := bt_at a0 x5_1
                replace p5 := eq_true p5
                replace q5 := eq_true q5
                go_wp2
                go_roundg k1
                case measure => have := HK1.out; omega
                case rel => exact ⟨(wrap64 (x5_1 + 1)), (by first | rfl | (simp; done) | (simp [*]; done)), H', ⟨by have := HK1.out; omega⟩, by repeat (first | exact Drawn0.refl _ | apply Drawn0.step)⟩
              · rw [if_neg c24] at H
                have c24b0 : ((bt a0 x5_1) == 45) = false := beq_eq_false_iff_ne.mpr c24
                have c24b1 : ((bt a0 x5_1) != 45) = true := bne_iff_ne.mpr c24
                by_cases c25 : (bt a0 x5_1) = 46
                · rw [if_pos c25] at H
                  have c25b0 : ((bt a0 x5_1) == 46) = true := beq_iff_eq.mpr c25
                  have c25b1 : ((bt a0 x5_1) != 46) = false := bne_eq_false_iff_eq.mpr c25
                  clear c25
                  have H' := Aside0.mk H
                  clear H
                  have p5 : 0 ≤ (x5_1 : Int) := of_decide_eq_true (by first | (with_reducible assumption) | assumption)
                  have q5 : x5_1 < (a0.size : Int) := of_decide_eq_true (by first | (with_reducible assumption) | assumption)
                  have hx5 := bt_at a0 x5_1
                  replace p5 := eq_true p5
                  replace q5 := eq_true q5
                  go_wp2
                  go_roundg k1
                  case measure => have := HK1.out; omega
                  case rel => exact ⟨(wrap64 (x5_1 + 1)), (by first | rfl | (simp; done) | (simp [*]; done)), H', ⟨by have := HK1.out; omega⟩, by repeat (first | exact Drawn0.refl _ | apply Drawn0.step)⟩
                · rw [if_neg c25] at H
                  have c25b0 : ((bt a0 x5_1) == 46) = false := beq_eq_false_iff_ne.mpr c25
                  have c25b1 : ((bt a0 x5_1) != 46) = true := bne_iff_ne.mpr c25
                  by_cases c26 : a1 = true
                  · subst c26
                    have H1 : (if ((bt a0 x5_1) = 47) then (postriderref06_part.l0 k1 a0 true (wrap64 (x5_1 + 1))) else (some false)) = some r := by rw [if_pos rfl] at H; exact H
                    clear H
                    have H := H1
                    clear H1
                    by_cases c27 : ((bt a0 x5_1) = 47)
                    · rw [if_pos c27] at H
                      have c27b0 : ((bt a0 x5_1) == 47) = true := beq_iff_eq.mpr c27
                      have c27b1 : ((bt a0 x5_1) != 47) = false := bne_eq_false_iff_eq.mpr c27
                      clear c27
                      have H' := Aside0.mk H
                      clear H
                      have p5 : 0 ≤ (x5_1 : Int) := of_decide_eq_true (by first | (with_reducible assumption) | assumption)
                      have q5 : x5_1 < (a0.size : Int) := of_decide_eq_true (by first | (with_reducible assumption) | assumption)
                      have hx5 := bt_at a0 x5_1
                      replace p5 := eq_true p5
                      replace q5 := eq_true q5
                      go_wp2
                      go_roundg k1
                      case measure => have := HK1.out; omega
                      case rel => exact ⟨(wrap64 (x5_1 + 1)), (by first | rfl | (simp; done) | (simp [*]; done)), H', ⟨by have := HK1.out; omega⟩, by repeat (first | exact Drawn0.refl _ | apply Drawn0.step)⟩
                    · rw [if_neg c27] at H
                      have c27b0 : ((bt a0 x5_1) == 47) = false := beq_eq_false_iff_ne.mpr c27
                      have c27b1 : ((bt a0 x5_1) != 47) = true := bne_iff_ne.mpr c27
                      obtain rfl := Option.some.inj H
                      have p5 : 0 ≤ (x5_1 : Int) := of_decide_eq_true (by first | (with_reducible assumption) | assumption)
                      have q5 : x5_1 < (a0.size : Int) := of_decide_eq_true (by first | (with_reducible assumption) | assumption)
                      have hx5 := bt_at a0 x5_1
                      replace p5 := eq_true p5
                      replace q5 := eq_true q5
                      go_wp2
                      all_goals (first | (go_ret; exact ⟨by first | rfl | (simp; done) | (simp [*]; done) | (simp_all; done) | fail, by repeat (first | exact Drawn0.refl _ | apply Drawn0.step)⟩) | (exfalso; simp_all; done) | (exfalso; simp only [isEmpty_eq, isEmpty_ne] at *; simp_all; done) | (exfalso; exact isEmpty_clash (by assumption) (by assumption)) | (exfalso; exact isEmpty_clash' (by assumption) (by assumption)) | (exfalso; exact isEmpty_clash2 (by assumption) (by assumption)))
                  · replace c26 := Bool.eq_false_iff.mpr c26
                    subst c26
                    have H1 : (some false) = some r := by rw [if_neg (show ¬ (false = true) by decide)] at H; exact H
                    clear H
                    have H := H1
                    clear H1
                    obtain rfl := Option.some.inj H
                    have p5 : 0 ≤ (x5_1 : Int) := of_decide_eq_true (by first | (with_reducible assumption) | assumption)
                    have q5 : x5_1 < (a0.size : Int) := of_decide_eq_true (by first | (with_reducible assumption) | assumption)
                    have hx5 := bt_at a0 x5_1
                    replace p5 := eq_true p5
                    replace q5 := eq_true q5
                    go_wp2
                    all_goals (first | (go_ret; exact ⟨by first | rfl | (simp; done) | (simp [*]; done) | (simp_all; done) | fail, by repeat (first | exact Drawn0.refl _ | apply Drawn0.step)⟩) | (exfalso; simp_all; done) | (exfalso; simp only [isEmpty_eq, isEmpty_ne] at *; simp_all; done) | (exfalso; exact isEmpty_clash (by assumption) (by assumption)) | (exfalso; exact isEmpty_clash' (by assumption) (by assumption)) | (exfalso; exact isEmpty_clash2 (by assumption) (by assumption)))
        · rw [if_neg c4] at H
          exact absurd H (by simp)
      · rw [if_neg c3] at H
        have c3b0 : decide (x5_1 < (a0.size : Int)) = false := decide_eq_false c3
        clear c3
        obtain rfl := Option.some.inj H
        go_wp2
        all_goals (first | (go_ret; exact ⟨by first | rfl | (simp; done) | (simp [*]; done) | (simp_all; done) | fail, by repeat (first | exact Drawn0.refl _ | apply Drawn0.step)⟩) | (exfalso; simp_all; done) | (exfalso; simp only [isEmpty_eq, isEmpty_ne] at *; simp_all; done) | (exfalso; exact isEmpty_clash (by assumption) (by assumption)) | (exfalso; exact isEmpty_clash' (by assumption) (by assumption)) | (exfalso; exact isEmpty_clash2 (by assumption) (by assumption)))
def postriderref06_Right.f (k : Nat) (a0_0 : Int) (a0_1 : ByteArray) (a0_2 : ByteArray) (a0_3 : Int) (a0_4 : Int) : Option (Bool) := if a0_0 = 0 then (some (a0_0 == 0 && (a0_1.toList == ([] : List UInt8) && (a0_2.toList == ([] : List UInt8) && (a0_3 == 0 && (a0_4 == 0)))))) else (if a0_0 = 1 then (if a0_1.toList = ([] : List UInt8) then (some false) else ((postriderref06_part.f k a0_1 false).bind fun t102 => (if t102 = true then ((postriderref06_part.f k a0_2 true).bind fun t103 => (if t103 = true then (if a0_3 = 0 then (some (a0_4 == 0)) else (some false)) else (some false))) else (some false)))) else (if a0_0 = 2 then (if a0_1.toList = ([] : List UInt8) then (if a0_2.toList = ([] : List UInt8) then (if a0_3 ≥ 1 then (if a0_3 ≤ 999999999 then (if a0_4 ≥ 0 then (some (decide (a0_4 ≤ 999999999))) else (some false)) else (some false)) else (some false)) else (some false)) else (some false)) else (some false)))
theorem postriderref06_Right.mono : ∀ a0 a1 a2 a3 a4 k, LeO (postriderref06_Right.f k a0 a1 a2 a3 a4) (postriderref06_Right.f (k + 1) a0 a1 a2 a3 a4) := by
  intro a0 a1 a2 a3 a4 k
  unfold postriderref06_Right.f
  repeat' first
      | (with_reducible exact postriderref06_part.mono _ _ _)
      | (with_reducible exact LeO.refl _)
      | (with_reducible exact LeO.none _)
      | (with_reducible refine LeO.ite ?_ ?_)
      | (with_reducible refine LeO.bind ?_ (fun _ => ?_))
      | exact postriderref06_part.mono _ _ _
      | exact LeO.none _
      | refine LeO.ite ?_ ?_
      | refine LeO.bind ?_ (fun _ => ?_)
set_option maxHeartbeats 8000000 in
set_option maxRecDepth 100000 in
theorem postriderref06_Right.calls (k : Nat) (a0_0 : Int) (a0_1 : ByteArray) (a0_2 : ByteArray) (a0_3 : Int) (a0_4 : Int) (r : Bool) (w : World) (h : postriderref06_Right.f k a0_0 a0_1 a0_2 a0_3 a0_4 = some r) :
    Calls Tryz.prog 26 #[.agg #[.int .i64 a0_0, .string a0_1, .string a0_2, .int .i64 a0_3, .int .i64 a0_4]] w fun e w' => e = .returned (.bool r) ∧ Below w.heap.size w w' := by
  have hu41 := Tryz.underlying41
  have HB := Aside0.mk (Below.refl w.heap.size w)
  have H : (if a0_0 = 0 then (some (a0_0 == 0 && (a0_1.toList == ([] : List UInt8) && (a0_2.toList == ([] : List UInt8) && (a0_3 == 0 && (a0_4 == 0)))))) else (if a0_0 = 1 then (if a0_1.toList = ([] : List UInt8) then (some false) else ((postriderref06_part.f k a0_1 false).bind fun t102 => (if t102 = true then ((postriderref06_part.f k a0_2 true).bind fun t103 => (if t103 = true then (if a0_3 = 0 then (some (a0_4 == 0)) else (some false)) else (some false))) else (some false)))) else (if a0_0 = 2 then (if a0_1.toList = ([] : List UInt8) then (if a0_2.toList = ([] : List UInt8) then (if a0_3 ≥ 1 then (if a0_3 ≤ 999999999 then (if a0_4 ≥ 0 then (some (decide (a0_4 ≤ 999999999))) else (some false)) else (some false)) else (some false)) else (some false)) else (some false)) else (some false)))) = some r := h
  clear h
  by_cases c2 : a0_0 = 0
  · rw [if_pos c2] at H
    have c2b0 : (a0_0 == 0) = true := beq_iff_eq.mpr c2
    have c2b1 : (a0_0 != 0) = false := bne_eq_false_iff_eq.mpr c2
    clear c2
    obtain rfl := Option.some.inj H
    go_enter Tryz.func26, Tryz.ntmps26
    go_wp2_with (first | ((with_reducible refine gate_dst (N := 1) rfl ?_); refine box_event ?hg (N := 1) ?hd (cs := #[.int .i64 a0_0, .string a0_1, .string a0_2, .int .i64 a0_3, .int .i64 a0_4]) (t := 41) ?hr ?_; (case hd => rfl); (case hg => rfl); (case hr => first | (go_simp; done) | (go_simp; rfl) | (go_simp; simp only [isEmpty_ne, isEmpty_eq]; done) | (go_simp; simp only [isEmpty_ne, isEmpty_eq]; rfl)); intro gb101 hg w3 hbox hb; have n0_ := Aside0.mk (below_step (by repeat (first | (with_reducible first | exact HB.out | apply below_alloc | apply pw_below_drewN | apply below_drew1) | exact HB.out)) hb); have n1_ := Aside0.mk (hbox); have n2_ := Aside0.mk ((by rw [hg]; exact (below_size (by repeat (first | (with_reducible first | exact HB.out | apply below_alloc | apply pw_below_drewN | apply below_drew1) | exact HB.out))) : w.heap.size ≤ gb101)); have n3_ := Aside0.mk ((by rw [hg]; exact (below_size (by repeat (first | (with_reducible first | exact HB.out | apply below_alloc | apply pw_below_drewN | apply below_drew1) | exact HB.out))) : w.heap.size ≤ gb101)); clear HB; have HB := n0_; have BK101 := n1_; have GW101 := n2_; have GE101 := n3_; clear n0_ n1_ n2_ n3_; clear hb hbox hg; have hcz4_0 : w3.cell? ⟨gb101, 0, none⟩ = some (.int .i64 a0_0) := (blk_cell BK101.out 0).trans rfl; have hcz4_1 : w3.cell? ⟨gb101, 1, none⟩ = some (.string a0_1) := (blk_cell BK101.out 1).trans rfl; have hcz4_2 : w3.cell? ⟨gb101, 2, none⟩ = some (.string a0_2) := (blk_cell BK101.out 2).trans rfl; have hcz4_3 : w3.cell? ⟨gb101, 3, none⟩ = some (.int .i64 a0_3) := (blk_cell BK101.out 3).trans rfl; have hcz4_4 : w3.cell? ⟨gb101, 4, none⟩ = some (.int .i64 a0_4) := (blk_cell BK101.out 4).trans rfl; have hfz4_0 := blk_frozen BK101.out 0; have hfz4_1 := blk_frozen BK101.out 1; have hfz4_2 := blk_frozen BK101.out 2; have hfz4_3 := blk_frozen BK101.out 3; have hfz4_4 := blk_frozen BK101.out 4))
    all_goals (first | (go_ret; exact ⟨by first | rfl | (simp [errW_none, errW_some] <;> rfl) | (simp [*, errW_none, errW_some] <;> rfl) | (simp_all; done) | fail, by repeat (first | (with_reducible first | exact HB.out | apply below_alloc | apply pw_below_drewN | apply below_drew1 | refine below_set ?_ GE101.out) | exact HB.out)⟩) | (exfalso; simp_all; done) | (exfalso; simp only [isEmpty_eq, isEmpty_ne] at *; simp_all; done) | (exfalso; exact isEmpty_clash (by assumption) (by assumption)) | (exfalso; exact isEmpty_clash' (by assumption) (by assumption)) | (exfalso; exact isEmpty_clash2 (by assumption) (by assumption)))
  · rw [if_neg c2] at H
    have c2b0 : (a0_0 == 0) = false := beq_eq_false_iff_ne.mpr c2
    have c2b1 : (a0_0 != 0) = true := bne_iff_ne.mpr c2
    by_cases c5 : a0_0 = 1
    · rw [if_pos c5] at H
      have c5b0 : (a0_0 == 1) = true := beq_iff_eq.mpr c5
      have c5b1 : (a0_0 != 1) = false := bne_eq_false_iff_eq.mpr c5
      clear c5
      by_cases c6 : a0_1.toList = ([] : List UInt8)
      · rw [if_pos c6] at H
        have c6b0 : (a0_1.toList == ([] : List UInt8)) = true := beq_iff_eq.mpr c6
        have c6b1 : (a0_1.toList != ([] : List UInt8)) = false := bne_eq_false_iff_eq.mpr c6
        clear c6
        obtain rfl := Option.some.inj H
        go_enter Tryz.func26, Tryz.ntmps26
        go_wp2_with (first | ((with_reducible refine gate_dst (N := 1) rfl ?_); refine box_event ?hg (N := 1) ?hd (cs := #[.int .i64 a0_0, .string a0_1, .string a0_2, .int .i64 a0_3, .int .i64 a0_4]) (t := 41) ?hr ?_; (case hd => rfl); (case hg => rfl); (case hr => first | (go_simp; done) | (go_simp; rfl) | (go_simp; simp only [isEmpty_ne, isEmpty_eq]; done) | (go_simp; simp only [isEmpty_ne, isEmpty_eq]; rfl)); intro gb101 hg w7 hbox hb; have n0_ := Aside0.mk (below_step (by repeat (first | (with_reducible first | exact HB.out | apply below_alloc | apply pw_below_drewN | apply below_drew1) | exact HB.out)) hb); have n1_ := Aside0.mk (hbox); have n2_ := Aside0.mk ((by rw [hg]; exact (below_size (by repeat (first | (with_reducible first | exact HB.out | apply below_alloc | apply pw_below_drewN | apply below_drew1) | exact HB.out))) : w.heap.size ≤ gb101)); have n3_ := Aside0.mk ((by rw [hg]; exact (below_size (by repeat (first | (with_reducible first | exact HB.out | apply below_alloc | apply pw_below_drewN | apply below_drew1) | exact HB.out))) : w.heap.size ≤ gb101)); clear HB; have HB := n0_; have BK101 := n1_; have GW101 := n2_; have GE101 := n3_; clear n0_ n1_ n2_ n3_; clear hb hbox hg; have hcz8_0 : w7.cell? ⟨gb101, 0, none⟩ = some (.int .i64 a0_0) := (blk_cell BK101.out 0).trans rfl; have hcz8_1 : w7.cell? ⟨gb101, 1, none⟩ = some (.string a0_1) := (blk_cell BK101.out 1).trans rfl; have hcz8_2 : w7.cell? ⟨gb101, 2, none⟩ = some (.string a0_2) := (blk_cell BK101.out 2).trans rfl; have hcz8_3 : w7.cell? ⟨gb101, 3, none⟩ = some (.int .i64 a0_3) := (blk_cell BK101.out 3).trans rfl; have hcz8_4 : w7.cell? ⟨gb101, 4, none⟩ = some (.int .i64 a0_4) := (blk_cell BK101.out 4).trans rfl; have hfz8_0 := blk_frozen BK101.out 0; have hfz8_1 := blk_frozen BK101.out 1; have hfz8_2 := blk_frozen BK101.out 2; have hfz8_3 := blk_frozen BK101.out 3; have hfz8_4 := blk_frozen BK101.out 4))
        all_goals (first | (go_ret; exact ⟨by first | rfl | (simp [errW_none, errW_some] <;> rfl) | (simp [*, errW_none, errW_some] <;> rfl) | (simp_all; done) | fail, by repeat (first | (with_reducible first | exact HB.out | apply below_alloc | apply pw_below_drewN | apply below_drew1 | refine below_set ?_ GE101.out) | exact HB.out)⟩) | (exfalso; simp_all; done) | (exfalso; simp only [isEmpty_eq, isEmpty_ne] at *; simp_all; done) | (exfalso; exact isEmpty_clash (by assumption) (by assumption)) | (exfalso; exact isEmpty_clash' (by assumption) (by assumption)) | (exfalso; exact isEmpty_clash2 (by assumption) (by assumption)))
      · rw [if_neg c6] at H
        have c6b0 : (a0_1.toList == ([] : List UInt8)) = false := beq_eq_false_iff_ne.mpr c6
        have c6b1 : (a0_1.toList != ([] : List UInt8)) = true := bne_iff_ne.mpr c6
        replace H := Option.bind_eq_some_iff.mp H
        obtain ⟨t102, A90, H⟩ := H
        replace H : (if t102 = true then ((postriderref06_part.f k a0_2 true).bind fun t103 => (if t103 = true then (if a0_3 = 0 then (some (a0_4 == 0)) else (some false)) else (some false))) else (some false)) = some r := H
        have A9 := Aside0.mk A90
        clear A90
        by_cases c10 : t102 = true
        · subst c10
          have H1 : ((postriderref06_part.f k a0_2 true).bind fun t103 => (if t103 = true then (if a0_3 = 0 then (some (a0_4 == 0)) else (some false)) else (some false))) = some r := by rw [if_pos rfl] at H; exact H
          clear H
          have H := H1
          clear H1
          replace H := Option.bind_eq_some_iff.mp H
          obtain ⟨t103, A110, H⟩ := H
          replace H : (if t103 = true then (if a0_3 = 0 then (some (a0_4 == 0)) else (some false)) else (some false)) = some r := H
          have A11 := Aside0.mk A110
          clear A110
          by_cases c12 : t103 = true
          · subst c12
            have H1 : (if a0_3 = 0 then (some (a0_4 == 0)) else (some false)) = some r := by rw [if_pos rfl] at H; exact H
            clear H
            have H := H1
            clear H1
            by_cases c13 : a0_3 = 0
            · rw [if_pos c13] at H
              have c13b0 : (a0_3 == 0) = true := beq_iff_eq.mpr c13
              have c13b1 : (a0_3 != 0) = false := bne_eq_false_iff_eq.mpr c13
              clear c13
              obtain rfl := Option.some.inj H
              go_enter Tryz.func26, Tryz.ntmps26
              go_wp2_with (first | ((with_reducible refine gate_dst (N := 1) rfl ?_); refine box_event ?hg (N := 1) ?hd (cs := #[.int .i64 a0_0, .string a0_1, .string a0_2, .int .i64 a0_3, .int .i64 a0_4]) (t := 41) ?hr ?_; (case hd => rfl); (case hg => rfl); (case hr => first | (go_simp; done) | (go_simp; rfl) | (go_simp; simp only [isEmpty_ne, isEmpty_eq]; done) | (go_simp; simp only [isEmpty_ne, isEmpty_eq]; rfl)); intro gb101 hg w14 hbox hb; have n0_ := Aside0.mk (below_step (by repeat (first | (with_reducible first | exact HB.out | apply below_alloc | apply pw_below_drewN | apply below_drew1) | exact HB.out)) hb); have n1_ := Aside0.mk (hbox); have n2_ := Aside0.mk ((by rw [hg]; exact (below_size (by repeat (first | (with_reducible first | exact HB.out | apply below_alloc | apply pw_below_drewN | apply below_drew1) | exact HB.out))) : w.heap.size ≤ gb101)); have n3_ := Aside0.mk ((by rw [hg]; exact (below_size (by repeat (first | (with_reducible first | exact HB.out | apply below_alloc | apply pw_below_drewN | apply below_drew1) | exact HB.out))) : w.heap.size ≤ gb101)); clear HB; have HB := n0_; have BK101 := n1_; have GW101 := n2_; have GE101 := n3_; clear n0_ n1_ n2_ n3_; clear hb hbox hg; have hcz15_0 : w14.cell? ⟨gb101, 0, none⟩ = some (.int .i64 a0_0) := (blk_cell BK101.out 0).trans rfl; have hcz15_1 : w14.cell? ⟨gb101, 1, none⟩ = some (.string a0_1) := (blk_cell BK101.out 1).trans rfl; have hcz15_2 : w14.cell? ⟨gb101, 2, none⟩ = some (.string a0_2) := (blk_cell BK101.out 2).trans rfl; have hcz15_3 : w14.cell? ⟨gb101, 3, none⟩ = some (.int .i64 a0_3) := (blk_cell BK101.out 3).trans rfl; have hcz15_4 : w14.cell? ⟨gb101, 4, none⟩ = some (.int .i64 a0_4) := (blk_cell BK101.out 4).trans rfl; have hfz15_0 := blk_frozen BK101.out 0; have hfz15_1 := blk_frozen BK101.out 1; have hfz15_2 := blk_frozen BK101.out 2; have hfz15_3 := blk_frozen BK101.out 3; have hfz15_4 := blk_frozen BK101.out 4) | (go_at_call 43; (with_reducible refine (postriderref06_part.calls k a0_1 false true _ A9.out).mono ?_); rintro e w' ⟨rfl, ⟨nd, rfl⟩⟩) | (go_at_call 43; (with_reducible refine (postriderref06_part.calls k a0_2 true true _ A11.out).mono ?_); rintro e w' ⟨rfl, ⟨nd, rfl⟩⟩))
              all_goals (first | (go_ret; exact ⟨by first | rfl | (simp [errW_none, errW_some] <;> rfl) | (simp [*, errW_none, errW_some] <;> rfl) | (simp_all; done) | fail, by repeat (first | (with_reducible first | exact HB.out | apply below_alloc | apply pw_below_drewN | apply below_drew1 | refine below_set ?_ GE101.out) | exact HB.out)⟩) | (exfalso; simp_all; done) | (exfalso; simp only [isEmpty_eq, isEmpty_ne] at *; simp_all; done) | (exfalso; exact isEmpty_clash (by assumption) (by assumption)) | (exfalso; exact isEmpty_clash' (by assumption) (by assumption)) | (exfalso; exact isEmpty_clash2 (by assumption) (by assumption)))
            · rw [if_neg c13] at H
              have c13b0 : (a0_3 == 0) = false := beq_eq_false_iff_ne.mpr c13
              have c13b1 : (a0_3 != 0) = true := bne_iff_ne.mpr c13
              obtain rfl := Option.some.inj H
              go_enter Tryz.func26, Tryz.ntmps26
              go_wp2_with (first | ((with_reducible refine gate_dst (N := 1) rfl ?_); refine box_event ?hg (N := 1) ?hd (cs := #[.int .i64 a0_0, .string a0_1, .string a0_2, .int .i64 a0_3, .int .i64 a0_4]) (t := 41) ?hr ?_; (case hd => rfl); (case hg => rfl); (case hr => first | (go_simp; done) | (go_simp; rfl) | (go_simp; simp only [isEmpty_ne, isEmpty_eq]; done) | (go_simp; simp only [isEmpty_ne, isEmpty_eq]; rfl)); intro gb101 hg w16 hbox hb; have n0_ := Aside0.mk (below_step (by repeat (first | (with_reducible first | exact HB.out | apply below_alloc | apply pw_below_drewN | apply below_drew1) | exact HB.out)) hb); have n1_ := Aside0.mk (hbox); have n2_ := Aside0.mk ((by rw [hg]; exact (below_size (by repeat (first | (with_reducible first | exact HB.out | apply below_alloc | apply pw_below_drewN | apply below_drew1) | exact HB.out))) : w.heap.size ≤ gb101)); have n3_ := Aside0.mk ((by rw [hg]; exact (below_size (by repeat (first | (with_reducible first | exact HB.out | apply below_alloc | apply pw_below_drewN | apply below_drew1) | exact HB.out))) : w.heap.size ≤ gb101)); clear HB; have HB := n0_; have BK101 := n1_; have GW101 := n2_; have GE101 := n3_; clear n0_ n1_ n2_ n3_; clear hb hbox hg; have hcz17_0 : w16.cell? ⟨gb101, 0, none⟩ = some (.int .i64 a0_0) := (blk_cell BK101.out 0).trans rfl; have hcz17_1 : w16.cell? ⟨gb101, 1, none⟩ = some (.string a0_1) := (blk_cell BK101.out 1).trans rfl; have hcz17_2 : w16.cell? ⟨gb101, 2, none⟩ = some (.string a0_2) := (blk_cell BK101.out 2).trans rfl; have hcz17_3 : w16.cell? ⟨gb101, 3, none⟩ = some (.int .i64 a0_3) := (blk_cell BK101.out 3).trans rfl; have hcz17_4 : w16.cell? ⟨gb101, 4, none⟩ = some (.int .i64 a0_4) := (blk_cell BK101.out 4).trans rfl; have hfz17_0 := blk_frozen BK101.out 0; have hfz17_1 := blk_frozen BK101.out 1; have hfz17_2 := blk_frozen BK101.out 2; have hfz17_3 := blk_frozen BK101.out 3; have hfz17_4 := blk_frozen BK101.out 4) | (go_at_call 43; (with_reducible refine (postriderref06_part.calls k a0_1 false true _ A9.out).mono ?_); rintro e w' ⟨rfl, ⟨nd, rfl⟩⟩) | (go_at_call 43; (with_reducible refine (postriderref06_part.calls k a0_2 true true _ A11.out).mono ?_); rintro e w' ⟨rfl, ⟨nd, rfl⟩⟩))
              all_goals (first | (go_ret; exact ⟨by first | rfl | (simp [errW_none, errW_some] <;> rfl) | (simp [*, errW_none, errW_some] <;> rfl) | (simp_all; done) | fail, by repeat (first | (with_reducible first | exact HB.out | apply below_alloc | apply pw_below_drewN | apply below_drew1 | refine below_set ?_ GE101.out) | exact HB.out)⟩) | (exfalso; simp_all; done) | (exfalso; simp only [isEmpty_eq, isEmpty_ne] at *; simp_all; done) | (exfalso; exact isEmpty_clash (by assumption) (by assumption)) | (exfalso; exact isEmpty_clash' (by assumption) (by assumption)) | (exfalso; exact isEmpty_clash2 (by assumption) (by assumption)))
          · replace c12 := Bool.eq_false_iff.mpr c12
            subst c12
            have H1 : (some false) = some r := by rw [if_neg (show ¬ (false = true) by decide)] at H; exact H
            clear H
            have H := H1
            clear H1
            obtain rfl := Option.some.inj H
            go_enter Tryz.func26, Tryz.ntmps26
            go_wp2_with (first | ((with_reducible refine gate_dst (N := 1) rfl ?_); refine box_event ?hg (N := 1) ?hd (cs := #[.int .i64 a0_0, .string a0_1, .string a0_2, .int .i64 a0_3, .int .i64 a0_4]) (t := 41) ?hr ?_; (case hd => rfl); (case hg => rfl); (case hr => first | (go_simp; done) | (go_simp; rfl) | (go_simp; simp only [isEmpty_ne, isEmpty_eq]; done) | (go_simp; simp only [isEmpty_ne, isEmpty_eq]; rfl)); intro gb101 hg w18 hbox hb; have n0_ := Aside0.mk (below_step (by repeat (first | (with_reducible first | exact HB.out | apply below_alloc | apply pw_below_drewN | apply below_drew1) | exact HB.out)) hb); have n1_ := Aside0.mk (hbox); have n2_ := Aside0.mk ((by rw [hg]; exact (below_size (by repeat (first | (with_reducible first | exact HB.out | apply below_alloc | apply pw_below_drewN | apply below_drew1) | exact HB.out))) : w.heap.size ≤ gb101)); have n3_ := Aside0.mk ((by rw [hg]; exact (below_size (by repeat (first | (with_reducible first | exact HB.out | apply below_alloc | apply pw_below_drewN | apply below_drew1) | exact HB.out))) : w.heap.size ≤ gb101)); clear HB; have HB := n0_; have BK101 := n1_; have GW101 := n2_; have GE101 := n3_; clear n0_ n1_ n2_ n3_; clear hb hbox hg; have hcz19_0 : w18.cell? ⟨gb101, 0, none⟩ = some (.int .i64 a0_0) := (blk_cell BK101.out 0).trans rfl; have hcz19_1 : w18.cell? ⟨gb101, 1, none⟩ = some (.string a0_1) := (blk_cell BK101.out 1).trans rfl; have hcz19_2 : w18.cell? ⟨gb101, 2, none⟩ = some (.string a0_2) := (blk_cell BK101.out 2).trans rfl; have hcz19_3 : w18.cell? ⟨gb101, 3, none⟩ = some (.int .i64 a0_3) := (blk_cell BK101.out 3).trans rfl; have hcz19_4 : w18.cell? ⟨gb101, 4, none⟩ = some (.int .i64 a0_4) := (blk_cell BK101.out 4).trans rfl; have hfz19_0 := blk_frozen BK101.out 0; have hfz19_1 := blk_frozen BK101.out 1; have hfz19_2 := blk_frozen BK101.out 2; have hfz19_3 := blk_frozen BK101.out 3; have hfz19_4 := blk_frozen BK101.out 4) | (go_at_call 43; (with_reducible refine (postriderref06_part.calls k a0_1 false true _ A9.out).mono ?_); rintro e w' ⟨rfl, ⟨nd, rfl⟩⟩) | (go_at_call 43; (with_reducible refine (postriderref06_part.calls k a0_2 true false _ A11.out).mono ?_); rintro e w' ⟨rfl, ⟨nd, rfl⟩⟩))
            all_goals (first | (go_ret; exact ⟨by first | rfl | (simp [errW_none, errW_some] <;> rfl) | (simp [*, errW_none, errW_some] <;> rfl) | (simp_all; done) | fail, by repeat (first | (with_reducible first | exact HB.out | apply below_alloc | apply pw_below_drewN | apply below_drew1 | refine below_set ?_ GE101.out) | exact HB.out)⟩) | (exfalso; simp_all; done) | (exfalso; simp only [isEmpty_eq, isEmpty_ne] at *; simp_all; done) | (exfalso; exact isEmpty_clash (by assumption) (by assumption)) | (exfalso; exact isEmpty_clash' (by assumption) (by assumption)) | (exfalso; exact isEmpty_clash2 (by assumption) (by assumption)))
        · replace c10 := Bool.eq_false_iff.mpr c10
          subst c10
          have H1 : (some false) = some r := by rw [if_neg (show ¬ (false = true) by decide)] at H; exact H
          clear H
          have H := H1
          clear H1
          obtain rfl := Option.some.inj H
          go_enter Tryz.func26, Tryz.ntmps26
          go_wp2_with (first | ((with_reducible refine gate_dst (N := 1) rfl ?_); refine box_event ?hg (N := 1) ?hd (cs := #[.int .i64 a0_0, .string a0_1, .string a0_2, .int .i64 a0_3, .int .i64 a0_4]) (t := 41) ?hr ?_; (case hd => rfl); (case hg => rfl); (case hr => first | (go_simp; done) | (go_simp; rfl) | (go_simp; simp only [isEmpty_ne, isEmpty_eq]; done) | (go_simp; simp only [isEmpty_ne, isEmpty_eq]; rfl)); intro gb101 hg w20 hbox hb; have n0_ := Aside0.mk (below_step (by repeat (first | (with_reducible first | exact HB.out | apply below_alloc | apply pw_below_drewN | apply below_drew1) | exact HB.out)) hb); have n1_ := Aside0.mk (hbox); have n2_ := Aside0.mk ((by rw [hg]; exact (below_size (by repeat (first | (with_reducible first | exact HB.out | apply below_alloc | apply pw_below_drewN | apply below_drew1) | exact HB.out))) : w.heap.size ≤ gb101)); have n3_ := Aside0.mk ((by rw [hg]; exact (below_size (by repeat (first | (with_reducible first | exact HB.out | apply below_alloc | apply pw_below_drewN | apply below_drew1) | exact HB.out))) : w.heap.size ≤ gb101)); clear HB; have HB := n0_; have BK101 := n1_; have GW101 := n2_; have GE101 := n3_; clear n0_ n1_ n2_ n3_; clear hb hbox hg; have hcz21_0 : w20.cell? ⟨gb101, 0, none⟩ = some (.int .i64 a0_0) := (blk_cell BK101.out 0).trans rfl; have hcz21_1 : w20.cell? ⟨gb101, 1, none⟩ = some (.string a0_1) := (blk_cell BK101.out 1).trans rfl; have hcz21_2 : w20.cell? ⟨gb101, 2, none⟩ = some (.string a0_2) := (blk_cell BK101.out 2).trans rfl; have hcz21_3 : w20.cell? ⟨gb101, 3, none⟩ = some (.int .i64 a0_3) := (blk_cell BK101.out 3).trans rfl; have hcz21_4 : w20.cell? ⟨gb101, 4, none⟩ = some (.int .i64 a0_4) := (blk_cell BK101.out 4).trans rfl; have hfz21_0 := blk_frozen BK101.out 0; have hfz21_1 := blk_frozen BK101.out 1; have hfz21_2 := blk_frozen BK101.out 2; have hfz21_3 := blk_frozen BK101.out 3; have hfz21_4 := blk_frozen BK101.out 4) | (go_at_call 43; (with_reducible refine (postriderref06_part.calls k a0_1 false false _ A9.out).mono ?_); rintro e w' ⟨rfl, ⟨nd, rfl⟩⟩))
          all_goals (first | (go_ret; exact ⟨by first | rfl | (simp [errW_none, errW_some] <;> rfl) | (simp [*, errW_none, errW_some] <;> rfl) | (simp_all; done) | fail, by repeat (first | (with_reducible first | exact HB.out | apply below_alloc | apply pw_below_drewN | apply below_drew1 | refine below_set ?_ GE101.out) | exact HB.out)⟩) | (exfalso; simp_all; done) | (exfalso; simp only [isEmpty_eq, isEmpty_ne] at *; simp_all; done) | (exfalso; exact isEmpty_clash (by assumption) (by assumption)) | (exfalso; exact isEmpty_clash' (by assumption) (by assumption)) | (exfalso; exact isEmpty_clash2 (by assumption) (by assumption)))
    · rw [if_neg c5] at H
      have c5b0 : (a0_0 == 1) = false := beq_eq_false_iff_ne.mpr c5
      have c5b1 : (a0_0 != 1) = true := bne_iff_ne.mpr c5
      by_cases c22 : a0_0 = 2
      · rw [if_pos c22] at H
        have c22b0 : (a0_0 == 2) = true := beq_iff_eq.mpr c22
        have c22b1 : (a0_0 != 2) = false := bne_eq_false_iff_eq.mpr c22
        clear c22
        by_cases c23 : a0_1.toList = ([] : List UInt8)
        · rw [if_pos c23] at H
          have c23b0 : (a0_1.toList == ([] : List UInt8)) = true := beq_iff_eq.mpr c23
          have c23b1 : (a0_1.toList != ([] : List UInt8)) = false := bne_eq_false_iff_eq.mpr c23
          clear c23
          by_cases c24 : a0_2.toList = ([] : List UInt8)
          · rw [if_pos c24] at H
            have c24b0 : (a0_2.toList == ([] : List UInt8)) = true := beq_iff_eq.mpr c24
            have c24b1 : (a0_2.toList != ([] : List UInt8)) = false := bne_eq_false_iff_eq.mpr c24
            clear c24
            by_cases c25 : a0_3 ≥ 1
            · rw [if_pos c25] at H
              have c25b0 : decide (1 ≤ a0_3) = true := decide_eq_true c25
              clear c25
              by_cases c26 : a0_3 ≤ 999999999
              · rw [if_pos c26] at H
                have c26b0 : decide (a0_3 ≤ 999999999) = true := decide_eq_true c26
                clear c26
                by_cases c27 : a0_4 ≥ 0
                · rw [if_pos c27] at H
                  have c27b0 : decide (0 ≤ a0_4) = true := decide_eq_true c27
                  clear c27
                  obtain rfl := Option.some.inj H
                  go_enter Tryz.func26, Tryz.ntmps26
                  go_wp2_with (first | ((with_reducible refine gate_dst (N := 1) rfl ?_); refine box_event ?hg (N := 1) ?hd (cs := #[.int .i64 a0_0, .string a0_1, .string a0_2, .int .i64 a0_3, .int .i64 a0_4]) (t := 41) ?hr ?_; (case hd => rfl); (case hg => rfl); (case hr => first | (go_simp; done) | (go_simp; rfl) | (go_simp; simp only [isEmpty_ne, isEmpty_eq]; done) | (go_simp; simp only [isEmpty_ne, isEmpty_eq]; rfl)); intro gb101 hg w28 hbox hb; have n0_ := Aside0.mk (below_step (by repeat (first | (with_reducible first | exact HB.out | apply below_alloc | apply pw_below_drewN | apply below_drew1) | exact HB.out)) hb); have n1_ := Aside0.mk (hbox); have n2_ := Aside0.mk ((by rw [hg]; exact (below_size (by repeat (first | (with_reducible first | exact HB.out | apply below_alloc | apply pw_below_drewN | apply below_drew1) | exact HB.out))) : w.heap.size ≤ gb101)); have n3_ := Aside0.mk ((by rw [hg]; exact (below_size (by repeat (first | (with_reducible first | exact HB.out | apply below_alloc | apply pw_below_drewN | apply below_drew1) | exact HB.out))) : w.heap.size ≤ gb101)); clear HB; have HB := n0_; have BK101 := n1_; have GW101 := n2_; have GE101 := n3_; clear n0_ n1_ n2_ n3_; clear hb hbox hg; have hcz29_0 : w28.cell? ⟨gb101, 0, none⟩ = some (.int .i64 a0_0) := (blk_cell BK101.out 0).trans rfl; have hcz29_1 : w28.cell? ⟨gb101, 1, none⟩ = some (.string a0_1) := (blk_cell BK101.out 1).trans rfl; have hcz29_2 : w28.cell? ⟨gb101, 2, none⟩ = some (.string a0_2) := (blk_cell BK101.out 2).trans rfl; have hcz29_3 : w28.cell? ⟨gb101, 3, none⟩ = some (.int .i64 a0_3) := (blk_cell BK101.out 3).trans rfl; have hcz29_4 : w28.cell? ⟨gb101, 4, none⟩ = some (.int .i64 a0_4) := (blk_cell BK101.out 4).trans rfl; have hfz29_0 := blk_frozen BK101.out 0; have hfz29_1 := blk_frozen BK101.out 1; have hfz29_2 := blk_frozen BK101.out 2; have hfz29_3 := blk_frozen BK101.out 3; have hfz29_4 := blk_frozen BK101.out 4))
                  all_goals (first | (go_ret; exact ⟨by first | rfl | (simp [errW_none, errW_some] <;> rfl) | (simp [*, errW_none, errW_some] <;> rfl) | (simp_all; done) | fail, by repeat (first | (with_reducible first | exact HB.out | apply below_alloc | apply pw_below_drewN | apply below_drew1 | refine below_set ?_ GE101.out) | exact HB.out)⟩) | (exfalso; simp_all; done) | (exfalso; simp only [isEmpty_eq, isEmpty_ne] at *; simp_all; done) | (exfalso; exact isEmpty_clash (by assumption) (by assumption)) | (exfalso; exact isEmpty_clash' (by assumption) (by assumption)) | (exfalso; exact isEmpty_clash2 (by assumption) (by assumption)))
                · rw [if_neg c27] at H
                  have c27b0 : decide (0 ≤ a0_4) = false := decide_eq_false c27
                  clear c27
                  obtain rfl := Option.some.inj H
                  go_enter Tryz.func26, Tryz.ntmps26
                  go_wp2_with (first | ((with_reducible refine gate_dst (N := 1) rfl ?_); refine box_event ?hg (N := 1) ?hd (cs := #[.int .i64 a0_0, .string a0_1, .string a0_2, .int .i64 a0_3, .int .i64 a0_4]) (t := 41) ?hr ?_; (case hd => rfl); (case hg => rfl); (case hr => first | (go_simp; done) | (go_simp; rfl) | (go_simp; simp only [isEmpty_ne, isEmpty_eq]; done) | (go_simp; simp only [isEmpty_ne, isEmpty_eq]; rfl)); intro gb101 hg w30 hbox hb; have n0_ := Aside0.mk (below_step (by repeat (first | (with_reducible first | exact HB.out | apply below_alloc | apply pw_below_drewN | apply below_drew1) | exact HB.out)) hb); have n1_ := Aside0.mk (hbox); have n2_ := Aside0.mk ((by rw [hg]; exact (below_size (by repeat (first | (with_reducible first | exact HB.out | apply below_alloc | apply pw_below_drewN | apply below_drew1) | exact HB.out))) : w.heap.size ≤ gb101)); have n3_ := Aside0.mk ((by rw [hg]; exact (below_size (by repeat (first | (with_reducible first | exact HB.out | apply below_alloc | apply pw_below_drewN | apply below_drew1) | exact HB.out))) : w.heap.size ≤ gb101)); clear HB; have HB := n0_; have BK101 := n1_; have GW101 := n2_; have GE101 := n3_; clear n0_ n1_ n2_ n3_; clear hb hbox hg; have hcz31_0 : w30.cell? ⟨gb101, 0, none⟩ = some (.int .i64 a0_0) := (blk_cell BK101.out 0).trans rfl; have hcz31_1 : w30.cell? ⟨gb101, 1, none⟩ = some (.string a0_1) := (blk_cell BK101.out 1).trans rfl; have hcz31_2 : w30.cell? ⟨gb101, 2, none⟩ = some (.string a0_2) := (blk_cell BK101.out 2).trans rfl; have hcz31_3 : w30.cell? ⟨gb101, 3, none⟩ = some (.int .i64 a0_3) := (blk_cell BK101.out 3).trans rfl; have hcz31_4 : w30.cell? ⟨gb101, 4, none⟩ = some (.int .i64 a0_4) := (blk_cell BK101.out 4).trans rfl; have hfz31_0 := blk_frozen BK101.out 0; have hfz31_1 := blk_frozen BK101.out 1; have hfz31_2 := blk_frozen BK101.out 2; have hfz31_3 := blk_frozen BK101.out 3; have hfz31_4 := blk_frozen BK101.out 4))
                  all_goals (first | (go_ret; exact ⟨by first | rfl | (simp [errW_none, errW_some] <;> rfl) | (simp [*, errW_none, errW_some] <;> rfl) | (simp_all; done) | fail, by repeat (first | (with_reducible first | exact HB.out | apply below_alloc | apply pw_below_drewN | apply below_drew1 | refine below_set ?_ GE101.out) | exact HB.out)⟩) | (exfalso; simp_all; done) | (exfalso; simp only [isEmpty_eq, isEmpty_ne] at *; simp_all; done) | (exfalso; exact isEmpty_clash (by assumption) (by assumption)) | (exfalso; exact isEmpty_clash' (by assumption) (by assumption)) | (exfalso; exact isEmpty_clash2 (by assumption) (by assumption)))
              · rw [if_neg c26] at H
                have c26b0 : decide (a0_3 ≤ 999999999) = false := decide_eq_false c26
                clear c26
                obtain rfl := Option.some.inj H
                go_enter Tryz.func26, Tryz.ntmps26
                go_wp2_with (first | ((with_reducible refine gate_dst (N := 1) rfl ?_); refine box_event ?hg (N := 1) ?hd (cs := #[.int .i64 a0_0, .string a0_1, .string a0_2, .int .i64 a0_3, .int .i64 a0_4]) (t := 41) ?hr ?_; (case hd => rfl); (case hg => rfl); (case hr => first | (go_simp; done) | (go_simp; rfl) | (go_simp; simp only [isEmpty_ne, isEmpty_eq]; done) | (go_simp; simp only [isEmpty_ne, isEmpty_eq]; rfl)); intro gb101 hg w32 hbox hb; have n0_ := Aside0.mk (below_step (by repeat (first | (with_reducible first | exact HB.out | apply below_alloc | apply pw_below_drewN | apply below_drew1) | exact HB.out)) hb); have n1_ := Aside0.mk (hbox); have n2_ := Aside0.mk ((by rw [hg]; exact (below_size (by repeat (first | (with_reducible first | exact HB.out | apply below_alloc | apply pw_below_drewN | apply below_drew1) | exact HB.out))) : w.heap.size ≤ gb101)); have n3_ := Aside0.mk ((by rw [hg]; exact (below_size (by repeat (first | (with_reducible first | exact HB.out | apply below_alloc | apply pw_below_drewN | apply below_drew1) | exact HB.out))) : w.heap.size ≤ gb101)); clear HB; have HB := n0_; have BK101 := n1_; have GW101 := n2_; have GE101 := n3_; clear n0_ n1_ n2_ n3_; clear hb hbox hg; have hcz33_0 : w32.cell? ⟨gb101, 0, none⟩ = some (.int .i64 a0_0) := (blk_cell BK101.out 0).trans rfl; have hcz33_1 : w32.cell? ⟨gb101, 1, none⟩ = some (.string a0_1) := (blk_cell BK101.out 1).trans rfl; have hcz33_2 : w32.cell? ⟨gb101, 2, none⟩ = some (.string a0_2) := (blk_cell BK101.out 2).trans rfl; have hcz33_3 : w32.cell? ⟨gb101, 3, none⟩ = some (.int .i64 a0_3) := (blk_cell BK101.out 3).trans rfl; have hcz33_4 : w32.cell? ⟨gb101, 4, none⟩ = some (.int .i64 a0_4) := (blk_cell BK101.out 4).trans rfl; have hfz33_0 := blk_frozen BK101.out 0; have hfz33_1 := blk_frozen BK101.out 1; have hfz33_2 := blk_frozen BK101.out 2; have hfz33_3 := blk_frozen BK101.out 3; have hfz33_4 := blk_frozen BK101.out 4))
                all_goals (first | (go_ret; exact ⟨by first | rfl | (simp [errW_none, errW_some] <;> rfl) | (simp [*, errW_none, errW_some] <;> rfl) | (simp_all; done) | fail, by repeat (first | (with_reducible first | exact HB.out | apply below_alloc | apply pw_below_drewN | apply below_drew1 | refine below_set ?_ GE101.out) | exact HB.out)⟩) | (exfalso; simp_all; done) | (exfalso; simp only [isEmpty_eq, isEmpty_ne] at *; simp_all; done) | (exfalso; exact isEmpty_clash (by assumption) (by assumption)) | (exfalso; exact isEmpty_clash' (by assumption) (by assumption)) | (exfalso; exact isEmpty_clash2 (by assumption) (by assumption)))
            · rw [if_neg c25] at H
              have c25b0 : decide (1 ≤ a0_3) = false := decide_eq_false c25
              clear c25
              obtain rfl := Option.some.inj H
              go_enter Tryz.func26, Tryz.ntmps26
              go_wp2_with (first | ((with_reducible refine gate_dst (N := 1) rfl ?_); refine box_event ?hg (N := 1) ?hd (cs := #[.int .i64 a0_0, .string a0_1, .string a0_2, .int .i64 a0_3, .int .i64 a0_4]) (t := 41) ?hr ?_; (case hd => rfl); (case hg => rfl); (case hr => first | (go_simp; done) | (go_simp; rfl) | (go_simp; simp only [isEmpty_ne, isEmpty_eq]; done) | (go_simp; simp only [isEmpty_ne, isEmpty_eq]; rfl)); intro gb101 hg w34 hbox hb; have n0_ := Aside0.mk (below_step (by repeat (first | (with_reducible first | exact HB.out | apply below_alloc | apply pw_below_drewN | apply below_drew1) | exact HB.out)) hb); have n1_ := Aside0.mk (hbox); have n2_ := Aside0.mk ((by rw [hg]; exact (below_size (by repeat (first | (with_reducible first | exact HB.out | apply below_alloc | apply pw_below_drewN | apply below_drew1) | exact HB.out))) : w.heap.size ≤ gb101)); have n3_ := Aside0.mk ((by rw [hg]; exact (below_size (by repeat (first | (with_reducible first | exact HB.out | apply below_alloc | apply pw_below_drewN | apply below_drew1) | exact HB.out))) : w.heap.size ≤ gb101)); clear HB; have HB := n0_; have BK101 := n1_; have GW101 := n2_; have GE101 := n3_; clear n0_ n1_ n2_ n3_; clear hb hbox hg; have hcz35_0 : w34.cell? ⟨gb101, 0, none⟩ = some (.int .i64 a0_0) := (blk_cell BK101.out 0).trans rfl; have hcz35_1 : w34.cell? ⟨gb101, 1, none⟩ = some (.string a0_1) := (blk_cell BK101.out 1).trans rfl; have hcz35_2 : w34.cell? ⟨gb101, 2, none⟩ = some (.string a0_2) := (blk_cell BK101.out 2).trans rfl; have hcz35_3 : w34.cell? ⟨gb101, 3, none⟩ = some (.int .i64 a0_3) := (blk_cell BK101.out 3).trans rfl; have hcz35_4 : w34.cell? ⟨gb101, 4, none⟩ = some (.int .i64 a0_4) := (blk_cell BK101.out 4).trans rfl; have hfz35_0 := blk_frozen BK101.out 0; have hfz35_1 := blk_frozen BK101.out 1; have hfz35_2 := blk_frozen BK101.out 2; have hfz35_3 := blk_frozen BK101.out 3; have hfz35_4 := blk_frozen BK101.out 4))
              all_goals (first | (go_ret; exact ⟨by first | rfl | (simp [errW_none, errW_some] <;> rfl) | (simp [*, errW_none, errW_some] <;> rfl) | (simp_all; done) | fail, by repeat (first | (with_reducible first | exact HB.out | apply below_alloc | apply pw_below_drewN | apply below_drew1 | refine below_set ?_ GE101.out) | exact HB.out)⟩) | (exfalso; simp_all; done) | (exfalso; simp only [isEmpty_eq, isEmpty_ne] at *; simp_all; done) | (exfalso; exact isEmpty_clash (by assumption) (by assumption)) | (exfalso; exact isEmpty_clash' (by assumption) (by assumption)) | (exfalso; exact isEmpty_clash2 (by assumption) (by assumption)))
          · rw [if_neg c24] at H
            have c24b0 : (a0_2.toList == ([] : List UInt8)) = false := beq_eq_false_iff_ne.mpr c24
            have c24b1 : (a0_2.toList != ([] : List UInt8)) = true := bne_iff_ne.mpr c24
            obtain rfl := Option.some.inj H
            go_enter Tryz.func26, Tryz.ntmps26
            go_wp2_with (first | ((with_reducible refine gate_dst (N := 1) rfl ?_); refine box_event ?hg (N := 1) ?hd (cs := #[.int .i64 a0_0, .string a0_1, .string a0_2, .int .i64 a0_3, .int .i64 a0_4]) (t := 41) ?hr ?_; (case hd => rfl); (case hg => rfl); (case hr => first | (go_simp; done) | (go_simp; rfl) | (go_simp; simp only [isEmpty_ne, isEmpty_eq]; done) | (go_simp; simp only [isEmpty_ne, isEmpty_eq]; rfl)); intro gb101 hg w36 hbox hb; have n0_ := Aside0.mk (below_step (by repeat (first | (with_reducible first | exact HB.out | apply below_alloc | apply pw_below_drewN | apply below_drew1) | exact HB.out)) hb); have n1_ := Aside0.mk (hbox); have n2_ := Aside0.mk ((by rw [hg]; exact (below_size (by repeat (first | (with_reducible first | exact HB.out | apply below_alloc | apply pw_below_drewN | apply below_drew1) | exact HB.out))) : w.heap.size ≤ gb101)); have n3_ := Aside0.mk ((by rw [hg]; exact (below_size (by repeat (first | (with_reducible first | exact HB.out | apply below_alloc | apply pw_below_drewN | apply below_drew1) | exact HB.out))) : w.heap.size ≤ gb101)); clear HB; have HB := n0_; have BK101 := n1_; have GW101 := n2_; have GE101 := n3_; clear n0_ n1_ n2_ n3_; clear hb hbox hg; have hcz37_0 : w36.cell? ⟨gb101, 0, none⟩ = some (.int .i64 a0_0) := (blk_cell BK101.out 0).trans rfl; have hcz37_1 : w36.cell? ⟨gb101, 1, none⟩ = some (.string a0_1) := (blk_cell BK101.out 1).trans rfl; have hcz37_2 : w36.cell? ⟨gb101, 2, none⟩ = some (.string a0_2) := (blk_cell BK101.out 2).trans rfl; have hcz37_3 : w36.cell? ⟨gb101, 3, none⟩ = some (.int .i64 a0_3) := (blk_cell BK101.out 3).trans rfl; have hcz37_4 : w36.cell? ⟨gb101, 4, none⟩ = some (.int .i64 a0_4) := (blk_cell BK101.out 4).trans rfl; have hfz37_0 := blk_frozen BK101.out 0; have hfz37_1 := blk_frozen BK101.out 1; have hfz37_2 := blk_frozen BK101.out 2; have hfz37_3 := blk_frozen BK101.out 3; have hfz37_4 := blk_frozen BK101.out 4))
            all_goals (first | (go_ret; exact ⟨by first | rfl | (simp [errW_none, errW_some] <;> rfl) | (simp [*, errW_none, errW_some] <;> rfl) | (simp_all; done) | fail, by repeat (first | (with_reducible first | exact HB.out | apply below_alloc | apply pw_below_drewN | apply below_drew1 | refine below_set ?_ GE101.out) | exact HB.out)⟩) | (exfalso; simp_all; done) | (exfalso; simp only [isEmpty_eq, isEmpty_ne] at *; simp_all; done) | (exfalso; exact isEmpty_clash (by assumption) (by assumption)) | (exfalso; exact isEmpty_clash' (by assumption) (by assumption)) | (exfalso; exact isEmpty_clash2 (by assumption) (by assumption)))
        · rw [if_neg c23] at H
          have c23b0 : (a0_1.toList == ([] : List UInt8)) = false := beq_eq_false_iff_ne.mpr c23
          have c23b1 : (a0_1.toList != ([] : List UInt8)) = true := bne_iff_ne.mpr c23
          obtain rfl := Option.some.inj H
          go_enter Tryz.func26, Tryz.ntmps26
          go_wp2_with (first | ((with_reducible refine gate_dst (N := 1) rfl ?_); refine box_event ?hg (N := 1) ?hd (cs := #[.int .i64 a0_0, .string a0_1, .string a0_2, .int .i64 a0_3, .int .i64 a0_4]) (t := 41) ?hr ?_; (case hd => rfl); (case hg => rfl); (case hr => first | (go_simp; done) | (go_simp; rfl) | (go_simp; simp only [isEmpty_ne, isEmpty_eq]; done) | (go_simp; simp only [isEmpty_ne, isEmpty_eq]; rfl)); intro gb101 hg w38 hbox hb; have n0_ := Aside0.mk (below_step (by repeat (first | (with_reducible first | exact HB.out | apply below_alloc | apply pw_below_drewN | apply below_drew1) | exact HB.out)) hb); have n1_ := Aside0.mk (hbox); have n2_ := Aside0.mk ((by rw [hg]; exact (below_size (by repeat (first | (with_reducible first | exact HB.out | apply below_alloc | apply pw_below_drewN | apply below_drew1) | exact HB.out))) : w.heap.size ≤ gb101)); have n3_ := Aside0.mk ((by rw [hg]; exact (below_size (by repeat (first | (with_reducible first | exact HB.out | apply below_alloc | apply pw_below_drewN | apply below_drew1) | exact HB.out))) : w.heap.size ≤ gb101)); clear HB; have HB := n0_; have BK101 := n1_; have GW101 := n2_; have GE101 := n3_; clear n0_ n1_ n2_ n3_; clear hb hbox hg; have hcz39_0 : w38.cell? ⟨gb101, 0, none⟩ = some (.int .i64 a0_0) := (blk_cell BK101.out 0).trans rfl; have hcz39_1 : w38.cell? ⟨gb101, 1, none⟩ = some (.string a0_1) := (blk_cell BK101.out 1).trans rfl; have hcz39_2 : w38.cell? ⟨gb101, 2, none⟩ = some (.string a0_2) := (blk_cell BK101.out 2).trans rfl; have hcz39_3 : w38.cell? ⟨gb101, 3, none⟩ = some (.int .i64 a0_3) := (blk_cell BK101.out 3).trans rfl; have hcz39_4 : w38.cell? ⟨gb101, 4, none⟩ = some (.int .i64 a0_4) := (blk_cell BK101.out 4).trans rfl; have hfz39_0 := blk_frozen BK101.out 0; have hfz39_1 := blk_frozen BK101.out 1; have hfz39_2 := blk_frozen BK101.out 2; have hfz39_3 := blk_frozen BK101.out 3; have hfz39_4 := blk_frozen BK101.out 4))
          all_goals (first | (go_ret; exact ⟨by first | rfl | (simp [errW_none, errW_some] <;> rfl) | (simp [*, errW_none, errW_some] <;> rfl) | (simp_all; done) | fail, by repeat (first | (with_reducible first | exact HB.out | apply below_alloc | apply pw_below_drewN | apply below_drew1 | refine below_set ?_ GE101.out) | exact HB.out)⟩) | (exfalso; simp_all; done) | (exfalso; simp only [isEmpty_eq, isEmpty_ne] at *; simp_all; done) | (exfalso; exact isEmpty_clash (by assumption) (by assumption)) | (exfalso; exact isEmpty_clash' (by assumption) (by assumption)) | (exfalso; exact isEmpty_clash2 (by assumption) (by assumption)))
      · rw [if_neg c22] at H
        have c22b0 : (a0_0 == 2) = false := beq_eq_false_iff_ne.mpr c22
        have c22b1 : (a0_0 != 2) = true := bne_iff_ne.mpr c22
        obtain rfl := Option.some.inj H
        go_enter Tryz.func26, Tryz.ntmps26
        go_wp2_with (first | ((with_reducible refine gate_dst (N := 1) rfl ?_); refine box_event ?hg (N := 1) ?hd (cs := #[.int .i64 a0_0, .string a0_1, .string a0_2, .int .i64 a0_3, .int .i64 a0_4]) (t := 41) ?hr ?_; (case hd => rfl); (case hg => rfl); (case hr => first | (go_simp; done) | (go_simp; rfl) | (go_simp; simp only [isEmpty_ne, isEmpty_eq]; done) | (go_simp; simp only [isEmpty_ne, isEmpty_eq]; rfl)); intro gb101 hg w40 hbox hb; have n0_ := Aside0.mk (below_step (by repeat (first | (with_reducible first | exact HB.out | apply below_alloc | apply pw_below_drewN | apply below_drew1) | exact HB.out)) hb); have n1_ := Aside0.mk (hbox); have n2_ := Aside0.mk ((by rw [hg]; exact (below_size (by repeat (first | (with_reducible first | exact HB.out | apply below_alloc | apply pw_below_drewN | apply below_drew1) | exact HB.out))) : w.heap.size ≤ gb101)); have n3_ := Aside0.mk ((by rw [hg]; exact (below_size (by repeat (first | (with_reducible first | exact HB.out | apply below_alloc | apply pw_below_drewN | apply below_drew1) | exact HB.out))) : w.heap.size ≤ gb101)); clear HB; have HB := n0_; have BK101 := n1_; have GW101 := n2_; have GE101 := n3_; clear n0_ n1_ n2_ n3_; clear hb hbox hg; have hcz41_0 : w40.cell? ⟨gb101, 0, none⟩ = some (.int .i64 a0_0) := (blk_cell BK101.out 0).trans rfl; have hcz41_1 : w40.cell? ⟨gb101, 1, none⟩ = some (.string a0_1) := (blk_cell BK101.out 1).trans rfl; have hcz41_2 : w40.cell? ⟨gb101, 2, none⟩ = some (.string a0_2) := (blk_cell BK101.out 2).trans rfl; have hcz41_3 : w40.cell? ⟨gb101, 3, none⟩ = some (.int .i64 a0_3) := (blk_cell BK101.out 3).trans rfl; have hcz41_4 : w40.cell? ⟨gb101, 4, none⟩ = some (.int .i64 a0_4) := (blk_cell BK101.out 4).trans rfl; have hfz41_0 := blk_frozen BK101.out 0; have hfz41_1 := blk_frozen BK101.out 1; have hfz41_2 := blk_frozen BK101.out 2; have hfz41_3 := blk_frozen BK101.out 3; have hfz41_4 := blk_frozen BK101.out 4))
        all_goals (first | (go_ret; exact ⟨by first | rfl | (simp [errW_none, errW_some] <;> rfl) | (simp [*, errW_none, errW_some] <;> rfl) | (simp_all; done) | fail, by repeat (first | (with_reducible first | exact HB.out | apply below_alloc | apply pw_below_drewN | apply below_drew1 | refine below_set ?_ GE101.out) | exact HB.out)⟩) | (exfalso; simp_all; done) | (exfalso; simp only [isEmpty_eq, isEmpty_ne] at *; simp_all; done) | (exfalso; exact isEmpty_clash (by assumption) (by assumption)) | (exfalso; exact isEmpty_clash' (by assumption) (by assumption)) | (exfalso; exact isEmpty_clash2 (by assumption) (by assumption)))
end Go.Proofs.YtbjbicaffblchaaGreatDoor.SR
end
section
namespace Go.Proofs.YtbjbicaffblchaaGreatDoor.SR
open Go.Proofs.YtbjbicaffblchaaGreatDoor.Hand
open Go.Proofs.YtbjbicaffblchaaGreatDoor.SA
open Go.Proofs.YtbjbicaffblchaaGreatDoor.SK
open Go.RowKit Go.Proofs.YtbjbicaffblchaaGreatDoorW.PrintWords Go.Proofs.YtbjbicaffblchaaGreatDoorW.PrintLast Go.Proofs.YtbjbicaffblchaaGreatDoorW.PrintMore
attribute [local go_sem] max2_int min2_int max_two min_two max_three min_three max_four min_four
set_option linter.unusedVariables false
set_option linter.unusedSimpArgs false
def postriderref06_Num.f : Nat → Int → Option (ByteArray)
  | 0, _ => none
  | k + 1, a0 => if a0 < 10 then (if 0 ≤ a0 then (if a0 ≤ (wrap64 (a0 + 1)) then (if (wrap64 (a0 + 1)) ≤ 10 then (some ((⟨#[48, 49, 50, 51, 52, 53, 54, 55, 56, 57]⟩ : ByteArray).extract (a0 : Int).toNat ((wrap64 (a0 + 1)) : Int).toNat)) else (none)) else (none)) else (none)) else ((postriderref06_Num.f k (wrap64 (Int.tdiv a0 10))).bind fun t104 => (if 0 ≤ (Int.tmod a0 10) then (if (Int.tmod a0 10) ≤ (wrap64 ((Int.tmod a0 10) + 1)) then (if (wrap64 ((Int.tmod a0 10) + 1)) ≤ 10 then (if t104.size + ((⟨#[48, 49, 50, 51, 52, 53, 54, 55, 56, 57]⟩ : ByteArray).extract ((Int.tmod a0 10) : Int).toNat ((wrap64 ((Int.tmod a0 10) + 1)) : Int).toNat).size ≤ 9223372036854775807 then (some (t104 ++ ((⟨#[48, 49, 50, 51, 52, 53, 54, 55, 56, 57]⟩ : ByteArray).extract ((Int.tmod a0 10) : Int).toNat ((wrap64 ((Int.tmod a0 10) + 1)) : Int).toNat))) else (none)) else (none)) else (none)) else (none)))
theorem postriderref06_Num.mono_l : ∀ k, (∀ y0, LeO (postriderref06_Num.f k y0) (postriderref06_Num.f (k + 1) y0))
  | 0 => fun _ r h => by simp [postriderref06_Num.f] at h
  | k + 1 => by
    have ih0 := postriderref06_Num.mono_l k
    · intro y0
      unfold postriderref06_Num.f
      repeat' first
      | (with_reducible exact ih0 _)
      | (with_reducible exact LeO.refl _)
      | (with_reducible exact LeO.none _)
      | (with_reducible refine LeO.ite ?_ ?_)
      | (with_reducible refine LeO.bind ?_ (fun _ => ?_))
      | exact ih0 _
      | exact LeO.none _
      | refine LeO.ite ?_ ?_
      | refine LeO.bind ?_ (fun _ => ?_)
theorem postriderref06_Num.mono : ∀ a0 k, LeO (postriderref06_Num.f k a0) (postriderref06_Num.f (k + 1) a0) := by
  intro a0 k
  have ih0 := postriderref06_Num.mono_l k
  exact ih0 a0
def postriderref06_Num.T3 : Bool × List (List Nat × List Nat) := (true, [([], []), ([0], [0]), ([1], [1]), ([], []), ([3], [3]), ([], []), ([5], [5]), ([6], [6]), ([4, 7], [4, 7]), ([2, 8], [2, 8]), ([9, 2, 0, 1, 2, 3, 4, 5, 6, 7, 8, 9], [9])])
def postriderref06_Num.B3 : List Nat := [0, 1, 3, 0, 8, 0, 32, 96, 248, 511, 1023]
theorem postriderref06_Num.tab3 : rtab .any (opsOf Tryz.f44 3) = postriderref06_Num.T3 := by kernel_rfl
theorem postriderref06_Num.bits3 : waitsOk postriderref06_Num.T3.2 postriderref06_Num.B3 = true := by kernel_rfl
set_option maxHeartbeats 8000000 in
set_option maxRecDepth 100000 in
theorem postriderref06_Num.calls (k : Nat) : ∀ (a0 : Int) (r : ByteArray) (w : World) (h : postriderref06_Num.f k a0 = some r),
    Calls Tryz.prog 44 #[.int .i64 a0] w fun e w' => e = .returned (.string r) ∧ Below w.heap.size w w' := by
  induction k using Nat.strongRecOn with
  | _ k ih =>
  intro a0 r w h
  cases k with
  | zero => exact absurd h (by simp [postriderref06_Num.f])
  | succ k =>
  simp only [postriderref06_Num.f] at h
  have HB := Aside0.mk (Below.refl w.heap.size w)
  have H : (if a0 < 10 then (if 0 ≤ a0 then (if a0 ≤ (wrap64 (a0 + 1)) then (if (wrap64 (a0 + 1)) ≤ 10 then (some ((⟨#[48, 49, 50, 51, 52, 53, 54, 55, 56, 57]⟩ : ByteArray).extract (a0 : Int).toNat ((wrap64 (a0 + 1)) : Int).toNat)) else (none)) else (none)) else (none)) else ((postriderref06_Num.f k (wrap64 (Int.tdiv a0 10))).bind fun t104 => (if 0 ≤ (Int.tmod a0 10) then (if (Int.tmod a0 10) ≤ (wrap64 ((Int.tmod a0 10) + 1)) then (if (wrap64 ((Int.tmod a0 10) + 1)) ≤ 10 then (if t104.size + ((⟨#[48, 49, 50, 51, 52, 53, 54, 55, 56, 57]⟩ : ByteArray).extract ((Int.tmod a0 10) : Int).toNat ((wrap64 ((Int.tmod a0 10) + 1)) : Int).toNat).size ≤ 9223372036854775807 then (some (t104 ++ ((⟨#[48, 49, 50, 51, 52, 53, 54, 55, 56, 57]⟩ : ByteArray).extract ((Int.tmod a0 10) : Int).toNat ((wrap64 ((Int.tmod a0 10) + 1)) : Int).toNat))) else (none)) else (none)) else (none)) else (none)))) = some r := h
  clear h
  by_cases c2 : a0 < 10
  · rw [if_pos c2] at H
    have c2b0 : decide (a0 < 10) = true := decide_eq_true c2
    clear c2
    by_cases c3 : 0 ≤ a0
    · rw [if_pos c3] at H
      have c3b0 := eq_true c3
      have c3b1 : decide (0 ≤ a0) = true := decide_eq_true c3
      clear c3
      by_cases c4 : a0 ≤ (wrap64 (a0 + 1))
      · rw [if_pos c4] at H
        have c4b0 := eq_true c4
        have c4b1 : decide (a0 ≤ (wrap64 (a0 + 1))) = true := decide_eq_true c4
        by_cases c5 : (wrap64 (a0 + 1)) ≤ 10
        · rw [if_pos c5] at H
          have c5b0 := eq_true c5
          have c5b1 : decide ((wrap64 (a0 + 1)) ≤ 10) = true := decide_eq_true c5
          obtain rfl := Option.some.inj H
          go_enter Tryz.func44, Tryz.ntmps44
          go_wp2
          all_goals (first | (go_ret; exact ⟨by first | rfl | (simp [errW_none, errW_some] <;> rfl) | (simp [*, errW_none, errW_some] <;> rfl) | (simp_all; done) | fail, by repeat (first | (with_reducible first | exact HB.out | apply below_alloc | apply pw_below_drewN | apply below_drew1) | exact HB.out)⟩) | (exfalso; simp_all; done) | (exfalso; simp only [isEmpty_eq, isEmpty_ne] at *; simp_all; done) | (exfalso; exact isEmpty_clash (by assumption) (by assumption)) | (exfalso; exact isEmpty_clash' (by assumption) (by assumption)) | (exfalso; exact isEmpty_clash2 (by assumption) (by assumption)))
        · rw [if_neg c5] at H
          exact absurd H (by simp)
      · rw [if_neg c4] at H
        exact absurd H (by simp)
    · rw [if_neg c3] at H
      exact absurd H (by simp)
  · rw [if_neg c2] at H
    have c2b0 : decide (a0 < 10) = false := decide_eq_false c2
    clear c2
    replace H := Option.bind_eq_some_iff.mp H
    obtain ⟨t104, A60, H⟩ := H
    replace H : (if 0 ≤ (Int.tmod a0 10) then (if (Int.tmod a0 10) ≤ (wrap64 ((Int.tmod a0 10) + 1)) then (if (wrap64 ((Int.tmod a0 10) + 1)) ≤ 10 then (if t104.size + ((⟨#[48, 49, 50, 51, 52, 53, 54, 55, 56, 57]⟩ : ByteArray).extract ((Int.tmod a0 10) : Int).toNat ((wrap64 ((Int.tmod a0 10) + 1)) : Int).toNat).size ≤ 9223372036854775807 then (some (t104 ++ ((⟨#[48, 49, 50, 51, 52, 53, 54, 55, 56, 57]⟩ : ByteArray).extract ((Int.tmod a0 10) : Int).toNat ((wrap64 ((Int.tmod a0 10) + 1)) : Int).toNat))) else (none)) else (none)) else (none)) else (none)) = some r := H
    have A6 := Aside0.mk A60
    clear A60
    obtain ⟨ji7, hji7⟩ : ∃ j_ : Int, (Int.tmod a0 10) = j_ := ⟨_, rfl⟩
    replace H : (if 0 ≤ (ji7) then (if (ji7) ≤ (wrap64 ((ji7) + 1)) then (if (wrap64 ((ji7) + 1)) ≤ 10 then (if t104.size + ((⟨#[48, 49, 50, 51, 52, 53, 54, 55, 56, 57]⟩ : ByteArray).extract ((ji7) : Int).toNat ((wrap64 ((ji7) + 1)) : Int).toNat).size ≤ 9223372036854775807 then (some (t104 ++ ((⟨#[48, 49, 50, 51, 52, 53, 54, 55, 56, 57]⟩ : ByteArray).extract ((ji7) : Int).toNat ((wrap64 ((ji7) + 1)) : Int).toNat))) else (none)) else (none)) else (none)) else (none)) = some r := by first | (rw [hji7] at H; exact H) | (simp only [hji7] at H ⊢; exact H)
    (try rw [hji7] at A6)
    by_cases c8 : 0 ≤ (ji7)
    · rw [if_pos c8] at H
      have c8b0 := eq_true c8
      have c8b1 : decide (0 ≤ (ji7)) = true := decide_eq_true c8
      clear c8
      by_cases c9 : (ji7) ≤ (wrap64 ((ji7) + 1))
      · rw [if_pos c9] at H
        have c9b0 := eq_true c9
        have c9b1 : decide ((ji7) ≤ (wrap64 ((ji7) + 1))) = true := decide_eq_true c9
        by_cases c10 : (wrap64 ((ji7) + 1)) ≤ 10
        · rw [if_pos c10] at H
          have c10b0 := eq_true c10
          have c10b1 : decide ((wrap64 ((ji7) + 1)) ≤ 10) = true := decide_eq_true c10
          by_cases c11 : t104.size + ((⟨#[48, 49, 50, 51, 52, 53, 54, 55, 56, 57]⟩ : ByteArray).extract ((ji7) : Int).toNat ((wrap64 ((ji7) + 1)) : Int).toNat).size ≤ 9223372036854775807
          · rw [if_pos c11] at H
            have c11b0 := eq_true c11
            have c11b1 : decide (t104.size + ((⟨#[48, 49, 50, 51, 52, 53, 54, 55, 56, 57]⟩ : ByteArray).extract ((ji7) : Int).toNat ((wrap64 ((ji7) + 1)) : Int).toNat).size ≤ 9223372036854775807) = true := decide_eq_true c11
            try have c11b2 : (9223372036854775807 < t104.size + ((⟨#[48, 49, 50, 51, 52, 53, 54, 55, 56, 57]⟩ : ByteArray).extract ((ji7) : Int).toNat ((wrap64 ((ji7) + 1)) : Int).toNat).size) = False := eq_false (Nat.not_lt.2 c11)
            try have c11b3 : (9223372036854775807 < t104.size + (((wrap64 ((ji7) + 1)) : Int).toNat - ((ji7) : Int).toNat)) = False := eq_false (by have hz_ := c11; rw [ByteArray.size_extract, show (⟨#[48, 49, 50, 51, 52, 53, 54, 55, 56, 57]⟩ : ByteArray).size = 10 from rfl] at hz_; omega)
            obtain rfl := Option.some.inj H
            go_enter Tryz.func44, Tryz.ntmps44
            try go_wp2
            have n0_ := Aside0.mk (below_drew1 HB.out)
            clear HB
            have HB := n0_
            clear n0_
            refine start_ (n := 11) (S := fun w' => True) (ds := []) #[false, false, false, false, false, false, false, false, false, false, false] (by kernel_rfl) rfl rfl trivial (fun hHeld => ?_); refine with_tabW postriderref06_Num.tab3 postriderref06_Num.bits3 (fun HT_ HW_ => ?_)
            generalize w.drew = w12 at HB hHeld ⊢
            refine pure_ (i := 0) (N := some 9) (v := ?_) (a' := ?_) #[true, false, false, false, false, false, false, false, false, false, false] rfl rfl (any_of HT_.out (by kernel_rfl)) (fun _ _ _ h => h) (Or.inl ⟨by rfl, ?_⟩) ?_ ?_
            rotate_left
            · intro w'
              go_simp
              with_reducible rfl
            rotate_left
            · simp only [Act.put, List.setIfInBounds_toArray, List.set_cons_zero, List.set_cons_succ, i64_w, i32_w]
              rfl
            refine pure_ (i := 1) (N := some 10) (v := ?_) (a' := ?_) #[true, true, false, false, false, false, false, false, false, false, false] rfl rfl (any_of HT_.out (by kernel_rfl)) (fun _ _ _ h => h) (Or.inl ⟨by rfl, ?_⟩) ?_ ?_
            rotate_left
            · intro w'
              go_simp
              with_reducible rfl
            rotate_left
            · simp only [Act.put, List.setIfInBounds_toArray, List.set_cons_zero, List.set_cons_succ, i64_w, i32_w]
              rfl
            refine pure_ (i := 3) (N := some 12) (v := ?_) (a' := ?_) #[true, true, false, true, false, false, false, false, false, false, false] rfl rfl (any_of HT_.out (by kernel_rfl)) (fun _ _ _ h => h) (Or.inl ⟨by rfl, ?_⟩) ?_ ?_
            rotate_left
            · intro w'
              go_simp
              with_reducible rfl
            rotate_left
            · simp only [Act.put, List.setIfInBounds_toArray, List.set_cons_zero, List.set_cons_succ, i64_w, i32_w]
              rfl
            refine pure_ (i := 4) (N := some 13) (v := ?_) (a' := ?_) #[true, true, false, true, true, false, false, false, false, false, false] rfl rfl (any_of HT_.out (by kernel_rfl)) (fun _ _ _ h => h) (Or.inl ⟨by rfl, ?_⟩) ?_ ?_
            rotate_left
            · intro w'
              go_simp
              with_reducible rfl
            rotate_left
            · simp only [Act.put, List.setIfInBounds_toArray, List.set_cons_zero, List.set_cons_succ, i64_w, i32_w]
              rfl
            refine pure_ (i := 5) (N := some 14) (v := ?_) (a' := ?_) #[true, true, false, true, true, true, false, false, false, false, false] rfl rfl (any_of HT_.out (by kernel_rfl)) (fun _ _ _ h => h) (Or.inl ⟨by rfl, ?_⟩) ?_ ?_
            rotate_left
            · intro w'
              go_simp
              with_reducible rfl
            rotate_left
            · simp only [Act.put, List.setIfInBounds_toArray, List.set_cons_zero, List.set_cons_succ, i64_w, i32_w]
              rfl
            refine pure_ (i := 6) (N := some 15) (v := ?_) (a' := ?_) #[true, true, false, true, true, true, true, false, false, false, false] rfl rfl (any_of HT_.out (by kernel_rfl)) (fun _ _ _ h => h) (Or.inl ⟨by rfl, ?_⟩) ?_ ?_
            rotate_left
            · intro w'
              go_simp
              with_reducible rfl
            rotate_left
            · simp only [Act.put, List.setIfInBounds_toArray, List.set_cons_zero, List.set_cons_succ, i64_w, i32_w]
              rfl
            refine pure_ (i := 7) (N := some 16) (v := ?_) (a' := ?_) #[true, true, false, true, true, true, true, true, false, false, false] rfl rfl (any_of HT_.out (by kernel_rfl)) (fun _ _ _ h => h) (Or.inl ⟨by rfl, ?_⟩) ?_ ?_
            rotate_left
            · intro w'
              go_simp
              with_reducible rfl
            rotate_left
            · simp only [Act.put, List.setIfInBounds_toArray, List.set_cons_zero, List.set_cons_succ, i64_w, i32_w]
              rfl
            refine pure_ (i := 8) (N := some 17) (v := ?_) (a' := ?_) #[true, true, false, true, true, true, true, true, true, false, false] rfl rfl (any_of HT_.out (by kernel_rfl)) (fun _ _ _ h => h) (Or.inl ⟨by rfl, ?_⟩) ?_ ?_
            rotate_left
            · intro w'
              go_simp
              with_reducible rfl
            rotate_left
            · simp only [Act.put, List.setIfInBounds_toArray, List.set_cons_zero, List.set_cons_succ, i64_w, i32_w]
              rfl
            refine one_ (i := 2) (N := some 11) #[true, true, true, true, true, true, true, true, true, false, false] rfl rfl (one_of HT_.out (by kernel_rfl)) (by decide) (fun K hK => ?_)
            refine goes_ Tryz.func44 (by kernel_rfl) rfl #[.int .i64 (wrap64 (Int.tdiv a0 10))] (by rfl) rfl rfl (by (try simp only [List.map_toArray, List.map_cons, List.map_nil]); first | done | rfl | (simp only [List.length_drop, List.length_take]; rfl)) ?_
            with_reducible refine (ih k (by omega) (wrap64 (Int.tdiv a0 10)) t104 _ A6.out).mono ?_
            rintro e w13 ⟨rfl, hb⟩
            refine ⟨_, rfl, ?_⟩
            have n0_ := Aside0.mk (below_step (by repeat (first | (with_reducible first | exact HB.out | apply below_alloc | apply pw_below_drewN | apply below_drew1) | exact HB.out)) hb)
            clear HB
            have HB := n0_
            clear n0_
            (try clear hb)
            (try clear hb2)
            (try clear hk)
            (try clear hi)
            refine hK.out _ _ trivial (fun hHeld => ?_)
            clear hK K
            refine norm_ (a' := ?_) ?_ ?_
            rotate_left
            · show Act.put _ (some 11) _ = _
              simp only [Act.put, List.setIfInBounds_toArray, List.set_cons_zero, List.set_cons_succ, i64_w, i32_w]
              rfl
            refine pure_ (i := 9) (N := some 18) (v := ?_) (a' := ?_) #[true, true, true, true, true, true, true, true, true, true, false] rfl rfl (any_of HT_.out (by kernel_rfl)) (fun _ _ _ h => h) (Or.inl ⟨by rfl, ?_⟩) ?_ ?_
            rotate_left
            · intro w'
              go_simp
              with_reducible rfl
            rotate_left
            · simp only [Act.put, List.setIfInBounds_toArray, List.set_cons_zero, List.set_cons_succ, i64_w, i32_w]
              rfl
            refine pure_ (i := 10) (N := some 2) (v := ?_) (a' := ?_) #[true, true, true, true, true, true, true, true, true, true, true] rfl rfl (any_of HT_.out (by kernel_rfl)) (fun _ _ _ h => h) (Or.inl ⟨by rfl, ?_⟩) ?_ ?_
            rotate_left
            · intro w'
              go_simp
              with_reducible rfl
            rotate_left
            · simp only [Act.put, List.setIfInBounds_toArray, List.set_cons_zero, List.set_cons_succ, i64_w, i32_w]
              rfl
            refine done_ (done_of HT_.out (by kernel_rfl)) ?_
            try go_wp2
            all_goals (first | (go_ret; exact ⟨by first | rfl | (simp [errW_none, errW_some] <;> rfl) | (simp only [← hji7]; first | rfl | (simp [errW_none, errW_some] <;> rfl)) | (simp [*, errW_none, errW_some] <;> rfl) | (simp_all; done) | fail, by repeat (first | (with_reducible first | exact HB.out | apply below_alloc | apply pw_below_drewN | apply below_drew1) | exact HB.out)⟩) | (exfalso; simp_all; done) | (exfalso; simp only [isEmpty_eq, isEmpty_ne] at *; simp_all; done) | (exfalso; exact isEmpty_clash (by assumption) (by assumption)) | (exfalso; exact isEmpty_clash' (by assumption) (by assumption)) | (exfalso; exact isEmpty_clash2 (by assumption) (by assumption)))
          · rw [if_neg c11] at H
            exact absurd H (by simp)
        · rw [if_neg c10] at H
          exact absurd H (by simp)
      · rw [if_neg c9] at H
        exact absurd H (by simp)
    · rw [if_neg c8] at H
      exact absurd H (by simp)
def postriderref06_Halves.f (k : Nat) (a0_0 : Int) (a0_1 : ByteArray) (a0_2 : ByteArray) (a0_3 : Int) (a0_4 : Int) : Option (ByteArray × ByteArray × Int) := (postriderref06_Right.f k a0_0 a0_1 a0_2 a0_3 a0_4).bind fun t106 => (if t106 = true then (if a0_0 = 1 then (if 2 + a0_1.size ≤ 9223372036854775807 then (if 2 + a0_1.size + 1 ≤ 9223372036854775807 then (if 2 + a0_1.size + 1 + a0_2.size ≤ 9223372036854775807 then (some ((⟨#[100, 116, 110]⟩ : ByteArray), (((⟨#[47, 47]⟩ : ByteArray) ++ a0_1) ++ (⟨#[47]⟩ : ByteArray)) ++ a0_2, 0)) else (none)) else (none)) else (none)) else (if a0_0 = 2 then ((postriderref06_Num.f k a0_3).bind fun t107 => (if t107.size + 1 ≤ 9223372036854775807 then ((postriderref06_Num.f k a0_4).bind fun t108 => (if t107.size + 1 + t108.size ≤ 9223372036854775807 then (some ((⟨#[105, 112, 110]⟩ : ByteArray), (t107 ++ (⟨#[46]⟩ : ByteArray)) ++ t108, 0)) else (none))) else (none))) else (some ((⟨#[100, 116, 110]⟩ : ByteArray), (⟨#[110, 111, 110, 101]⟩ : ByteArray), 0)))) else (some ((⟨#[]⟩ : ByteArray), (⟨#[]⟩ : ByteArray), 60)))
theorem postriderref06_Halves.mono : ∀ a0 a1 a2 a3 a4 k, LeO (postriderref06_Halves.f k a0 a1 a2 a3 a4) (postriderref06_Halves.f (k + 1) a0 a1 a2 a3 a4) := by
  intro a0 a1 a2 a3 a4 k
  unfold postriderref06_Halves.f
  repeat' first
      | (with_reducible exact postriderref06_Num.mono _ _)
      | (with_reducible exact postriderref06_Right.mono _ _ _ _ _ _)
      | (with_reducible exact LeO.refl _)
      | (with_reducible exact LeO.none _)
      | (with_reducible refine LeO.ite ?_ ?_)
      | (with_reducible refine LeO.bind ?_ (fun _ => ?_))
      | exact postriderref06_Num.mono _ _
      | exact postriderref06_Right.mono _ _ _ _ _ _
      | exact LeO.none _
      | refine LeO.ite ?_ ?_
      | refine LeO.bind ?_ (fun _ => ?_)
def postriderref06_Halves.T5 : Bool × List (List Nat × List Nat) := (true, [([], []), ([0], [0]), ([1], [1]), ([2], [2]), ([], []), ([4], [4]), ([3, 5], [3, 5]), ([], []), ([6, 7, 0, 1, 2, 3, 4, 5, 6, 7], [6]), ([8, 0, 1, 2, 3, 4, 5, 6, 7, 8], [])])
def postriderref06_Halves.B5 : List Nat := [0, 1, 3, 7, 0, 16, 63, 0, 255, 511]
theorem postriderref06_Halves.tab5 : rtab .any (opsOf Tryz.f27 5) = postriderref06_Halves.T5 := by kernel_rfl
theorem postriderref06_Halves.bits5 : waitsOk postriderref06_Halves.T5.2 postriderref06_Halves.B5 = true := by kernel_rfl
def postriderref06_Halves.T7 : Bool × List (List Nat × List Nat) := (true, [([], []), ([0], [0]), ([1], [1]), ([2], [2]), ([], []), ([4], [4]), ([5, 2], [5]), ([3, 6], [3, 6]), ([6], []), ([7, 8, 0, 1, 2, 3, 4, 5, 6, 7, 8], [7]), ([9, 0, 1, 2, 3, 4, 5, 6, 7, 8, 9], [])])
def postriderref06_Halves.B7 : List Nat := [0, 1, 3, 7, 0, 16, 55, 127, 119, 511, 1023]
theorem postriderref06_Halves.tab7 : rtab .any (opsOf Tryz.f27 7) = postriderref06_Halves.T7 := by kernel_rfl
theorem postriderref06_Halves.bits7 : waitsOk postriderref06_Halves.T7.2 postriderref06_Halves.B7 = true := by kernel_rfl
set_option maxHeartbeats 8000000 in
set_option maxRecDepth 100000 in
theorem postriderref06_Halves.calls (k : Nat) (a0_0 : Int) (a0_1 : ByteArray) (a0_2 : ByteArray) (a0_3 : Int) (a0_4 : Int) (r1 : ByteArray) (r2 : ByteArray) (r3 : Int) (w : World) (h : postriderref06_Halves.f k a0_0 a0_1 a0_2 a0_3 a0_4 = some (r1, r2, r3)) :
    Calls Tryz.prog 27 #[.agg #[.int .i64 a0_0, .string a0_1, .string a0_2, .int .i64 a0_3, .int .i64 a0_4]] w fun e w' => e = .returned (.tuple #[.string r1, .string r2, .int .i64 r3]) ∧ Below w.heap.size w w' := by
  have hu41 := Tryz.underlying41
  have HB := Aside0.mk (Below.refl w.heap.size w)
  have H : ((postriderref06_Right.f k a0_0 a0_1 a0_2 a0_3 a0_4).bind fun t106 => (if t106 = true then (if a0_0 = 1 then (if 2 + a0_1.size ≤ 9223372036854775807 then (if 2 + a0_1.size + 1 ≤ 9223372036854775807 then (if 2 + a0_1.size + 1 + a0_2.size ≤ 9223372036854775807 then (some ((⟨#[100, 116, 110]⟩ : ByteArray), (((⟨#[47, 47]⟩ : ByteArray) ++ a0_1) ++ (⟨#[47]⟩ : ByteArray)) ++ a0_2, 0)) else (none)) else (none)) else (none)) else (if a0_0 = 2 then ((postriderref06_Num.f k a0_3).bind fun t107 => (if t107.size + 1 ≤ 9223372036854775807 then ((postriderref06_Num.f k a0_4).bind fun t108 => (if t107.size + 1 + t108.size ≤ 9223372036854775807 then (some ((⟨#[105, 112, 110]⟩ : ByteArray), (t107 ++ (⟨#[46]⟩ : ByteArray)) ++ t108, 0)) else (none))) else (none))) else (some ((⟨#[100, 116, 110]⟩ : ByteArray), (⟨#[110, 111, 110, 101]⟩ : ByteArray), 0)))) else (some ((⟨#[]⟩ : ByteArray), (⟨#[]⟩ : ByteArray), 60)))) = some (r1, r2, r3) := h
  clear h
  replace H := Option.bind_eq_some_iff.mp H
  obtain ⟨t106, A20, H⟩ := H
  replace H : (if t106 = true then (if a0_0 = 1 then (if 2 + a0_1.size ≤ 9223372036854775807 then (if 2 + a0_1.size + 1 ≤ 9223372036854775807 then (if 2 + a0_1.size + 1 + a0_2.size ≤ 9223372036854775807 then (some ((⟨#[100, 116, 110]⟩ : ByteArray), (((⟨#[47, 47]⟩ : ByteArray) ++ a0_1) ++ (⟨#[47]⟩ : ByteArray)) ++ a0_2, 0)) else (none)) else (none)) else (none)) else (if a0_0 = 2 then ((postriderref06_Num.f k a0_3).bind fun t107 => (if t107.size + 1 ≤ 9223372036854775807 then ((postriderref06_Num.f k a0_4).bind fun t108 => (if t107.size + 1 + t108.size ≤ 9223372036854775807 then (some ((⟨#[105, 112, 110]⟩ : ByteArray), (t107 ++ (⟨#[46]⟩ : ByteArray)) ++ t108, 0)) else (none))) else (none))) else (some ((⟨#[100, 116, 110]⟩ : ByteArray), (⟨#[110, 111, 110, 101]⟩ : ByteArray), 0)))) else (some ((⟨#[]⟩ : ByteArray), (⟨#[]⟩ : ByteArray), 60))) = some (r1, r2, r3) := H
  have A2 := Aside0.mk A20
  clear A20
  by_cases c3 : t106 = true
  · subst c3
    have H1 : (if a0_0 = 1 then (if 2 + a0_1.size ≤ 9223372036854775807 then (if 2 + a0_1.size + 1 ≤ 9223372036854775807 then (if 2 + a0_1.size + 1 + a0_2.size ≤ 9223372036854775807 then (some ((⟨#[100, 116, 110]⟩ : ByteArray), (((⟨#[47, 47]⟩ : ByteArray) ++ a0_1) ++ (⟨#[47]⟩ : ByteArray)) ++ a0_2, 0)) else (none)) else (none)) else (none)) else (if a0_0 = 2 then ((postriderref06_Num.f k a0_3).bind fun t107 => (if t107.size + 1 ≤ 9223372036854775807 then ((postriderref06_Num.f k a0_4).bind fun t108 => (if t107.size + 1 + t108.size ≤ 9223372036854775807 then (some ((⟨#[105, 112, 110]⟩ : ByteArray), (t107 ++ (⟨#[46]⟩ : ByteArray)) ++ t108, 0)) else (none))) else (none))) else (some ((⟨#[100, 116, 110]⟩ : ByteArray), (⟨#[110, 111, 110, 101]⟩ : ByteArray), 0)))) = some (r1, r2, r3) := by rw [if_pos rfl] at H; exact H
    clear H
    have H := H1
    clear H1
    by_cases c4 : a0_0 = 1
    · rw [if_pos c4] at H
      have c4b0 : (a0_0 == 1) = true := beq_iff_eq.mpr c4
      have c4b1 : (a0_0 != 1) = false := bne_eq_false_iff_eq.mpr c4
      clear c4
      by_cases c5 : 2 + a0_1.size ≤ 9223372036854775807
      · rw [if_pos c5] at H
        have c5b0 := eq_true c5
        have c5b1 : decide (2 + a0_1.size ≤ 9223372036854775807) = true := decide_eq_true c5
        try have c5b2 : (9223372036854775807 < 2 + a0_1.size) = False := eq_false (Nat.not_lt.2 c5)
        by_cases c6 : 2 + a0_1.size + 1 ≤ 9223372036854775807
        · rw [if_pos c6] at H
          have c6b0 := eq_true c6
          have c6b1 : decide (2 + a0_1.size + 1 ≤ 9223372036854775807) = true := decide_eq_true c6
          try have c6b2 : (9223372036854775807 < 2 + a0_1.size + 1) = False := eq_false (Nat.not_lt.2 c6)
          by_cases c7 : 2 + a0_1.size + 1 + a0_2.size ≤ 9223372036854775807
          · rw [if_pos c7] at H
            have c7b0 := eq_true c7
            have c7b1 : decide (2 + a0_1.size + 1 + a0_2.size ≤ 9223372036854775807) = true := decide_eq_true c7
            try have c7b2 : (9223372036854775807 < 2 + a0_1.size + 1 + a0_2.size) = False := eq_false (Nat.not_lt.2 c7)
            simp only [Option.some.injEq, Prod.mk.injEq] at H
            obtain ⟨rfl, rfl, rfl⟩ := H
            go_enter Tryz.func27, Tryz.ntmps27
            try go_wp2_with (first | ((with_reducible refine gate_dst (N := 1) rfl ?_); refine box_event ?hg (N := 1) ?hd (cs := #[.int .i64 a0_0, .string a0_1, .string a0_2, .int .i64 a0_3, .int .i64 a0_4]) (t := 41) ?hr ?_; (case hd => rfl); (case hg => rfl); (case hr => first | (go_simp; done) | (go_simp; rfl) | (go_simp; simp only [isEmpty_ne, isEmpty_eq]; done) | (go_simp; simp only [isEmpty_ne, isEmpty_eq]; rfl)); intro gb105 hg w8 hbox hb; have n0_ := Aside0.mk (below_step (by repeat (first | (with_reducible first | exact HB.out | apply below_alloc | apply pw_below_drewN | apply below_drew1) | exact HB.out)) hb); have n1_ := Aside0.mk (hbox); have n2_ := Aside0.mk ((by rw [hg]; exact (below_size (by repeat (first | (with_reducible first | exact HB.out | apply below_alloc | apply pw_below_drewN | apply below_drew1) | exact HB.out))) : w.heap.size ≤ gb105)); have n3_ := Aside0.mk ((by rw [hg]; exact (below_size (by repeat (first | (with_reducible first | exact HB.out | apply below_alloc | apply pw_below_drewN | apply below_drew1) | exact HB.out))) : w.heap.size ≤ gb105)); clear HB; have HB := n0_; have BK105 := n1_; have GW105 := n2_; have GE105 := n3_; clear n0_ n1_ n2_ n3_; clear hb hbox hg; have hcz9_0 : w8.cell? ⟨gb105, 0, none⟩ = some (.int .i64 a0_0) := (blk_cell BK105.out 0).trans rfl; have hcz9_1 : w8.cell? ⟨gb105, 1, none⟩ = some (.string a0_1) := (blk_cell BK105.out 1).trans rfl; have hcz9_2 : w8.cell? ⟨gb105, 2, none⟩ = some (.string a0_2) := (blk_cell BK105.out 2).trans rfl; have hcz9_3 : w8.cell? ⟨gb105, 3, none⟩ = some (.int .i64 a0_3) := (blk_cell BK105.out 3).trans rfl; have hcz9_4 : w8.cell? ⟨gb105, 4, none⟩ = some (.int .i64 a0_4) := (blk_cell BK105.out 4).trans rfl; have hfz9_0 := blk_frozen BK105.out 0; have hfz9_1 := blk_frozen BK105.out 1; have hfz9_2 := blk_frozen BK105.out 2; have hfz9_3 := blk_frozen BK105.out 3; have hfz9_4 := blk_frozen BK105.out 4) | ((with_reducible refine gate_callee (f := 26) rfl ?_); refine goesL_ (some 6) rfl rfl Tryz.func26 (by kernel_rfl) rfl #[.agg #[.int .i64 a0_0, .string a0_1, .string a0_2, .int .i64 a0_3, .int .i64 a0_4]] rfl (by (try simp only [List.map_toArray, List.map_cons, List.map_nil]); first | done | rfl | (simp only [List.length_drop, List.length_take]; rfl)) ?_; (with_reducible refine (postriderref06_Right.calls k a0_0 a0_1 a0_2 a0_3 a0_4 true _ A2.out).mono ?_); rintro e w10 ⟨rfl, hb⟩; refine ⟨_, rfl, ?_⟩; have n0_ := Aside0.mk (blk_below (g := gb105) (o := .cells #[.int .i64 a0_0, .string a0_1, .string a0_2, .int .i64 a0_3, .int .i64 a0_4] 41 (0, 0)) (by (with_reducible repeat (first | refine blk_drewN ?_ _ | refine blk_drew ?_ | refine blk_alloc ?_ _)); exact BK105.out) hb); have n1_ := Aside0.mk (below_step (by repeat (first | (with_reducible first | exact HB.out | apply below_alloc | apply pw_below_drewN | apply below_drew1 | refine below_set ?_ GE105.out) | exact HB.out)) hb); clear BK105; clear HB; have BK105 := n0_; have HB := n1_; clear n0_ n1_; (try clear hb); (try clear hb2); (try clear hk); (try clear hi); have hcz11_0 : w10.cell? ⟨gb105, 0, none⟩ = some (.int .i64 a0_0) := (blk_cell BK105.out 0).trans rfl; have hcz11_1 : w10.cell? ⟨gb105, 1, none⟩ = some (.string a0_1) := (blk_cell BK105.out 1).trans rfl; have hcz11_2 : w10.cell? ⟨gb105, 2, none⟩ = some (.string a0_2) := (blk_cell BK105.out 2).trans rfl; have hcz11_3 : w10.cell? ⟨gb105, 3, none⟩ = some (.int .i64 a0_3) := (blk_cell BK105.out 3).trans rfl; have hcz11_4 : w10.cell? ⟨gb105, 4, none⟩ = some (.int .i64 a0_4) := (blk_cell BK105.out 4).trans rfl; have hfz11_0 := blk_frozen BK105.out 0; have hfz11_1 := blk_frozen BK105.out 1; have hfz11_2 := blk_frozen BK105.out 2; have hfz11_3 := blk_frozen BK105.out 3; have hfz11_4 := blk_frozen BK105.out 4))
            have n0_ := Aside0.mk (blk_drew BK105.out)
            have n1_ := Aside0.mk (below_drew1 HB.out)
            clear BK105
            clear HB
            have BK105 := n0_
            have HB := n1_
            clear n0_ n1_
            refine start_ (n := 10) (S := fun w' => w'.cell? ⟨gb105, 0, none⟩ = some (.int .i64 a0_0) ∧ w'.cell? ⟨gb105, 1, none⟩ = some (.string a0_1) ∧ w'.cell? ⟨gb105, 2, none⟩ = some (.string a0_2) ∧ w'.cell? ⟨gb105, 3, none⟩ = some (.int .i64 a0_3) ∧ w'.cell? ⟨gb105, 4, none⟩ = some (.int .i64 a0_4)) (ds := []) #[false, false, false, false, false, false, false, false, false, false] (by kernel_rfl) rfl rfl ⟨(blk_cell BK105.out 0).trans rfl, (blk_cell BK105.out 1).trans rfl, (blk_cell BK105.out 2).trans rfl, (blk_cell BK105.out 3).trans rfl, (blk_cell BK105.out 4).trans rfl⟩ (fun hHeld => ?_); refine with_tabW postriderref06_Halves.tab5 postriderref06_Halves.bits5 (fun HT_ HW_ => ?_)
            generalize w10.drew = w12 at BK105 HB hHeld ⊢
            refine pure_ (i := 0) (N := some 12) (v := ?_) (a' := ?_) #[true, false, false, false, false, false, false, false, false, false] rfl rfl (any_of HT_.out (by kernel_rfl)) (fun _ _ _ h => h) (Or.inl ⟨by rfl, ?_⟩) ?_ ?_
            rotate_left
            · intro w'
              go_simp
              with_reducible rfl
            rotate_left
            · simp only [Act.put, List.setIfInBounds_toArray, List.set_cons_zero, List.set_cons_succ, i64_w, i32_w]
              rfl
            refine pure_ (i := 4) (N := some 16) (v := ?_) (a' := ?_) #[true, false, false, false, true, false, false, false, false, false] rfl rfl (any_of HT_.out (by kernel_rfl)) (fun _ _ _ h => h) (Or.inl ⟨by rfl, ?_⟩) ?_ ?_
            rotate_left
            · intro w'
              go_simp
              with_reducible rfl
            rotate_left
            · simp only [Act.put, List.setIfInBounds_toArray, List.set_cons_zero, List.set_cons_succ, i64_w, i32_w]
              rfl
            refine pure_ (i := 7) (N := some 2) (v := ?_) (a' := ?_) #[true, false, false, false, true, false, false, true, false, false] rfl rfl (any_of HT_.out (by kernel_rfl)) (fun _ _ _ h => h) (Or.inl ⟨by rfl, ?_⟩) ?_ ?_
            rotate_left
            · intro w'
              go_simp
              with_reducible rfl
            rotate_left
            · simp only [Act.put, List.setIfInBounds_toArray, List.set_cons_zero, List.set_cons_succ, i64_w, i32_w]
              rfl
            refine take_ (i := 1) (N := some 13) (v := ?_) (a' := ?_) #[true, true, false, false, true, false, false, true, false, false] rfl rfl (take_ofW HT_.out HW_.out (by kernel_rfl)) (fun _ _ _ h => h) (Or.inl ⟨by rfl, ?_⟩) hHeld ?_ ?_
            rotate_left
            · rintro w' ⟨s0, s1, s2, s3, s4⟩
              go_simp
              with_reducible rfl
            rotate_left
            · simp only [Act.put, List.setIfInBounds_toArray, List.set_cons_zero, List.set_cons_succ, i64_w, i32_w]
              rfl
            refine pure_ (i := 2) (N := some 14) (v := ?_) (a' := ?_) #[true, true, true, false, true, false, false, true, false, false] rfl rfl (any_of HT_.out (by kernel_rfl)) (fun _ _ _ h => h) (Or.inl ⟨by rfl, ?_⟩) ?_ ?_
            rotate_left
            · intro w'
              go_simp
              with_reducible rfl
            rotate_left
            · simp only [Act.put, List.setIfInBounds_toArray, List.set_cons_zero, List.set_cons_succ, i64_w, i32_w]
              rfl
            refine pure_ (i := 3) (N := some 15) (v := ?_) (a' := ?_) #[true, true, true, true, true, false, false, true, false, false] rfl rfl (any_of HT_.out (by kernel_rfl)) (fun _ _ _ h => h) (Or.inl ⟨by rfl, ?_⟩) ?_ ?_
            rotate_left
            · intro w'
              go_simp
              with_reducible rfl
            rotate_left
            · simp only [Act.put, List.setIfInBounds_toArray, List.set_cons_zero, List.set_cons_succ, i64_w, i32_w]
              rfl
            refine take_ (i := 5) (N := some 17) (v := ?_) (a' := ?_) #[true, true, true, true, true, true, false, true, false, false] rfl rfl (take_ofW HT_.out HW_.out (by kernel_rfl)) (fun _ _ _ h => h) (Or.inl ⟨by rfl, ?_⟩) hHeld ?_ ?_
            rotate_left
            · rintro w' ⟨s0, s1, s2, s3, s4⟩
              go_simp
              with_reducible rfl
            rotate_left
            · simp only [Act.put, List.setIfInBounds_toArray, List.set_cons_zero, List.set_cons_succ, i64_w, i32_w]
              rfl
            refine pure_ (i := 6) (N := some 18) (v := ?_) (a' := ?_) #[true, true, true, true, true, true, true, true, false, false] rfl rfl (any_of HT_.out (by kernel_rfl)) (fun _ _ _ h => h) (Or.inl ⟨by rfl, ?_⟩) ?_ ?_
            rotate_left
            · intro w'
              go_simp
              with_reducible rfl
            rotate_left
            · simp only [Act.put, List.setIfInBounds_toArray, List.set_cons_zero, List.set_cons_succ, i64_w, i32_w]
              rfl
            refine pure_ (i := 8) (N := some 3) (v := ?_) (a' := ?_) #[true, true, true, true, true, true, true, true, true, false] rfl rfl (any_of HT_.out (by kernel_rfl)) (fun _ _ _ h => h) (Or.inl ⟨by rfl, ?_⟩) ?_ ?_
            rotate_left
            · intro w'
              go_simp
              with_reducible rfl
            rotate_left
            · simp only [Act.put, List.setIfInBounds_toArray, List.set_cons_zero, List.set_cons_succ, i64_w, i32_w]
              rfl
            refine pure_ (i := 9) (N := some 4) (v := ?_) (a' := ?_) #[true, true, true, true, true, true, true, true, true, true] rfl rfl (any_of HT_.out (by kernel_rfl)) (fun _ _ _ h => h) (Or.inl ⟨by rfl, ?_⟩) ?_ ?_
            rotate_left
            · intro w'
              go_simp
              with_reducible rfl
            rotate_left
            · simp only [Act.put, List.setIfInBounds_toArray, List.set_cons_zero, List.set_cons_succ, i64_w, i32_w]
              rfl
            refine done_ (done_of HT_.out (by kernel_rfl)) ?_
            try go_wp2
            all_goals (first | (go_ret3; exact ⟨by first | rfl | (simp [errW_none, errW_some] <;> rfl) | (simp [*, errW_none, errW_some] <;> rfl) | (simp_all; done) | fail, by repeat (first | (with_reducible first | exact HB.out | apply below_alloc | apply pw_below_drewN | apply below_drew1 | refine below_set ?_ GE105.out) | exact HB.out)⟩) | (exfalso; simp_all; done) | (exfalso; simp only [isEmpty_eq, isEmpty_ne] at *; simp_all; done) | (exfalso; exact isEmpty_clash (by assumption) (by assumption)) | (exfalso; exact isEmpty_clash' (by assumption) (by assumption)) | (exfalso; exact isEmpty_clash2 (by assumption) (by assumption)))
          · rw [if_neg c7] at H
            exact absurd H (by simp)
        · rw [if_neg c6] at H
          exact absurd H (by simp)
      · rw [if_neg c5] at H
        exact absurd H (by simp)
    · rw [if_neg c4] at H
      have c4b0 : (a0_0 == 1) = false := beq_eq_false_iff_ne.mpr c4
      have c4b1 : (a0_0 != 1) = true := bne_iff_ne.mpr c4
      by_cases c13 : a0_0 = 2
      · rw [if_pos c13] at H
        have c13b0 : (a0_0 == 2) = true := beq_iff_eq.mpr c13
        have c13b1 : (a0_0 != 2) = false := bne_eq_false_iff_eq.mpr c13
        clear c13
        replace H := Option.bind_eq_some_iff.mp H
        obtain ⟨t107, A140, H⟩ := H
        replace H : (if t107.size + 1 ≤ 9223372036854775807 then ((postriderref06_Num.f k a0_4).bind fun t108 => (if t107.size + 1 + t108.size ≤ 9223372036854775807 then (some ((⟨#[105, 112, 110]⟩ : ByteArray), (t107 ++ (⟨#[46]⟩ : ByteArray)) ++ t108, 0)) else (none))) else (none)) = some (r1, r2, r3) := H
        have A14 := Aside0.mk A140
        clear A140
        by_cases c15 : t107.size + 1 ≤ 9223372036854775807
        · rw [if_pos c15] at H
          have c15b0 := eq_true c15
          have c15b1 : decide (t107.size + 1 ≤ 9223372036854775807) = true := decide_eq_true c15
          try have c15b2 : (9223372036854775807 < t107.size + 1) = False := eq_false (Nat.not_lt.2 c15)
          replace H := Option.bind_eq_some_iff.mp H
          obtain ⟨t108, A160, H⟩ := H
          replace H : (if t107.size + 1 + t108.size ≤ 9223372036854775807 then (some ((⟨#[105, 112, 110]⟩ : ByteArray), (t107 ++ (⟨#[46]⟩ : ByteArray)) ++ t108, 0)) else (none)) = some (r1, r2, r3) := H
          have A16 := Aside0.mk A160
          clear A160
          by_cases c17 : t107.size + 1 + t108.size ≤ 9223372036854775807
          · rw [if_pos c17] at H
            have c17b0 := eq_true c17
            have c17b1 : decide (t107.size + 1 + t108.size ≤ 9223372036854775807) = true := decide_eq_true c17
            try have c17b2 : (9223372036854775807 < t107.size + 1 + t108.size) = False := eq_false (Nat.not_lt.2 c17)
            simp only [Option.some.injEq, Prod.mk.injEq] at H
            obtain ⟨rfl, rfl, rfl⟩ := H
            go_enter Tryz.func27, Tryz.ntmps27
            try go_wp2_with (first | ((with_reducible refine gate_dst (N := 1) rfl ?_); refine box_event ?hg (N := 1) ?hd (cs := #[.int .i64 a0_0, .string a0_1, .string a0_2, .int .i64 a0_3, .int .i64 a0_4]) (t := 41) ?hr ?_; (case hd => rfl); (case hg => rfl); (case hr => first | (go_simp; done) | (go_simp; rfl) | (go_simp; simp only [isEmpty_ne, isEmpty_eq]; done) | (go_simp; simp only [isEmpty_ne, isEmpty_eq]; rfl)); intro gb105 hg w18 hbox hb; have n0_ := Aside0.mk (below_step (by repeat (first | (with_reducible first | exact HB.out | apply below_alloc | apply pw_below_drewN | apply below_drew1) | exact HB.out)) hb); have n1_ := Aside0.mk (hbox); have n2_ := Aside0.mk ((by rw [hg]; exact (below_size (by repeat (first | (with_reducible first | exact HB.out | apply below_alloc | apply pw_below_drewN | apply below_drew1) | exact HB.out))) : w.heap.size ≤ gb105)); have n3_ := Aside0.mk ((by rw [hg]; exact (below_size (by repeat (first | (with_reducible first | exact HB.out | apply below_alloc | apply pw_below_drewN | apply below_drew1) | exact HB.out))) : w.heap.size ≤ gb105)); clear HB; have HB := n0_; have BK105 := n1_; have GW105 := n2_; have GE105 := n3_; clear n0_ n1_ n2_ n3_; clear hb hbox hg; have hcz19_0 : w18.cell? ⟨gb105, 0, none⟩ = some (.int .i64 a0_0) := (blk_cell BK105.out 0).trans rfl; have hcz19_1 : w18.cell? ⟨gb105, 1, none⟩ = some (.string a0_1) := (blk_cell BK105.out 1).trans rfl; have hcz19_2 : w18.cell? ⟨gb105, 2, none⟩ = some (.string a0_2) := (blk_cell BK105.out 2).trans rfl; have hcz19_3 : w18.cell? ⟨gb105, 3, none⟩ = some (.int .i64 a0_3) := (blk_cell BK105.out 3).trans rfl; have hcz19_4 : w18.cell? ⟨gb105, 4, none⟩ = some (.int .i64 a0_4) := (blk_cell BK105.out 4).trans rfl; have hfz19_0 := blk_frozen BK105.out 0; have hfz19_1 := blk_frozen BK105.out 1; have hfz19_2 := blk_frozen BK105.out 2; have hfz19_3 := blk_frozen BK105.out 3; have hfz19_4 := blk_frozen BK105.out 4) | ((with_reducible refine gate_callee (f := 26) rfl ?_); refine goesL_ (some 6) rfl rfl Tryz.func26 (by kernel_rfl) rfl #[.agg #[.int .i64 a0_0, .string a0_1, .string a0_2, .int .i64 a0_3, .int .i64 a0_4]] rfl (by (try simp only [List.map_toArray, List.map_cons, List.map_nil]); first | done | rfl | (simp only [List.length_drop, List.length_take]; rfl)) ?_; (with_reducible refine (postriderref06_Right.calls k a0_0 a0_1 a0_2 a0_3 a0_4 true _ A2.out).mono ?_); rintro e w20 ⟨rfl, hb⟩; refine ⟨_, rfl, ?_⟩; have n0_ := Aside0.mk (blk_below (g := gb105) (o := .cells #[.int .i64 a0_0, .string a0_1, .string a0_2, .int .i64 a0_3, .int .i64 a0_4] 41 (0, 0)) (by (with_reducible repeat (first | refine blk_drewN ?_ _ | refine blk_drew ?_ | refine blk_alloc ?_ _)); exact BK105.out) hb); have n1_ := Aside0.mk (below_step (by repeat (first | (with_reducible first | exact HB.out | apply below_alloc | apply pw_below_drewN | apply below_drew1 | refine below_set ?_ GE105.out) | exact HB.out)) hb); clear BK105; clear HB; have BK105 := n0_; have HB := n1_; clear n0_ n1_; (try clear hb); (try clear hb2); (try clear hk); (try clear hi); have hcz21_0 : w20.cell? ⟨gb105, 0, none⟩ = some (.int .i64 a0_0) := (blk_cell BK105.out 0).trans rfl; have hcz21_1 : w20.cell? ⟨gb105, 1, none⟩ = some (.string a0_1) := (blk_cell BK105.out 1).trans rfl; have hcz21_2 : w20.cell? ⟨gb105, 2, none⟩ = some (.string a0_2) := (blk_cell BK105.out 2).trans rfl; have hcz21_3 : w20.cell? ⟨gb105, 3, none⟩ = some (.int .i64 a0_3) := (blk_cell BK105.out 3).trans rfl; have hcz21_4 : w20.cell? ⟨gb105, 4, none⟩ = some (.int .i64 a0_4) := (blk_cell BK105.out 4).trans rfl; have hfz21_0 := blk_frozen BK105.out 0; have hfz21_1 := blk_frozen BK105.out 1; have hfz21_2 := blk_frozen BK105.out 2; have hfz21_3 := blk_frozen BK105.out 3; have hfz21_4 := blk_frozen BK105.out 4))
            have n0_ := Aside0.mk (blk_drew BK105.out)
            have n1_ := Aside0.mk (below_drew1 HB.out)
            clear BK105
            clear HB
            have BK105 := n0_
            have HB := n1_
            clear n0_ n1_
            refine start_ (n := 11) (S := fun w' => w'.cell? ⟨gb105, 0, none⟩ = some (.int .i64 a0_0) ∧ w'.cell? ⟨gb105, 1, none⟩ = some (.string a0_1) ∧ w'.cell? ⟨gb105, 2, none⟩ = some (.string a0_2) ∧ w'.cell? ⟨gb105, 3, none⟩ = some (.int .i64 a0_3) ∧ w'.cell? ⟨gb105, 4, none⟩ = some (.int .i64 a0_4)) (ds := []) #[false, false, false, false, false, false, false, false, false, false, false] (by kernel_rfl) rfl rfl ⟨(blk_cell BK105.out 0).trans rfl, (blk_cell BK105.out 1).trans rfl, (blk_cell BK105.out 2).trans rfl, (blk_cell BK105.out 3).trans rfl, (blk_cell BK105.out 4).trans rfl⟩ (fun hHeld => ?_); refine with_tabW postriderref06_Halves.tab7 postriderref06_Halves.bits7 (fun HT_ HW_ => ?_)
            generalize w20.drew = w22 at BK105 HB hHeld ⊢
            refine pure_ (i := 0) (N := some 21) (v := ?_) (a' := ?_) #[true, false, false, false, false, false, false, false, false, false, false] rfl rfl (any_of HT_.out (by kernel_rfl)) (fun _ _ _ h => h) (Or.inl ⟨by rfl, ?_⟩) ?_ ?_
            rotate_left
            · intro w'
              go_simp
              with_reducible rfl
            rotate_left
            · simp only [Act.put, List.setIfInBounds_toArray, List.set_cons_zero, List.set_cons_succ, i64_w, i32_w]
              rfl
            refine pure_ (i := 4) (N := some 25) (v := ?_) (a' := ?_) #[true, false, false, false, true, false, false, false, false, false, false] rfl rfl (any_of HT_.out (by kernel_rfl)) (fun _ _ _ h => h) (Or.inl ⟨by rfl, ?_⟩) ?_ ?_
            rotate_left
            · intro w'
              go_simp
              with_reducible rfl
            rotate_left
            · simp only [Act.put, List.setIfInBounds_toArray, List.set_cons_zero, List.set_cons_succ, i64_w, i32_w]
              rfl
            refine take_ (i := 1) (N := some 22) (v := ?_) (a' := ?_) #[true, true, false, false, true, false, false, false, false, false, false] rfl rfl (take_ofW HT_.out HW_.out (by kernel_rfl)) (fun _ _ _ h => h) (Or.inl ⟨by rfl, ?_⟩) hHeld ?_ ?_
            rotate_left
            · rintro w' ⟨s0, s1, s2, s3, s4⟩
              go_simp
              with_reducible rfl
            rotate_left
            · simp only [Act.put, List.setIfInBounds_toArray, List.set_cons_zero, List.set_cons_succ, i64_w, i32_w]
              rfl
            refine take_ (i := 5) (N := some 26) (v := ?_) (a' := ?_) #[true, true, false, false, true, true, false, false, false, false, false] rfl rfl (take_ofW HT_.out HW_.out (by kernel_rfl)) (fun _ _ _ h => h) (Or.inl ⟨by rfl, ?_⟩) hHeld ?_ ?_
            rotate_left
            · rintro w' ⟨s0, s1, s2, s3, s4⟩
              go_simp
              with_reducible rfl
            rotate_left
            · simp only [Act.put, List.setIfInBounds_toArray, List.set_cons_zero, List.set_cons_succ, i64_w, i32_w]
              rfl
            refine one_ (i := 2) (N := some 23) #[true, true, true, false, true, true, false, false, false, false, false] rfl rfl (one_of HT_.out (by kernel_rfl)) (by decide) (fun K hK => ?_)
            refine goes_ Tryz.func44 (by kernel_rfl) rfl #[.int .i64 a0_3] (by rfl) rfl rfl (by (try simp only [List.map_toArray, List.map_cons, List.map_nil]); first | done | rfl | (simp only [List.length_drop, List.length_take]; rfl)) ?_
            with_reducible refine (postriderref06_Num.calls k a0_3 t107 _ A14.out).mono ?_
            rintro e w23 ⟨rfl, hb⟩
            refine ⟨_, rfl, ?_⟩
            have n0_ := Aside0.mk (blk_below (g := gb105) (o := .cells #[.int .i64 a0_0, .string a0_1, .string a0_2, .int .i64 a0_3, .int .i64 a0_4] 41 (0, 0)) (by (with_reducible repeat (first | refine blk_drewN ?_ _ | refine blk_drew ?_ | refine blk_alloc ?_ _)); exact BK105.out) hb)
            have n1_ := Aside0.mk (below_step (by repeat (first | (with_reducible first | exact HB.out | apply below_alloc | apply pw_below_drewN | apply below_drew1 | refine below_set ?_ GE105.out) | exact HB.out)) hb)
            clear BK105
            clear HB
            have BK105 := n0_
            have HB := n1_
            clear n0_ n1_
            (try clear hb)
            (try clear hb2)
            (try clear hk)
            (try clear hi)
            refine hK.out _ _ ⟨(blk_cell BK105.out 0).trans rfl, (blk_cell BK105.out 1).trans rfl, (blk_cell BK105.out 2).trans rfl, (blk_cell BK105.out 3).trans rfl, (blk_cell BK105.out 4).trans rfl⟩ (fun hHeld => ?_)
            clear hK K
            refine norm_ (a' := ?_) ?_ ?_
            rotate_left
            · show Act.put _ (some 23) _ = _
              simp only [Act.put, List.setIfInBounds_toArray, List.set_cons_zero, List.set_cons_succ, i64_w, i32_w]
              rfl
            refine pure_ (i := 3) (N := some 24) (v := ?_) (a' := ?_) #[true, true, true, true, true, true, false, false, false, false, false] rfl rfl (any_of HT_.out (by kernel_rfl)) (fun _ _ _ h => h) (Or.inl ⟨by rfl, ?_⟩) ?_ ?_
            rotate_left
            · intro w'
              go_simp
              with_reducible rfl
            rotate_left
            · simp only [Act.put, List.setIfInBounds_toArray, List.set_cons_zero, List.set_cons_succ, i64_w, i32_w]
              rfl
            refine one_ (i := 6) (N := some 27) #[true, true, true, true, true, true, true, false, false, false, false] rfl rfl (one_of HT_.out (by kernel_rfl)) (by decide) (fun K hK => ?_)
            refine goes_ Tryz.func44 (by kernel_rfl) rfl #[.int .i64 a0_4] (by rfl) rfl rfl (by (try simp only [List.map_toArray, List.map_cons, List.map_nil]); first | done | rfl | (simp only [List.length_drop, List.length_take]; rfl)) ?_
            with_reducible refine (postriderref06_Num.calls k a0_4 t108 _ A16.out).mono ?_
            rintro e w24 ⟨rfl, hb⟩
            refine ⟨_, rfl, ?_⟩
            have n0_ := Aside0.mk (blk_below (g := gb105) (o := .cells #[.int .i64 a0_0, .string a0_1, .string a0_2, .int .i64 a0_3, .int .i64 a0_4] 41 (0, 0)) (by (with_reducible repeat (first | refine blk_drewN ?_ _ | refine blk_drew ?_ | refine blk_alloc ?_ _)); exact BK105.out) hb)
            have n1_ := Aside0.mk (below_step (by repeat (first | (with_reducible first | exact HB.out | apply below_alloc | apply pw_below_drewN | apply below_drew1 | refine below_set ?_ GE105.out) | exact HB.out)) hb)
            clear BK105
            clear HB
            have BK105 := n0_
            have HB := n1_
            clear n0_ n1_
            (try clear hb)
            (try clear hb2)
            (try clear hk)
            (try clear hi)
            refine hK.out _ _ ⟨(blk_cell BK105.out 0).trans rfl, (blk_cell BK105.out 1).trans rfl, (blk_cell BK105.out 2).trans rfl, (blk_cell BK105.out 3).trans rfl, (blk_cell BK105.out 4).trans rfl⟩ (fun hHeld => ?_)
            clear hK K
            refine norm_ (a' := ?_) ?_ ?_
            rotate_left
            · show Act.put _ (some 27) _ = _
              simp only [Act.put, List.setIfInBounds_toArray, List.set_cons_zero, List.set_cons_succ, i64_w, i32_w]
              rfl
            refine pure_ (i := 7) (N := some 28) (v := ?_) (a' := ?_) #[true, true, true, true, true, true, true, true, false, false, false] rfl rfl (any_of HT_.out (by kernel_rfl)) (fun _ _ _ h => h) (Or.inl ⟨by rfl, ?_⟩) ?_ ?_
            rotate_left
            · intro w'
              go_simp
              with_reducible rfl
            rotate_left
            · simp only [Act.put, List.setIfInBounds_toArray, List.set_cons_zero, List.set_cons_succ, i64_w, i32_w]
              rfl
            refine pure_ (i := 8) (N := some 2) (v := ?_) (a' := ?_) #[true, true, true, true, true, true, true, true, true, false, false] rfl rfl (any_of HT_.out (by kernel_rfl)) (fun _ _ _ h => h) (Or.inl ⟨by rfl, ?_⟩) ?_ ?_
            rotate_left
            · intro w'
              go_simp
              with_reducible rfl
            rotate_left
            · simp only [Act.put, List.setIfInBounds_toArray, List.set_cons_zero, List.set_cons_succ, i64_w, i32_w]
              rfl
            refine pure_ (i := 9) (N := some 3) (v := ?_) (a' := ?_) #[true, true, true, true, true, true, true, true, true, true, false] rfl rfl (any_of HT_.out (by kernel_rfl)) (fun _ _ _ h => h) (Or.inl ⟨by rfl, ?_⟩) ?_ ?_
            rotate_left
            · intro w'
              go_simp
              with_reducible rfl
            rotate_left
            · simp only [Act.put, List.setIfInBounds_toArray, List.set_cons_zero, List.set_cons_succ, i64_w, i32_w]
              rfl
            refine pure_ (i := 10) (N := some 4) (v := ?_) (a' := ?_) #[true, true, true, true, true, true, true, true, true, true, true] rfl rfl (any_of HT_.out (by kernel_rfl)) (fun _ _ _ h => h) (Or.inl ⟨by rfl, ?_⟩) ?_ ?_
            rotate_left
            · intro w'
              go_simp
              with_reducible rfl
            rotate_left
            · simp only [Act.put, List.setIfInBounds_toArray, List.set_cons_zero, List.set_cons_succ, i64_w, i32_w]
              rfl
            refine done_ (done_of HT_.out (by kernel_rfl)) ?_
            try go_wp2
            all_goals (first | (go_ret3; exact ⟨by first | rfl | (simp [errW_none, errW_some] <;> rfl) | (simp [*, errW_none, errW_some] <;> rfl) | (simp_all; done) | fail, by repeat (first | (with_reducible first | exact HB.out | apply below_alloc | apply pw_below_drewN | apply below_drew1 | refine below_set ?_ GE105.out) | exact HB.out)⟩) | (exfalso; simp_all; done) | (exfalso; simp only [isEmpty_eq, isEmpty_ne] at *; simp_all; done) | (exfalso; exact isEmpty_clash (by assumption) (by assumption)) | (exfalso; exact isEmpty_clash' (by assumption) (by assumption)) | (exfalso; exact isEmpty_clash2 (by assumption) (by assumption)))
          · rw [if_neg c17] at H
            exact absurd H (by simp)
        · rw [if_neg c15] at H
          exact absurd H (by simp)
      · rw [if_neg c13] at H
        have c13b0 : (a0_0 == 2) = false := beq_eq_false_iff_ne.mpr c13
        have c13b1 : (a0_0 != 2) = true := bne_iff_ne.mpr c13
        simp only [Option.some.injEq, Prod.mk.injEq] at H
        obtain ⟨rfl, rfl, rfl⟩ := H
        go_enter Tryz.func27, Tryz.ntmps27
        go_wp2_with (first | ((with_reducible refine gate_dst (N := 1) rfl ?_); refine box_event ?hg (N := 1) ?hd (cs := #[.int .i64 a0_0, .string a0_1, .string a0_2, .int .i64 a0_3, .int .i64 a0_4]) (t := 41) ?hr ?_; (case hd => rfl); (case hg => rfl); (case hr => first | (go_simp; done) | (go_simp; rfl) | (go_simp; simp only [isEmpty_ne, isEmpty_eq]; done) | (go_simp; simp only [isEmpty_ne, isEmpty_eq]; rfl)); intro gb105 hg w25 hbox hb; have n0_ := Aside0.mk (below_step (by repeat (first | (with_reducible first | exact HB.out | apply below_alloc | apply pw_below_drewN | apply below_drew1) | exact HB.out)) hb); have n1_ := Aside0.mk (hbox); have n2_ := Aside0.mk ((by rw [hg]; exact (below_size (by repeat (first | (with_reducible first | exact HB.out | apply below_alloc | apply pw_below_drewN | apply below_drew1) | exact HB.out))) : w.heap.size ≤ gb105)); have n3_ := Aside0.mk ((by rw [hg]; exact (below_size (by repeat (first | (with_reducible first | exact HB.out | apply below_alloc | apply pw_below_drewN | apply below_drew1) | exact HB.out))) : w.heap.size ≤ gb105)); clear HB; have HB := n0_; have BK105 := n1_; have GW105 := n2_; have GE105 := n3_; clear n0_ n1_ n2_ n3_; clear hb hbox hg; have hcz26_0 : w25.cell? ⟨gb105, 0, none⟩ = some (.int .i64 a0_0) := (blk_cell BK105.out 0).trans rfl; have hcz26_1 : w25.cell? ⟨gb105, 1, none⟩ = some (.string a0_1) := (blk_cell BK105.out 1).trans rfl; have hcz26_2 : w25.cell? ⟨gb105, 2, none⟩ = some (.string a0_2) := (blk_cell BK105.out 2).trans rfl; have hcz26_3 : w25.cell? ⟨gb105, 3, none⟩ = some (.int .i64 a0_3) := (blk_cell BK105.out 3).trans rfl; have hcz26_4 : w25.cell? ⟨gb105, 4, none⟩ = some (.int .i64 a0_4) := (blk_cell BK105.out 4).trans rfl; have hfz26_0 := blk_frozen BK105.out 0; have hfz26_1 := blk_frozen BK105.out 1; have hfz26_2 := blk_frozen BK105.out 2; have hfz26_3 := blk_frozen BK105.out 3; have hfz26_4 := blk_frozen BK105.out 4) | ((with_reducible refine gate_callee (f := 26) rfl ?_); refine goesL_ (some 6) rfl rfl Tryz.func26 (by kernel_rfl) rfl #[.agg #[.int .i64 a0_0, .string a0_1, .string a0_2, .int .i64 a0_3, .int .i64 a0_4]] rfl (by (try simp only [List.map_toArray, List.map_cons, List.map_nil]); first | done | rfl | (simp only [List.length_drop, List.length_take]; rfl)) ?_; (with_reducible refine (postriderref06_Right.calls k a0_0 a0_1 a0_2 a0_3 a0_4 true _ A2.out).mono ?_); rintro e w27 ⟨rfl, hb⟩; refine ⟨_, rfl, ?_⟩; have n0_ := Aside0.mk (blk_below (g := gb105) (o := .cells #[.int .i64 a0_0, .string a0_1, .string a0_2, .int .i64 a0_3, .int .i64 a0_4] 41 (0, 0)) (by (with_reducible repeat (first | refine blk_drewN ?_ _ | refine blk_drew ?_ | refine blk_alloc ?_ _)); exact BK105.out) hb); have n1_ := Aside0.mk (below_step (by repeat (first | (with_reducible first | exact HB.out | apply below_alloc | apply pw_below_drewN | apply below_drew1 | refine below_set ?_ GE105.out) | exact HB.out)) hb); clear BK105; clear HB; have BK105 := n0_; have HB := n1_; clear n0_ n1_; (try clear hb); (try clear hb2); (try clear hk); (try clear hi); have hcz28_0 : w27.cell? ⟨gb105, 0, none⟩ = some (.int .i64 a0_0) := (blk_cell BK105.out 0).trans rfl; have hcz28_1 : w27.cell? ⟨gb105, 1, none⟩ = some (.string a0_1) := (blk_cell BK105.out 1).trans rfl; have hcz28_2 : w27.cell? ⟨gb105, 2, none⟩ = some (.string a0_2) := (blk_cell BK105.out 2).trans rfl; have hcz28_3 : w27.cell? ⟨gb105, 3, none⟩ = some (.int .i64 a0_3) := (blk_cell BK105.out 3).trans rfl; have hcz28_4 : w27.cell? ⟨gb105, 4, none⟩ = some (.int .i64 a0_4) := (blk_cell BK105.out 4).trans rfl; have hfz28_0 := blk_frozen BK105.out 0; have hfz28_1 := blk_frozen BK105.out 1; have hfz28_2 := blk_frozen BK105.out 2; have hfz28_3 := blk_frozen BK105.out 3; have hfz28_4 := blk_frozen BK105.out 4))
        all_goals (first | (go_ret3; exact ⟨by first | rfl | (simp [errW_none, errW_some] <;> rfl) | (simp [*, errW_none, errW_some] <;> rfl) | (simp_all; done) | fail, by repeat (first | (with_reducible first | exact HB.out | apply below_alloc | apply pw_below_drewN | apply below_drew1 | refine below_set ?_ GE105.out) | exact HB.out)⟩) | (exfalso; simp_all; done) | (exfalso; simp only [isEmpty_eq, isEmpty_ne] at *; simp_all; done) | (exfalso; exact isEmpty_clash (by assumption) (by assumption)) | (exfalso; exact isEmpty_clash' (by assumption) (by assumption)) | (exfalso; exact isEmpty_clash2 (by assumption) (by assumption)))
  · replace c3 := Bool.eq_false_iff.mpr c3
    subst c3
    have H1 : (some ((⟨#[]⟩ : ByteArray), (⟨#[]⟩ : ByteArray), 60)) = some (r1, r2, r3) := by rw [if_neg (show ¬ (false = true) by decide)] at H; exact H
    clear H
    have H := H1
    clear H1
    simp only [Option.some.injEq, Prod.mk.injEq] at H
    obtain ⟨rfl, rfl, rfl⟩ := H
    go_enter Tryz.func27, Tryz.ntmps27
    go_wp2_with (first | ((with_reducible refine gate_dst (N := 1) rfl ?_); refine box_event ?hg (N := 1) ?hd (cs := #[.int .i64 a0_0, .string a0_1, .string a0_2, .int .i64 a0_3, .int .i64 a0_4]) (t := 41) ?hr ?_; (case hd => rfl); (case hg => rfl); (case hr => first | (go_simp; done) | (go_simp; rfl) | (go_simp; simp only [isEmpty_ne, isEmpty_eq]; done) | (go_simp; simp only [isEmpty_ne, isEmpty_eq]; rfl)); intro gb105 hg w29 hbox hb; have n0_ := Aside0.mk (below_step (by repeat (first | (with_reducible first | exact HB.out | apply below_alloc | apply pw_below_drewN | apply below_drew1) | exact HB.out)) hb); have n1_ := Aside0.mk (hbox); have n2_ := Aside0.mk ((by rw [hg]; exact (below_size (by repeat (first | (with_reducible first | exact HB.out | apply below_alloc | apply pw_below_drewN | apply below_drew1) | exact HB.out))) : w.heap.size ≤ gb105)); have n3_ := Aside0.mk ((by rw [hg]; exact (below_size (by repeat (first | (with_reducible first | exact HB.out | apply below_alloc | apply pw_below_drewN | apply below_drew1) | exact HB.out))) : w.heap.size ≤ gb105)); clear HB; have HB := n0_; have BK105 := n1_; have GW105 := n2_; have GE105 := n3_; clear n0_ n1_ n2_ n3_; clear hb hbox hg; have hcz30_0 : w29.cell? ⟨gb105, 0, none⟩ = some (.int .i64 a0_0) := (blk_cell BK105.out 0).trans rfl; have hcz30_1 : w29.cell? ⟨gb105, 1, none⟩ = some (.string a0_1) := (blk_cell BK105.out 1).trans rfl; have hcz30_2 : w29.cell? ⟨gb105, 2, none⟩ = some (.string a0_2) := (blk_cell BK105.out 2).trans rfl; have hcz30_3 : w29.cell? ⟨gb105, 3, none⟩ = some (.int .i64 a0_3) := (blk_cell BK105.out 3).trans rfl; have hcz30_4 : w29.cell? ⟨gb105, 4, none⟩ = some (.int .i64 a0_4) := (blk_cell BK105.out 4).trans rfl; have hfz30_0 := blk_frozen BK105.out 0; have hfz30_1 := blk_frozen BK105.out 1; have hfz30_2 := blk_frozen BK105.out 2; have hfz30_3 := blk_frozen BK105.out 3; have hfz30_4 := blk_frozen BK105.out 4) | ((with_reducible refine gate_callee (f := 26) rfl ?_); refine goesL_ (some 6) rfl rfl Tryz.func26 (by kernel_rfl) rfl #[.agg #[.int .i64 a0_0, .string a0_1, .string a0_2, .int .i64 a0_3, .int .i64 a0_4]] rfl (by (try simp only [List.map_toArray, List.map_cons, List.map_nil]); first | done | rfl | (simp only [List.length_drop, List.length_take]; rfl)) ?_; (with_reducible refine (postriderref06_Right.calls k a0_0 a0_1 a0_2 a0_3 a0_4 false _ A2.out).mono ?_); rintro e w31 ⟨rfl, hb⟩; refine ⟨_, rfl, ?_⟩; have n0_ := Aside0.mk (blk_below (g := gb105) (o := .cells #[.int .i64 a0_0, .string a0_1, .string a0_2, .int .i64 a0_3, .int .i64 a0_4] 41 (0, 0)) (by (with_reducible repeat (first | refine blk_drewN ?_ _ | refine blk_drew ?_ | refine blk_alloc ?_ _)); exact BK105.out) hb); have n1_ := Aside0.mk (below_step (by repeat (first | (with_reducible first | exact HB.out | apply below_alloc | apply pw_below_drewN | apply below_drew1 | refine below_set ?_ GE105.out) | exact HB.out)) hb); clear BK105; clear HB; have BK105 := n0_; have HB := n1_; clear n0_ n1_; (try clear hb); (try clear hb2); (try clear hk); (try clear hi)))
    all_goals (first | (go_ret3; exact ⟨by first | rfl | (simp [errW_none, errW_some] <;> rfl) | (simp [*, errW_none, errW_some] <;> rfl) | (simp_all; done) | fail, by repeat (first | (with_reducible first | exact HB.out | apply below_alloc | apply pw_below_drewN | apply below_drew1 | refine below_set ?_ GE105.out) | exact HB.out)⟩) | (exfalso; simp_all; done) | (exfalso; simp only [isEmpty_eq, isEmpty_ne] at *; simp_all; done) | (exfalso; exact isEmpty_clash (by assumption) (by assumption)) | (exfalso; exact isEmpty_clash' (by assumption) (by assumption)) | (exfalso; exact isEmpty_clash2 (by assumption) (by assumption)))
def postriderref07_place.l0 : Nat → ByteArray → ByteArray → Int → Int → Option (Int)
  | 0, _, _, _, _ => none
  | k + 1, x0, x1, x5, x6 => if x6 < (x0.size : Int) then (if 0 ≤ x6 then (if (bt x0 x6) = 0 then (if 0 ≤ x5 then (if x5 ≤ x6 then (if x6 ≤ (x0.size : Int) then (if (x0.extract (x5 : Int).toNat (x6 : Int).toNat).toList = x1.toList then (some x5) else (postriderref07_place.l0 k x0 x1 (wrap64 (x6 + 1)) (wrap64 (x6 + 1)))) else (none)) else (none)) else (none)) else (postriderref07_place.l0 k x0 x1 x5 (wrap64 (x6 + 1)))) else (none)) else (some (-1))
def postriderref07_place.f (k : Nat) (a0 : ByteArray) (a1 : ByteArray) : Option (Int) := postriderref07_place.l0 k a0 a1 0 0
theorem postriderref07_place.mono_l : ∀ k, (∀ y0 y1 y2 y3, LeO (postriderref07_place.l0 k y0 y1 y2 y3) (postriderref07_place.l0 (k + 1) y0 y1 y2 y3))
  | 0 => fun _ _ _ _ r h => by simp [postriderref07_place.l0] at h
  | k + 1 => by
    have ih0 := postriderref07_place.mono_l k
    · intro y0 y1 y2 y3
      unfold postriderref07_place.l0
      repeat' first
      | (with_reducible exact ih0 _ _ _ _)
      | (with_reducible exact LeO.refl _)
      | (with_reducible exact LeO.none _)
      | (with_reducible refine LeO.ite ?_ ?_)
      | (with_reducible refine LeO.bind ?_ (fun _ => ?_))
      | exact ih0 _ _ _ _
      | exact LeO.none _
      | refine LeO.ite ?_ ?_
      | refine LeO.bind ?_ (fun _ => ?_)
theorem postriderref07_place.mono : ∀ a0 a1 k, LeO (postriderref07_place.f k a0 a1) (postriderref07_place.f (k + 1) a0 a1) := by
  intro a0 a1 k
  have ih0 := postriderref07_place.mono_l k
  unfold postriderref07_place.f
  repeat' first
      | (with_reducible exact ih0 _ _ _ _)
      | (with_reducible exact LeO.refl _)
      | (with_reducible exact LeO.none _)
      | (with_reducible refine LeO.ite ?_ ?_)
      | (with_reducible refine LeO.bind ?_ (fun _ => ?_))
      | exact ih0 _ _ _ _
      | exact LeO.none _
      | refine LeO.ite ?_ ?_
      | refine LeO.bind ?_ (fun _ => ?_)
set_option maxHeartbeats 8000000 in
set_option maxRecDepth 100000 in
theorem postriderref07_place.calls (k : Nat) (a0 : ByteArray) (a1 : ByteArray) (r : Int) (w : World) (h : postriderref07_place.f k a0 a1 = some r) :
    Calls Tryz.prog 28 #[.string a0, .string a1] w fun e w' => e = .returned (.int .i64 r) ∧ Drawn0 w w' := by
  have H : (postriderref07_place.l0 k a0 a1 0 0) = some r := h
  clear h
  have H' := Aside0.mk H
  clear H
  go_enter Tryz.func28, Tryz.ntmps28
  go_wp2
  go_loopg [5, 6] k (fun kq v5 v6 w' => ∃ (x5_1 : Int) (x6_1 : Int), v5 = .int .i64 x5_1 ∧ v6 = .int .i64 x6_1 ∧ Aside0 (postriderref07_place.l0 kq a0 a1 x5_1 x6_1 = some r) ∧ Aside0 (kq ≤ k) ∧ Drawn0 w w')
  case atStart => exact ⟨(0), (0), (by first | rfl | (simp; done) | (simp [*]; done)), (by first | rfl | (simp; done) | (simp [*]; done)), H', ⟨Nat.le_refl _⟩, by repeat (first | exact Drawn0.refl _ | apply Drawn0.step)⟩
  case round =>
    clear H'
    try clear c2
    try clear p2
    obtain ⟨x5_1, x6_1, rfl, rfl, HA, HK1, ⟨m1, rfl⟩⟩ := hrel
    cases gk with
    | zero => exact absurd HA.out (by simp [postriderref07_place.l0])
    | succ k1 =>
      have H := HA.out
      clear HA
      simp only [postriderref07_place.l0] at H
      by_cases c3 : x6_1 < (a0.size : Int)
      · rw [if_pos c3] at H
        have c3b0 : decide (x6_1 < (a0.size : Int)) = true := decide_eq_true c3
        clear c3
        by_cases c4 : 0 ≤ x6_1
        · rw [if_pos c4] at H
          have c4b0 : decide (0 ≤ x6_1) = true := decide_eq_true c4
          clear c4
          by_cases c6 : (bt a0 x6_1) = 0
          · rw [if_pos c6] at H
            have c6b0 : ((bt a0 x6_1) == 0) = true := beq_iff_eq.mpr c6
            have c6b1 : ((bt a0 x6_1) != 0) = false := bne_eq_false_iff_eq.mpr c6
            clear c6
            by_cases c7 : 0 ≤ x5_1
            · rw [if_pos c7] at H
              have c7b0 := eq_true c7
              have c7b1 : decide (0 ≤ x5_1) = true := decide_eq_true c7
              clear c7
              by_cases c8 : x5_1 ≤ x6_1
              · rw [if_pos c8] at H
                have c8b0 := eq_true c8
                have c8b1 : decide (x5_1 ≤ x6_1) = true := decide_eq_true c8
                clear c8
                by_cases c9 : x6_1 ≤ (a0.size : Int)
                · rw [if_pos c9] at H
                  have c9b0 := eq_true c9
                  have c9b1 : decide (x6_1 ≤ (a0.size : Int)) = true := decide_eq_true c9
                  clear c9
                  by_cases c10 : (a0.extract (x5_1 : Int).toNat (x6_1 : Int).toNat).toList = a1.toList
                  · rw [if_pos c10] at H
                    have c10b0 : ((a0.extract (x5_1 : Int).toNat (x6_1 : Int).toNat).toList == a1.toList) = true := beq_iff_eq.mpr c10
                    have c10b1 : ((a0.extract (x5_1 : Int).toNat (x6_1 : Int).toNat).toList != a1.toList) = false := bne_eq_false_iff_eq.mpr c10
                    clear c10
                    obtain rfl := Option.some.inj H
                    have p5 : 0 ≤ (x6_1 : Int) := of_decide_eq_true (by first | (with_reducible assumption) | assumption)
                    have q5 : x6_1 < (a0.size : Int) := of_decide_eq_true (by first | (with_reducible assumption) | assumption)
                    have hx5 := bt_at a0 x6_1
                    replace p5 := eq_true p5
                    replace q5 := eq_true q5
                    go_wp2
                    all_goals (first | (go_ret; exact ⟨by first | rfl | (simp; done) | (simp [*]; done) | (simp_all; done) | fail, by repeat (first | exact Drawn0.refl _ | apply Drawn0.step)⟩) | (exfalso; simp_all; done) | (exfalso; simp only [isEmpty_eq, isEmpty_ne] at *; simp_all; done) | (exfalso; exact isEmpty_clash (by assumption) (by assumption)) | (exfalso; exact isEmpty_clash' (by assumption) (by assumption)) | (exfalso; exact isEmpty_clash2 (by assumption) (by assumption)))
                  · rw [if_neg c10] at H
                    have c10b0 : ((a0.extract (x5_1 : Int).toNat (x6_1 : Int).toNat).toList == a1.toList) = false := beq_eq_false_iff_ne.mpr c10
                    have c10b1 : ((a0.extract (x5_1 : Int).toNat (x6_1 : Int).toNat).toList != a1.toList) = true := bne_iff_ne.mpr c10
                    have H' := Aside0.mk H
                    clear H
                    have p5 : 0 ≤ (x6_1 : Int) := of_decide_eq_true (by first | (with_reducible assumption) | assumption)
                    have q5 : x6_1 < (a0.size : Int) := of_decide_eq_true (by first | (with_reducible assumption) | assumption)
                    have hx5 := bt_at a0 x6_1
                    replace p5 := eq_true p5
                    replace q5 := eq_true q5
                    go_wp2
                    go_roundg k1
                    case measure => have := HK1.out; omega
                    case rel => exact ⟨(wrap64 (x6_1 + 1)), (wrap64 (x6_1 + 1)), (by first | rfl | (simp; done) | (simp [*]; done)), (by first | rfl | (simp; done) | (simp [*]; done)), H', ⟨by have := HK1.out; omega⟩, by repeat (first | exact Drawn0.refl _ | apply Drawn0.step)⟩
                · rw [if_neg c9] at H
                  exact absurd H (by simp)
              · rw [if_neg c8] at H
                exact absurd H (by simp)
            · rw [if_neg c7] at H
              exact absurd H (by simp)
          · rw [if_neg c6] at H
            have c6b0 : ((bt a0 x6_1) == 0) = false := beq_eq_false_iff_ne.mpr c6
            have c6b1 : ((bt a0 x6_1) != 0) = true := bne_iff_ne.mpr c6
            have H' := Aside0.mk H
            clear H
            have p5 : 0 ≤ (x6_1 : Int) := of_decide_eq_true (by first | (with_reducible assumption) | assumption)
            have q5 : x6_1 < (a0.size : Int) := of_decide_eq_true (by first | (with_reducible assumption) | assumption)
            have hx5 := bt_at a0 x6_1
            replace p5 := eq_true p5
            replace q5 := eq_true q5
            go_wp2
            go_roundg k1
            case measure => have := HK1.out; omega
            case rel => exact ⟨(x5_1), (wrap64 (x6_1 + 1)), (by first | rfl | (simp; done) | (simp [*]; done)), (by first | rfl | (simp; done) | (simp [*]; done)), H', ⟨by have := HK1.out; omega⟩, by repeat (first | exact Drawn0.refl _ | apply Drawn0.step)⟩
        · rw [if_neg c4] at H
          exact absurd H (by simp)
      · rw [if_neg c3] at H
        have c3b0 : decide (x6_1 < (a0.size : Int)) = false := decide_eq_false c3
        clear c3
        obtain rfl := Option.some.inj H
        go_wp2
        all_goals (first | (go_ret; exact ⟨by first | rfl | (simp; done) | (simp [*]; done) | (simp_all; done) | fail, by repeat (first | exact Drawn0.refl _ | apply Drawn0.step)⟩) | (exfalso; simp_all; done) | (exfalso; simp only [isEmpty_eq, isEmpty_ne] at *; simp_all; done) | (exfalso; exact isEmpty_clash (by assumption) (by assumption)) | (exfalso; exact isEmpty_clash' (by assumption) (by assumption)) | (exfalso; exact isEmpty_clash2 (by assumption) (by assumption)))
end Go.Proofs.YtbjbicaffblchaaGreatDoor.SR
end

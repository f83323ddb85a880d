import Derived.Test.YtaknknfcikdjiaaGreatDoorZRouteMore2
import Derived.ArgAppend
import Derived.Below
import Derived.BigQuiet
import Derived.Deep.AppendLies
import Derived.Deep.CutBlock
import Derived.Deep.DeepCutAuto
import Derived.Deep.Draws
import Derived.Deep.LoopGhost
import Derived.Deep.OwnRows
import Derived.Deep.QuietTactic
import Derived.Deep.RegionHeld3
import Derived.KernelRfl
import Derived.Laws.BitsLemmas
import Derived.Laws.BytesArg
import Derived.Laws.IdiomCopy
import Derived.Laws.MakeOwn
import Derived.Laws.OwnMore
import Derived.Laws.Rows
import Derived.Laws.Slices
import Derived.Lib.AppendStr
import Derived.Lib.ConvBytes
import Derived.Maps.AppendAt
import Derived.OrdersHeld
import Derived.OwnWalk
import Derived.RowKit
import Derived.RowKit3
import Derived.Tactics
import Derived.Test.YtaknknfcikdjiaaGreatDoorProg
import Derived.WalkKit
import Derived.WideLaws
section
namespace Go.Proofs.YtaknknfcikdjiaaGreatDoor.Hand
open Go.RowKit Go.Proofs.YtaknknfcikdjiaaGreatDoorW Go.Proofs.YtaknknfcikdjiaaGreatDoorW.PrintWords Go.Proofs.YtaknknfcikdjiaaGreatDoor.SA Go.Proofs.YtaknknfcikdjiaaGreatDoor.RK Go.Proofs.YtaknknfcikdjiaaGreatDoor.RF
theorem shown_true : postriderlaw16_shown.f = some true := by decide +kernel
theorem wrap_up (i : Nat) (h : i ≤ 1000000) : wrap64 ((i : Int) + 1) = ((i + 1 : Nat) : Int) := by unfold wrap64; omega
def cutRt (x : Rt) : Rt := ⟨x.f0.extract 0 (mn x.f0.size 61).toNat, x.f1⟩
def cutR (l : List Rt) : List Rt := (l.take 22).map cutRt
theorem rd_Rt {l : List Rt} {i : Nat} (h : i < l.length) : rd_T35 l (i : Int) = l[i] := by
  unfold rd_T35
  rw [Int.toNat_natCast, List.getD_eq_getElem?_getD, List.getElem?_eq_getElem h]
  rfl
theorem cutR_from (l : List Rt) : ∀ (d k i : Nat) (acc : List Rt), (l.take 22).length - i = d → i ≤ (l.take 22).length → d < k → acc.length = i → postriderlaw16_Cut.l0 k l acc (i : Int) = some (acc ++ ((l.take 22).drop i).map cutRt) := by
  intro d
  induction d with
  | zero =>
    intro k i acc hd hi hk ha
    obtain ⟨k, rfl⟩ : ∃ m, k = m + 1 := ⟨k - 1, by omega⟩
    rw [List.drop_eq_nil_of_le (by omega), List.map_nil, List.append_nil]
    simp only [postriderlaw16_Cut.l0]
    rw [List.length_take] at hd hi
    by_cases h : (i : Int) < (l.length : Int)
    · rw [if_pos h, if_neg (by omega)]
    · rw [if_neg h]
  | succ d ih =>
    intro k i acc hd hi hk ha
    obtain ⟨k, rfl⟩ : ∃ m, k = m + 1 := ⟨k - 1, by omega⟩
    have hlt : i < (l.take 22).length := by omega
    have hl : i < l.length ∧ i < 22 := by rw [List.length_take] at hlt; omega
    simp only [postriderlaw16_Cut.l0]
    rw [rd_Rt hl.1]
    obtain ⟨h1, h2, h3⟩ := mn_len (l[i]'hl.1).f0.size 61 (by decide)
    rw [if_pos (by omega), if_pos (by omega), if_pos (by omega), if_pos h1, if_pos h2, if_pos (by omega), wrap_up i (by omega), ih k (i + 1) _ (by omega) (by omega) (by omega) (by simp [ha])]
    rw [List.append_assoc]
    congr 1
    rw [List.drop_eq_getElem_cons hlt, List.map_cons]
    have e : (l.take 22)[i] = l[i]'hl.1 := List.getElem_take
    rw [e]
    rfl
theorem CutR_is (l : List Rt) (k : Nat) (hk : 30 ≤ k) : postriderlaw16_Cut.f k l = some (cutR l) := by
  unfold postriderlaw16_Cut.f
  have := cutR_from l _ k 0 [] rfl (Nat.zero_le _) (by rw [List.length_take]; omega) rfl
  simpa [cutR] using this
theorem cutR_len (l : List Rt) : (cutR l).length ≤ 22 := by
  unfold cutR
  rw [List.length_map, List.length_take]
  omega
def findT (l : List Rt) (n : Int) (a1 a2 : ByteArray) (a3 a4 : Int) : Int × Bool × Int :=
  match (allT l n a1 a2 a3 a4).1 with
  | [] => (0, false, (allT l n a1 a2 a3 a4).2)
  | a :: _ => (a, true, 0)
theorem All_is (l : List Rt) (n : Int) (a1 a2 : ByteArray) (a3 a4 : Int) (h1 : a1.size ≤ 21) (h2 : a2.size ≤ 21) : route_All.f l n a1 a2 a3 a4 = some (allT l n a1 a2 a3 a4) := by
  unfold route_All.f
  rw [if_pos ⟨Nat.le_trans h1 (by decide), Nat.le_trans h2 (by decide)⟩]
theorem Find_is (l : List Rt) (n : Int) (a1 a2 : ByteArray) (a3 a4 : Int) (h1 : a1.size ≤ 21) (h2 : a2.size ≤ 21) : route_Find.f l n a1 a2 a3 a4 = some (findT l n a1 a2 a3 a4) := by
  unfold route_Find.f findT
  rw [All_is l n a1 a2 a3 a4 h1 h2]
  simp only [Option.bind_some]
  cases (allT l n a1 a2 a3 a4).1 with
  | nil => rfl
  | cons a r =>
    simp only [List.length_cons]
    rw [if_neg (by omega), if_pos (by omega)]
    rfl
theorem all_cases (l : List Rt) (n : Int) (a1 a2 : ByteArray) (a3 a4 : Int) :
    (allT l n a1 a2 a3 a4 = ([], 160) ∧ rightRt l = false) ∨ (allT l n a1 a2 a3 a4 = ([], 60) ∧ rightRt l = true ∧ rightS n a1 a2 a3 a4 = false ∧ printT n a1 a2 a3 a4 = (⟨#[]⟩, 60)) ∨
      ∃ s, rightRt l = true ∧ rightS n a1 a2 a3 a4 = true ∧ printT n a1 a2 a3 a4 = (s, 0) ∧ allT l n a1 a2 a3 a4 = (allP s.data.toList (pfx l), 0) := by
  unfold allT printT
  cases hr : rightRt l with
  | false => exact .inl ⟨rfl, rfl⟩
  | true =>
    refine .inr ?_
    cases hn : rightS n a1 a2 a3 a4 with
    | false => exact .inl ⟨rfl, rfl, rfl, rfl⟩
    | true => exact .inr ⟨_, rfl, rfl, rfl, rfl⟩
end Go.Proofs.YtaknknfcikdjiaaGreatDoor.Hand
end
section
namespace Go.Proofs.YtaknknfcikdjiaaGreatDoor.RTRouteMore
open Go.Proofs.YtaknknfcikdjiaaGreatDoor.Hand
open Go.Proofs.YtaknknfcikdjiaaGreatDoor.SA
open Go.Proofs.YtaknknfcikdjiaaGreatDoor.RK
open Go.Proofs.YtaknknfcikdjiaaGreatDoor.RF
open Go.RowKit Go.Proofs.YtaknknfcikdjiaaGreatDoorW.PrintWords Go.Proofs.YtaknknfcikdjiaaGreatDoorW.PrintLast Go.Proofs.YtaknknfcikdjiaaGreatDoorW.PrintMore
attribute [local go_sem] max2_int min2_int max_two min_two max_three min_three max_four min_four
set_option linter.unusedVariables false
set_option linter.unusedSimpArgs false
def errW : Option Int → Value
  | none => .nilIface
  | some c => .iface 0 (.int .i64 c)
theorem errW_none : errW none = .nilIface := rfl
theorem errW_some (c : Int) : errW (some c) = .iface 0 (.int .i64 c) := rfl
theorem info35 : (Tryz.prog.info? 35).map (fun i => (i.zero, i.size, i.bytes)) = some (some (.agg #[(.string ⟨#[]⟩), (.int .i64 0)]), 2, 24) := by kernel_rfl
end Go.Proofs.YtaknknfcikdjiaaGreatDoor.RTRouteMore
end
section
namespace Go.Proofs.YtaknknfcikdjiaaGreatDoor.RTRouteMore
open Go.Proofs.YtaknknfcikdjiaaGreatDoor.Hand
open Go.Proofs.YtaknknfcikdjiaaGreatDoor.SA
open Go.Proofs.YtaknknfcikdjiaaGreatDoor.RK
open Go.Proofs.YtaknknfcikdjiaaGreatDoor.RF
open Go.RowKit Go.Proofs.YtaknknfcikdjiaaGreatDoorW.PrintWords Go.Proofs.YtaknknfcikdjiaaGreatDoorW.PrintLast Go.Proofs.YtaknknfcikdjiaaGreatDoorW.PrintMore
attribute [local go_sem] max2_int min2_int max_two min_two max_three min_three max_four min_four
set_option linter.unusedVariables false
set_option linter.unusedSimpArgs false
def postriderlaw16_RouteMore.f (k : Nat) (l0 : List (S35)) (a1_0 : ByteArray) (a1_1 : Int) (a2_0 : Int) (a2_1 : ByteArray) (a2_2 : ByteArray) (a2_3 : Int) (a2_4 : Int) : Option (Bool) := (postriderlaw16_shown.f).bind fun t103 => ((postriderlaw16_Cut.f k l0).bind fun t104 => ((postriderlaw06_Cut.f a2_0 a2_1 a2_2 a2_3 a2_4).bind fun bt107 => ((some (([] : List (S35)) : List (S35))).bind fun y112 => (if y112.length + t104.length < 5864062014805 then ((some (y112 ++ t104 : List (S35))).bind fun y115 => ((some (([(⟨a1_0, a1_1⟩ : S35)] : List (S35)) : List (S35))).bind fun y118 => (if y115.length + y118.length < 5864062014805 then ((postriderlaw16_Cut.f k (y115 ++ y118)).bind fun t124 => ((route_Find.f t104 bt107.1 bt107.2.1 bt107.2.2.1 bt107.2.2.2.1 bt107.2.2.2.2).bind fun bt127 => ((route_Find.f t124 bt107.1 bt107.2.1 bt107.2.2.1 bt107.2.2.2.1 bt107.2.2.2.2).bind fun bt130 => (if bt127.2.2 = 0 then (if bt130.2.2 = 0 then (if t103 = true then (if bt130.2.1 = true then (if bt130.1 = (t104.length : Int) then (some true) else (if (bt127.2.1 == bt130.2.1) = true then (some (bt127.1 == bt130.1)) else (none))) else (if (bt127.2.1 == bt130.2.1) = true then (some (bt127.1 == bt130.1)) else (none))) else (none)) else (if t103 = true then (some (!bt130.2.1)) else (none))) else (if t103 = true then (if bt127.2.1 = true then (none) else (if bt130.2.2 = 0 then (some true) else (some (!bt130.2.1)))) else (none)))))) else (none)))) else (none)))))
theorem postriderlaw16_RouteMore.mono : ∀ a0 a1 a2 a3 a4 a5 a6 a7 k, LeO (postriderlaw16_RouteMore.f k a0 a1 a2 a3 a4 a5 a6 a7) (postriderlaw16_RouteMore.f (k + 1) a0 a1 a2 a3 a4 a5 a6 a7) := by
  intro a0 a1 a2 a3 a4 a5 a6 a7 k
  unfold postriderlaw16_RouteMore.f
  repeat' first
      | (with_reducible exact postriderlaw16_Cut.mono _ _)
      | (with_reducible exact LeO.refl _)
      | (with_reducible exact LeO.none _)
      | (with_reducible refine LeO.ite ?_ ?_)
      | (with_reducible refine LeO.bind ?_ (fun _ => ?_))
      | exact postriderlaw16_Cut.mono _ _
      | exact LeO.none _
      | refine LeO.ite ?_ ?_
      | refine LeO.bind ?_ (fun _ => ?_)
def postriderlaw16_RouteMore.T4 : Bool × List (List Nat × List Nat) := (true, [([], []), ([], []), ([0, 1], [0, 1]), ([], []), ([3], [3]), ([2, 4, 2], [2, 4]), ([5, 5], [5]), ([6, 6, 0, 1, 2, 3, 4, 5, 6], [6])])
def postriderlaw16_RouteMore.B4 : List Nat := [0, 0, 3, 0, 8, 31, 63, 127]
theorem postriderlaw16_RouteMore.tab4 : rtab .any (opsOf Tryz.f4 4) = postriderlaw16_RouteMore.T4 := by kernel_rfl
theorem postriderlaw16_RouteMore.bits4 : waitsOk postriderlaw16_RouteMore.T4.2 postriderlaw16_RouteMore.B4 = true := by kernel_rfl
set_option maxHeartbeats 8000000 in
set_option maxRecDepth 100000 in
theorem postriderlaw16_RouteMore.calls (k : Nat) (A0 : Option Addr) (c0 : Nat) (l0 : List (S35)) (a1_0 : ByteArray) (a1_1 : Int) (a2_0 : Int) (a2_1 : ByteArray) (a2_2 : ByteArray) (a2_3 : Int) (a2_4 : Int) (r : Bool) (w : World) (hr0 : Kd.C k35 w A0 l0.length l0) (hc0 : l0.length ≤ c0) (hLd : LaidR w) (h : postriderlaw16_RouteMore.f k l0 a1_0 a1_1 a2_0 a2_1 a2_2 a2_3 a2_4 = some r) :
    Calls Tryz.prog 4 #[.slice A0 l0.length c0, .agg #[.string a1_0, .int .i64 a1_1], .agg #[.int .i64 a2_0, .string a2_1, .string a2_2, .int .i64 a2_3, .int .i64 a2_4]] w fun e w' => e = .returned (.bool r) ∧ Below w.heap.size w w' := by
  have hu35 := Tryz.underlying35
  have hu37 := Tryz.underlying37
  have HLD := Aside0.mk hLd
  clear hLd
  have HR0 := Aside0.mk hr0
  have HC0 := Aside0.mk hc0
  clear hr0 hc0
  have HB := Aside0.mk (Below.refl w.heap.size w)
  have H : ((postriderlaw16_shown.f).bind fun t103 => ((postriderlaw16_Cut.f k l0).bind fun t104 => ((postriderlaw06_Cut.f a2_0 a2_1 a2_2 a2_3 a2_4).bind fun bt107 => ((some (([] : List (S35)) : List (S35))).bind fun y112 => (if y112.length + t104.length < 5864062014805 then ((some (y112 ++ t104 : List (S35))).bind fun y115 => ((some (([(⟨a1_0, a1_1⟩ : S35)] : List (S35)) : List (S35))).bind fun y118 => (if y115.length + y118.length < 5864062014805 then ((postriderlaw16_Cut.f k (y115 ++ y118)).bind fun t124 => ((route_Find.f t104 bt107.1 bt107.2.1 bt107.2.2.1 bt107.2.2.2.1 bt107.2.2.2.2).bind fun bt127 => ((route_Find.f t124 bt107.1 bt107.2.1 bt107.2.2.1 bt107.2.2.2.1 bt107.2.2.2.2).bind fun bt130 => (if bt127.2.2 = 0 then (if bt130.2.2 = 0 then (if t103 = true then (if bt130.2.1 = true then (if bt130.1 = (t104.length : Int) then (some true) else (if (bt127.2.1 == bt130.2.1) = true then (some (bt127.1 == bt130.1)) else (none))) else (if (bt127.2.1 == bt130.2.1) = true then (some (bt127.1 == bt130.1)) else (none))) else (none)) else (if t103 = true then (some (!bt130.2.1)) else (none))) else (if t103 = true then (if bt127.2.1 = true then (none) else (if bt130.2.2 = 0 then (some true) else (some (!bt130.2.1)))) else (none)))))) else (none)))) else (none)))))) = some r := h
  clear h
  replace H := Option.bind_eq_some_iff.mp H
  obtain ⟨t103, A40, H⟩ := H
  replace H : ((postriderlaw16_Cut.f k l0).bind fun t104 => ((postriderlaw06_Cut.f a2_0 a2_1 a2_2 a2_3 a2_4).bind fun bt107 => ((some (([] : List (S35)) : List (S35))).bind fun y112 => (if y112.length + t104.length < 5864062014805 then ((some (y112 ++ t104 : List (S35))).bind fun y115 => ((some (([(⟨a1_0, a1_1⟩ : S35)] : List (S35)) : List (S35))).bind fun y118 => (if y115.length + y118.length < 5864062014805 then ((postriderlaw16_Cut.f k (y115 ++ y118)).bind fun t124 => ((route_Find.f t104 bt107.1 bt107.2.1 bt107.2.2.1 bt107.2.2.2.1 bt107.2.2.2.2).bind fun bt127 => ((route_Find.f t124 bt107.1 bt107.2.1 bt107.2.2.1 bt107.2.2.2.1 bt107.2.2.2.2).bind fun bt130 => (if bt127.2.2 = 0 then (if bt130.2.2 = 0 then (if t103 = true then (if bt130.2.1 = true then (if bt130.1 = (t104.length : Int) then (some true) else (if (bt127.2.1 == bt130.2.1) = true then (some (bt127.1 == bt130.1)) else (none))) else (if (bt127.2.1 == bt130.2.1) = true then (some (bt127.1 == bt130.1)) else (none))) else (none)) else (if t103 = true then (some (!bt130.2.1)) else (none))) else (if t103 = true then (if bt127.2.1 = true then (none) else (if bt130.2.2 = 0 then (some true) else (some (!bt130.2.1)))) else (none)))))) else (none)))) else (none))))) = some r := H
  have A4 := Aside0.mk A40
  clear A40
  replace H := Option.bind_eq_some_iff.mp H
  obtain ⟨t104, A50, H⟩ := H
  replace H : ((postriderlaw06_Cut.f a2_0 a2_1 a2_2 a2_3 a2_4).bind fun bt107 => ((some (([] : List (S35)) : List (S35))).bind fun y112 => (if y112.length + t104.length < 5864062014805 then ((some (y112 ++ t104 : List (S35))).bind fun y115 => ((some (([(⟨a1_0, a1_1⟩ : S35)] : List (S35)) : List (S35))).bind fun y118 => (if y115.length + y118.length < 5864062014805 then ((postriderlaw16_Cut.f k (y115 ++ y118)).bind fun t124 => ((route_Find.f t104 bt107.1 bt107.2.1 bt107.2.2.1 bt107.2.2.2.1 bt107.2.2.2.2).bind fun bt127 => ((route_Find.f t124 bt107.1 bt107.2.1 bt107.2.2.1 bt107.2.2.2.1 bt107.2.2.2.2).bind fun bt130 => (if bt127.2.2 = 0 then (if bt130.2.2 = 0 then (if t103 = true then (if bt130.2.1 = true then (if bt130.1 = (t104.length : Int) then (some true) else (if (bt127.2.1 == bt130.2.1) = true then (some (bt127.1 == bt130.1)) else (none))) else (if (bt127.2.1 == bt130.2.1) = true then (some (bt127.1 == bt130.1)) else (none))) else (none)) else (if t103 = true then (some (!bt130.2.1)) else (none))) else (if t103 = true then (if bt127.2.1 = true then (none) else (if bt130.2.2 = 0 then (some true) else (some (!bt130.2.1)))) else (none)))))) else (none)))) else (none)))) = some r := H
  have A5 := Aside0.mk A50
  clear A50
  replace H := Option.bind_eq_some_iff.mp H
  obtain ⟨⟨t107, t108, t109, t110, t111⟩, A60, H⟩ := H
  replace H : ((some (([] : List (S35)) : List (S35))).bind fun y112 => (if y112.length + t104.length < 5864062014805 then ((some (y112 ++ t104 : List (S35))).bind fun y115 => ((some (([(⟨a1_0, a1_1⟩ : S35)] : List (S35)) : List (S35))).bind fun y118 => (if y115.length + y118.length < 5864062014805 then ((postriderlaw16_Cut.f k (y115 ++ y118)).bind fun t124 => ((route_Find.f t104 t107 t108 t109 t110 t111).bind fun bt127 => ((route_Find.f t124 t107 t108 t109 t110 t111).bind fun bt130 => (if bt127.2.2 = 0 then (if bt130.2.2 = 0 then (if t103 = true then (if bt130.2.1 = true then (if bt130.1 = (t104.length : Int) then (some true) else (if (bt127.2.1 == bt130.2.1) = true then (some (bt127.1 == bt130.1)) else (none))) else (if (bt127.2.1 == bt130.2.1) = true then (some (bt127.1 == bt130.1)) else (none))) else (none)) else (if t103 = true then (some (!bt130.2.1)) else (none))) else (if t103 = true then (if bt127.2.1 = true then (none) else (if bt130.2.2 = 0 then (some true) else (some (!bt130.2.1)))) else (none)))))) else (none)))) else (none))) = some r := H
  have A6 := Aside0.mk A60
  clear A60
  obtain ⟨y112, hy112⟩ : ∃ y_ : List (S35), y_ = (([] : List (S35))) := ⟨_, rfl⟩
  replace H : (if y112.length + t104.length < 5864062014805 then ((some (y112 ++ t104 : List (S35))).bind fun y115 => ((some (([(⟨a1_0, a1_1⟩ : S35)] : List (S35)) : List (S35))).bind fun y118 => (if y115.length + y118.length < 5864062014805 then ((postriderlaw16_Cut.f k (y115 ++ y118)).bind fun t124 => ((route_Find.f t104 t107 t108 t109 t110 t111).bind fun bt127 => ((route_Find.f t124 t107 t108 t109 t110 t111).bind fun bt130 => (if bt127.2.2 = 0 then (if bt130.2.2 = 0 then (if t103 = true then (if bt130.2.1 = true then (if bt130.1 = (t104.length : Int) then (some true) else (if (bt127.2.1 == bt130.2.1) = true then (some (bt127.1 == bt130.1)) else (none))) else (if (bt127.2.1 == bt130.2.1) = true then (some (bt127.1 == bt130.1)) else (none))) else (none)) else (if t103 = true then (some (!bt130.2.1)) else (none))) else (if t103 = true then (if bt127.2.1 = true then (none) else (if bt130.2.2 = 0 then (some true) else (some (!bt130.2.1)))) else (none)))))) else (none)))) else (none)) = some r := by first | (rw [hy112]; with_reducible exact H) | (have H2_ := (Option.bind_some _ _).symm.trans H; rw [hy112]; with_reducible exact H2_) | (have H2_ := (Option.bind_some _ _).symm.trans H; with_reducible exact H2_) | with_reducible exact H | (rw [hy112]; exact H) | exact H
  have Ny112 := Aside0.mk hy112
  clear hy112
  by_cases c7 : y112.length + t104.length < 5864062014805
  · rw [if_pos c7] at H
    have LMc7 := Aside0.mk c7
    clear c7
    obtain ⟨y115, hy115⟩ : ∃ y_ : List (S35), y_ = (y112 ++ t104) := ⟨_, rfl⟩
    replace H : ((some (([(⟨a1_0, a1_1⟩ : S35)] : List (S35)) : List (S35))).bind fun y118 => (if y115.length + y118.length < 5864062014805 then ((postriderlaw16_Cut.f k (y115 ++ y118)).bind fun t124 => ((route_Find.f t104 t107 t108 t109 t110 t111).bind fun bt127 => ((route_Find.f t124 t107 t108 t109 t110 t111).bind fun bt130 => (if bt127.2.2 = 0 then (if bt130.2.2 = 0 then (if t103 = true then (if bt130.2.1 = true then (if bt130.1 = (t104.length : Int) then (some true) else (if (bt127.2.1 == bt130.2.1) = true then (some (bt127.1 == bt130.1)) else (none))) else (if (bt127.2.1 == bt130.2.1) = true then (some (bt127.1 == bt130.1)) else (none))) else (none)) else (if t103 = true then (some (!bt130.2.1)) else (none))) else (if t103 = true then (if bt127.2.1 = true then (none) else (if bt130.2.2 = 0 then (some true) else (some (!bt130.2.1)))) else (none)))))) else (none))) = some r := by first | (rw [hy115]; with_reducible exact H) | (have H2_ := (Option.bind_some _ _).symm.trans H; rw [hy115]; with_reducible exact H2_) | (have H2_ := (Option.bind_some _ _).symm.trans H; with_reducible exact H2_) | with_reducible exact H | (rw [hy115]; exact H) | exact H
    have Ny115 := Aside0.mk hy115
    clear hy115
    obtain ⟨y118, hy118⟩ : ∃ y_ : List (S35), y_ = (([(⟨a1_0, a1_1⟩ : S35)] : List (S35))) := ⟨_, rfl⟩
    replace H : (if y115.length + y118.length < 5864062014805 then ((postriderlaw16_Cut.f k (y115 ++ y118)).bind fun t124 => ((route_Find.f t104 t107 t108 t109 t110 t111).bind fun bt127 => ((route_Find.f t124 t107 t108 t109 t110 t111).bind fun bt130 => (if bt127.2.2 = 0 then (if bt130.2.2 = 0 then (if t103 = true then (if bt130.2.1 = true then (if bt130.1 = (t104.length : Int) then (some true) else (if (bt127.2.1 == bt130.2.1) = true then (some (bt127.1 == bt130.1)) else (none))) else (if (bt127.2.1 == bt130.2.1) = true then (some (bt127.1 == bt130.1)) else (none))) else (none)) else (if t103 = true then (some (!bt130.2.1)) else (none))) else (if t103 = true then (if bt127.2.1 = true then (none) else (if bt130.2.2 = 0 then (some true) else (some (!bt130.2.1)))) else (none)))))) else (none)) = some r := by first | (rw [hy118]; with_reducible exact H) | (have H2_ := (Option.bind_some _ _).symm.trans H; rw [hy118]; with_reducible exact H2_) | (have H2_ := (Option.bind_some _ _).symm.trans H; with_reducible exact H2_) | with_reducible exact H | (rw [hy118]; exact H) | exact H
    have Ny118 := Aside0.mk hy118
    clear hy118
    by_cases c8 : y115.length + y118.length < 5864062014805
    · rw [if_pos c8] at H
      have LMc8 := Aside0.mk c8
      clear c8
      obtain ⟨y121, hy121⟩ : ∃ y_ : List (S35), y_ = (y115 ++ y118) := ⟨_, rfl⟩
      replace H : ((postriderlaw16_Cut.f k y121).bind fun t124 => ((route_Find.f t104 t107 t108 t109 t110 t111).bind fun bt127 => ((route_Find.f t124 t107 t108 t109 t110 t111).bind fun bt130 => (if bt127.2.2 = 0 then (if bt130.2.2 = 0 then (if t103 = true then (if bt130.2.1 = true then (if bt130.1 = (t104.length : Int) then (some true) else (if (bt127.2.1 == bt130.2.1) = true then (some (bt127.1 == bt130.1)) else (none))) else (if (bt127.2.1 == bt130.2.1) = true then (some (bt127.1 == bt130.1)) else (none))) else (none)) else (if t103 = true then (some (!bt130.2.1)) else (none))) else (if t103 = true then (if bt127.2.1 = true then (none) else (if bt130.2.2 = 0 then (some true) else (some (!bt130.2.1)))) else (none)))))) = some r := by first | (rw [hy121]; with_reducible exact H) | (have H2_ := (Option.bind_some _ _).symm.trans H; rw [hy121]; with_reducible exact H2_) | (have H2_ := (Option.bind_some _ _).symm.trans H; with_reducible exact H2_) | with_reducible exact H | (rw [hy121]; exact H) | exact H
      have Ny121 := Aside0.mk hy121
      clear hy121
      replace H := Option.bind_eq_some_iff.mp H
      obtain ⟨t124, A90, H⟩ := H
      replace H : ((route_Find.f t104 t107 t108 t109 t110 t111).bind fun bt127 => ((route_Find.f t124 t107 t108 t109 t110 t111).bind fun bt130 => (if bt127.2.2 = 0 then (if bt130.2.2 = 0 then (if t103 = true then (if bt130.2.1 = true then (if bt130.1 = (t104.length : Int) then (some true) else (if (bt127.2.1 == bt130.2.1) = true then (some (bt127.1 == bt130.1)) else (none))) else (if (bt127.2.1 == bt130.2.1) = true then (some (bt127.1 == bt130.1)) else (none))) else (none)) else (if t103 = true then (some (!bt130.2.1)) else (none))) else (if t103 = true then (if bt127.2.1 = true then (none) else (if bt130.2.2 = 0 then (some true) else (some (!bt130.2.1)))) else (none))))) = some r := H
      have A9 := Aside0.mk A90
      clear A90
      replace H := Option.bind_eq_some_iff.mp H
      obtain ⟨⟨t127, t128, t129⟩, A100, H⟩ := H
      replace H : ((route_Find.f t124 t107 t108 t109 t110 t111).bind fun bt130 => (if t129 = 0 then (if bt130.2.2 = 0 then (if t103 = true then (if bt130.2.1 = true then (if bt130.1 = (t104.length : Int) then (some true) else (if (t128 == bt130.2.1) = true then (some (t127 == bt130.1)) else (none))) else (if (t128 == bt130.2.1) = true then (some (t127 == bt130.1)) else (none))) else (none)) else (if t103 = true then (some (!bt130.2.1)) else (none))) else (if t103 = true then (if t128 = true then (none) else (if bt130.2.2 = 0 then (some true) else (some (!bt130.2.1)))) else (none)))) = some r := H
      have A10 := Aside0.mk A100
      clear A100
      replace H := Option.bind_eq_some_iff.mp H
      obtain ⟨⟨t130, t131, t132⟩, A110, H⟩ := H
      replace H : (if t129 = 0 then (if t132 = 0 then (if t103 = true then (if t131 = true then (if t130 = (t104.length : Int) then (some true) else (if (t128 == t131) = true then (some (t127 == t130)) else (none))) else (if (t128 == t131) = true then (some (t127 == t130)) else (none))) else (none)) else (if t103 = true then (some (!t131)) else (none))) else (if t103 = true then (if t128 = true then (none) else (if t132 = 0 then (some true) else (some (!t131)))) else (none))) = some r := H
      have A11 := Aside0.mk A110
      clear A110
      have T103 : t103 = true := by
        cases t103 with
        | true => rfl
        | false => exfalso; simp at H
      subst T103
      have HTREE := Aside0.mk H
      clear H
      go_enter Tryz.func4, Tryz.ntmps4
      try go_wp2_with (first | ((with_reducible refine gate_dst (N := 4) rfl ?_); (try (refine gate_guard (by rfl) ?_; dsimp only)); refine box_event ?hg (N := 4) ?hd (cs := #[.string a1_0, .int .i64 a1_1]) (t := 35) ?hr ?_; (case hd => rfl); (case hg => rfl); (case hr => first | (go_simp; done) | (go_simp; rfl) | (go_simp; simp only [isEmpty_ne, isEmpty_eq]; done) | (go_simp; simp only [isEmpty_ne, isEmpty_eq]; rfl)); intro gb101 hg w17 hbox hb; have n0_ := Aside0.mk (below_step (by repeat (first | (with_reducible first | exact HB.out | apply below_alloc | apply pw_below_drewN | apply below_drew1) | exact HB.out)) hb); have n1_ := Aside0.mk (hbox); have n2_ := Aside0.mk ((by rw [hg]; exact (below_size (by repeat (first | (with_reducible first | exact HB.out | apply below_alloc | apply pw_below_drewN | apply below_drew1) | exact HB.out))) : w.heap.size ≤ gb101)); have n3_ := Aside0.mk ((by rw [hg]; exact (below_size (by repeat (first | (with_reducible first | exact HB.out | apply below_alloc | apply pw_below_drewN | apply below_drew1) | exact HB.out))) : w.heap.size ≤ gb101)); clear HB; have HB := n0_; have BK101 := n1_; have GW101 := n2_; have GE101 := n3_; clear n0_ n1_ n2_ n3_; clear hb hbox hg) | ((with_reducible refine gate_dst (N := 5) rfl ?_); (try (refine gate_guard (by rfl) ?_; dsimp only)); refine box_event ?hg (N := 5) ?hd (cs := #[.int .i64 a2_0, .string a2_1, .string a2_2, .int .i64 a2_3, .int .i64 a2_4]) (t := 37) ?hr ?_; (case hd => rfl); (case hg => rfl); (case hr => first | (go_simp; done) | (go_simp; rfl) | (go_simp; simp only [isEmpty_ne, isEmpty_eq]; done) | (go_simp; simp only [isEmpty_ne, isEmpty_eq]; rfl)); intro gb102 hg w18 hbox hb; have n0_ := Aside0.mk (blk_below (g := gb101) (o := .cells #[.string a1_0, .int .i64 a1_1] 35 (0, 0)) (by (with_reducible repeat (first | refine blk_drewN ?_ _ | refine blk_drew ?_ | refine blk_alloc ?_ _)); exact BK101.out) hb); have n1_ := Aside0.mk (below_step (by repeat (first | (with_reducible first | exact HB.out | apply below_alloc | apply pw_below_drewN | apply below_drew1 | refine below_set ?_ GE101.out) | exact HB.out)) hb); have n2_ := Aside0.mk (hbox); have n3_ := Aside0.mk ((by rw [hg]; exact (below_size (by repeat (first | (with_reducible first | exact HB.out | apply below_alloc | apply pw_below_drewN | apply below_drew1 | refine below_set ?_ GE101.out) | exact HB.out))) : w.heap.size ≤ gb102)); have n4_ := Aside0.mk ((by rw [hg]; exact (below_size (by repeat (first | (with_reducible first | exact HB.out | apply below_alloc | apply pw_below_drewN | apply below_drew1 | refine below_set ?_ GE101.out) | exact HB.out))) : w.heap.size ≤ gb102)); have n5_ := Aside0.mk ((by rw [hg]; exact Nat.ne_of_lt (blk_lt (g := gb101) (o := .cells #[.string a1_0, .int .i64 a1_1] 35 (0, 0)) (by (with_reducible repeat (first | refine blk_drewN ?_ _ | refine blk_drew ?_ | refine blk_alloc ?_ _)); exact BK101.out)) : gb101 ≠ gb102)); have n6_ := Aside0.mk ((by rw [hg]; exact Nat.ne_of_gt (blk_lt (g := gb101) (o := .cells #[.string a1_0, .int .i64 a1_1] 35 (0, 0)) (by (with_reducible repeat (first | refine blk_drewN ?_ _ | refine blk_drew ?_ | refine blk_alloc ?_ _)); exact BK101.out)) : gb102 ≠ gb101)); clear BK101; clear HB; have BK101 := n0_; have HB := n1_; have BK102 := n2_; have GW102 := n3_; have GE102 := n4_; have NB101_102 := n5_; have NB102_101 := n6_; clear n0_ n1_ n2_ n3_ n4_ n5_ n6_; clear hb hbox hg) | ((with_reducible refine gate_callee (f := 10) rfl ?_); refine goesL_ (some 15) rfl rfl Tryz.func10 (by kernel_rfl) rfl #[] rfl (by (try simp only [List.map_toArray, List.map_cons, List.map_nil]); first | done | rfl | (simp only [List.length_drop, List.length_take]; rfl)) ?_; (with_reducible refine (postriderlaw16_shown.calls  true _ ?side1 A4.out).mono ?_); (case side1 => exact LaidR.below HLD.out (by repeat (first | (with_reducible first | exact HB.out | apply below_alloc | apply pw_below_drewN | apply below_drew1 | refine below_set ?_ GE101.out | refine below_set ?_ GE102.out) | exact HB.out))); rintro e w19 ⟨rfl, hb⟩; refine ⟨_, rfl, ?_⟩; have n0_ := Aside0.mk (blk_below (g := gb101) (o := .cells #[.string a1_0, .int .i64 a1_1] 35 (0, 0)) (by (with_reducible repeat (first | refine blk_drewN ?_ _ | refine blk_drew ?_ | refine blk_alloc ?_ _)); exact BK101.out) hb); have n1_ := Aside0.mk (blk_below (g := gb102) (o := .cells #[.int .i64 a2_0, .string a2_1, .string a2_2, .int .i64 a2_3, .int .i64 a2_4] 37 (0, 0)) (by (with_reducible repeat (first | refine blk_drewN ?_ _ | refine blk_drew ?_ | refine blk_alloc ?_ _)); exact BK102.out) hb); have n2_ := Aside0.mk (below_step (by repeat (first | (with_reducible first | exact HB.out | apply below_alloc | apply pw_below_drewN | apply below_drew1 | refine below_set ?_ GE101.out | refine below_set ?_ GE102.out) | exact HB.out)) hb); clear BK101; clear BK102; clear HB; have BK101 := n0_; have BK102 := n1_; have HB := n2_; clear n0_ n1_ n2_; (try clear hb); (try clear hb2); (try clear hk); (try clear hi)) | ((with_reducible refine gate_callee (f := 17) rfl ?_); refine goesL_ (some 17) rfl rfl Tryz.func17 (by kernel_rfl) rfl #[.slice A0 l0.length c0] rfl (by (try simp only [List.map_toArray, List.map_cons, List.map_nil]); first | done | rfl | (simp only [List.length_drop, List.length_take]; rfl)) ?_; (with_reducible refine (postriderlaw16_Cut.calls k _ _ l0 t104 _ ?side1 ?side2 A5.out).mono ?_); (case side1 => repeat (first | exact (Kd.C_below HR0.out HB.out) | (with_reducible refine Kd.C_alloc ?_ _) | (with_reducible refine Kd.C_drewN ?_ _) | (with_reducible refine Kd.C_drew ?_))); (case side2 => exact HC0.out); rintro e w20 ⟨v105, rfl, ho0, hb⟩; refine ⟨_, rfl, ?_⟩; have n0_ := Aside0.mk (Kd.R_lower (Kd.R_newB ho0 (g := gb101) (o := .cells #[.string a1_0, .int .i64 a1_1] 35 (0, 0)) (by (with_reducible repeat (first | refine blk_drewN ?_ _ | refine blk_drew ?_ | refine blk_alloc ?_ _)); exact BK101.out)) (below_size (by repeat (first | (with_reducible first | exact HB.out | apply below_alloc | apply pw_below_drewN | apply below_drew1 | refine below_set ?_ GE101.out | refine below_set ?_ GE102.out) | exact HB.out)))); have n1_ := Aside0.mk (blk_below (g := gb101) (o := .cells #[.string a1_0, .int .i64 a1_1] 35 (0, 0)) (by (with_reducible repeat (first | refine blk_drewN ?_ _ | refine blk_drew ?_ | refine blk_alloc ?_ _)); exact BK101.out) hb); have n2_ := Aside0.mk (blk_below (g := gb102) (o := .cells #[.int .i64 a2_0, .string a2_1, .string a2_2, .int .i64 a2_3, .int .i64 a2_4] 37 (0, 0)) (by (with_reducible repeat (first | refine blk_drewN ?_ _ | refine blk_drew ?_ | refine blk_alloc ?_ _)); exact BK102.out) hb); have n3_ := Aside0.mk (below_step (by repeat (first | (with_reducible first | exact HB.out | apply below_alloc | apply pw_below_drewN | apply below_drew1 | refine below_set ?_ GE101.out | refine below_set ?_ GE102.out) | exact HB.out)) hb); clear BK101; clear BK102; clear HB; have HO106 := n0_; have BK101 := n1_; have BK102 := n2_; have HB := n3_; clear n0_ n1_ n2_ n3_; (try clear hb); (try clear hb2); (try clear hk); (try clear hi); (try clear ho0); have hnb21 := NB102_101.out; have hnc21 := NB101_102.out; have hcz22_0 : w20.cell? ⟨gb102, 0, none⟩ = some (.int .i64 a2_0) := (blk_cell BK102.out 0).trans rfl; have hcz22_1 : w20.cell? ⟨gb102, 1, none⟩ = some (.string a2_1) := (blk_cell BK102.out 1).trans rfl; have hcz22_2 : w20.cell? ⟨gb102, 2, none⟩ = some (.string a2_2) := (blk_cell BK102.out 2).trans rfl; have hcz22_3 : w20.cell? ⟨gb102, 3, none⟩ = some (.int .i64 a2_3) := (blk_cell BK102.out 3).trans rfl; have hcz22_4 : w20.cell? ⟨gb102, 4, none⟩ = some (.int .i64 a2_4) := (blk_cell BK102.out 4).trans rfl; have hfz22_0 := blk_frozen BK102.out 0; have hfz22_1 := blk_frozen BK102.out 1; have hfz22_2 := blk_frozen BK102.out 2; have hfz22_3 := blk_frozen BK102.out 3; have hfz22_4 := blk_frozen BK102.out 4) | ((with_reducible refine gate_callee (f := 18) rfl ?_); refine goesL_ (some 19) rfl rfl Tryz.func18 (by kernel_rfl) rfl #[.agg #[.int .i64 a2_0, .string a2_1, .string a2_2, .int .i64 a2_3, .int .i64 a2_4]] rfl (by (try simp only [List.map_toArray, List.map_cons, List.map_nil]); first | done | rfl | (simp only [List.length_drop, List.length_take]; rfl)) ?_; (with_reducible refine (postriderlaw06_Cut.calls a2_0 a2_1 a2_2 a2_3 a2_4 t107 t108 t109 t110 t111 _ A6.out).mono ?_); rintro e w23 ⟨rfl, hb⟩; refine ⟨_, rfl, ?_⟩; have n0_ := Aside0.mk (Kd.R_below (by (with_reducible repeat (first | apply Kd.R_alloc | apply Kd.R_drewN | apply Kd.R_drew)); exact HO106.out) hb); have n1_ := Aside0.mk (blk_below (g := gb101) (o := .cells #[.string a1_0, .int .i64 a1_1] 35 (0, 0)) (by (with_reducible repeat (first | refine blk_drewN ?_ _ | refine blk_drew ?_ | refine blk_alloc ?_ _)); exact BK101.out) hb); have n2_ := Aside0.mk (blk_below (g := gb102) (o := .cells #[.int .i64 a2_0, .string a2_1, .string a2_2, .int .i64 a2_3, .int .i64 a2_4] 37 (0, 0)) (by (with_reducible repeat (first | refine blk_drewN ?_ _ | refine blk_drew ?_ | refine blk_alloc ?_ _)); exact BK102.out) hb); have n3_ := Aside0.mk (below_step (by repeat (first | (with_reducible first | exact HB.out | apply below_alloc | apply pw_below_drewN | apply below_drew1 | refine below_set ?_ GE101.out | refine below_set ?_ GE102.out) | exact HB.out)) hb); clear HO106; clear BK101; clear BK102; clear HB; have HO106 := n0_; have BK101 := n1_; have BK102 := n2_; have HB := n3_; clear n0_ n1_ n2_ n3_; (try clear hb); (try clear hb2); (try clear hk); (try clear hi); have hcz24_0 : w23.cell? ⟨gb102, 0, none⟩ = some (.int .i64 a2_0) := (blk_cell BK102.out 0).trans rfl; have hcz24_1 : w23.cell? ⟨gb102, 1, none⟩ = some (.string a2_1) := (blk_cell BK102.out 1).trans rfl; have hcz24_2 : w23.cell? ⟨gb102, 2, none⟩ = some (.string a2_2) := (blk_cell BK102.out 2).trans rfl; have hcz24_3 : w23.cell? ⟨gb102, 3, none⟩ = some (.int .i64 a2_3) := (blk_cell BK102.out 3).trans rfl; have hcz24_4 : w23.cell? ⟨gb102, 4, none⟩ = some (.int .i64 a2_4) := (blk_cell BK102.out 4).trans rfl; have hfz24_0 := blk_frozen BK102.out 0; have hfz24_1 := blk_frozen BK102.out 1; have hfz24_2 := blk_frozen BK102.out 2; have hfz24_3 := blk_frozen BK102.out 3; have hfz24_4 := blk_frozen BK102.out 4; obtain ⟨Ao25, co25, eo25⟩ := Kd.R_slice HO106.out; subst eo25))
      have n0_ : Aside0 (Kd.R k35 35 (((((w23.setCell ⟨gb102, 0, none⟩ (.int .i64 t107)).setCell ⟨gb102, 1, none⟩ (.string t108)).setCell ⟨gb102, 2, none⟩ (.string t109)).setCell ⟨gb102, 3, none⟩ (.int .i64 t110)).setCell ⟨gb102, 4, none⟩ (.int .i64 t111)) w.heap.size (fun k_ => k_ ≠ gb101) (.slice Ao25 t104.length co25) t104) := ⟨by (with_reducible repeat (first | apply Kd.R_alloc | apply Kd.R_drewN | apply Kd.R_drew)); exact Kd.R_mono (Kd.R_far (p := ⟨gb102, 4, none⟩) (Kd.R_far (p := ⟨gb102, 3, none⟩) (Kd.R_far (p := ⟨gb102, 2, none⟩) (Kd.R_far (p := ⟨gb102, 1, none⟩) (Kd.R_far (p := ⟨gb102, 0, none⟩) (Kd.R_types HO106.out BK102.out (by decide)) (fun _ hk => hk.2) (.int .i64 t107)) (fun _ hk => hk.2) (.string t108)) (fun _ hk => hk.2) (.string t109)) (fun _ hk => hk.2) (.int .i64 t110)) (fun _ hk => hk.2) (.int .i64 t111)) (fun _ hk => hk.1.2)⟩
      have n1_ : Aside0 ((((((w23.setCell ⟨gb102, 0, none⟩ (.int .i64 t107)).setCell ⟨gb102, 1, none⟩ (.string t108)).setCell ⟨gb102, 2, none⟩ (.string t109)).setCell ⟨gb102, 3, none⟩ (.int .i64 t110)).setCell ⟨gb102, 4, none⟩ (.int .i64 t111)).heap[gb101]? = some (.cells #[.string a1_0, .int .i64 a1_1] 35 (0, 0))) := ⟨by (with_reducible repeat (first | refine blk_drewN ?_ _ | refine blk_drew ?_ | refine blk_alloc ?_ _)); refine blk_far ?_ NB101_102.out _; (with_reducible repeat (first | refine blk_drewN ?_ _ | refine blk_drew ?_ | refine blk_alloc ?_ _)); refine blk_far ?_ NB101_102.out _; (with_reducible repeat (first | refine blk_drewN ?_ _ | refine blk_drew ?_ | refine blk_alloc ?_ _)); refine blk_far ?_ NB101_102.out _; (with_reducible repeat (first | refine blk_drewN ?_ _ | refine blk_drew ?_ | refine blk_alloc ?_ _)); refine blk_far ?_ NB101_102.out _; (with_reducible repeat (first | refine blk_drewN ?_ _ | refine blk_drew ?_ | refine blk_alloc ?_ _)); refine blk_far ?_ NB101_102.out _; (with_reducible repeat (first | refine blk_drewN ?_ _ | refine blk_drew ?_ | refine blk_alloc ?_ _)); exact BK101.out⟩
      have n2_ : Aside0 ((((((w23.setCell ⟨gb102, 0, none⟩ (.int .i64 t107)).setCell ⟨gb102, 1, none⟩ (.string t108)).setCell ⟨gb102, 2, none⟩ (.string t109)).setCell ⟨gb102, 3, none⟩ (.int .i64 t110)).setCell ⟨gb102, 4, none⟩ (.int .i64 t111)).heap[gb102]? = some (.cells #[.int .i64 t107, .string t108, .string t109, .int .i64 t110, .int .i64 t111] 37 (0, 0))) := ⟨by (with_reducible repeat (first | refine blk_drewN ?_ _ | refine blk_drew ?_ | refine blk_alloc ?_ _)); refine blk_put (cs := #[.int .i64 t107, .string t108, .string t109, .int .i64 t110, .int .i64 a2_4]) ?_ 4 _ rfl; (with_reducible repeat (first | refine blk_drewN ?_ _ | refine blk_drew ?_ | refine blk_alloc ?_ _)); refine blk_put (cs := #[.int .i64 t107, .string t108, .string t109, .int .i64 a2_3, .int .i64 a2_4]) ?_ 3 _ rfl; (with_reducible repeat (first | refine blk_drewN ?_ _ | refine blk_drew ?_ | refine blk_alloc ?_ _)); refine blk_put (cs := #[.int .i64 t107, .string t108, .string a2_2, .int .i64 a2_3, .int .i64 a2_4]) ?_ 2 _ rfl; (with_reducible repeat (first | refine blk_drewN ?_ _ | refine blk_drew ?_ | refine blk_alloc ?_ _)); refine blk_put (cs := #[.int .i64 t107, .string a2_1, .string a2_2, .int .i64 a2_3, .int .i64 a2_4]) ?_ 1 _ rfl; (with_reducible repeat (first | refine blk_drewN ?_ _ | refine blk_drew ?_ | refine blk_alloc ?_ _)); refine blk_put (cs := #[.int .i64 a2_0, .string a2_1, .string a2_2, .int .i64 a2_3, .int .i64 a2_4]) ?_ 0 _ rfl; (with_reducible repeat (first | refine blk_drewN ?_ _ | refine blk_drew ?_ | refine blk_alloc ?_ _)); exact BK102.out⟩
      have n3_ : Aside0 (Below w.heap.size w (((((w23.setCell ⟨gb102, 0, none⟩ (.int .i64 t107)).setCell ⟨gb102, 1, none⟩ (.string t108)).setCell ⟨gb102, 2, none⟩ (.string t109)).setCell ⟨gb102, 3, none⟩ (.int .i64 t110)).setCell ⟨gb102, 4, none⟩ (.int .i64 t111))) := ⟨by repeat (first | (with_reducible first | exact HB.out | apply below_alloc | apply pw_below_drewN | apply below_drew1 | refine below_set ?_ GE101.out | refine below_set ?_ GE102.out) | exact HB.out)⟩
      (try clear HO106)
      (try clear BK101)
      (try clear BK102)
      (try clear HB)
      generalize (((((w23.setCell ⟨gb102, 0, none⟩ (.int .i64 t107)).setCell ⟨gb102, 1, none⟩ (.string t108)).setCell ⟨gb102, 2, none⟩ (.string t109)).setCell ⟨gb102, 3, none⟩ (.int .i64 t110)).setCell ⟨gb102, 4, none⟩ (.int .i64 t111)) = w26 at n0_ n1_ n2_ n3_ ⊢
      have HO106 := n0_
      have BK101 := n1_
      have BK102 := n2_
      have HB := n3_
      clear n0_ n1_ n2_ n3_
      have n0_ := Aside0.mk (Kd.R_drew HO106.out)
      have n1_ := Aside0.mk (blk_drew BK101.out)
      have n2_ := Aside0.mk (blk_drew BK102.out)
      have n3_ := Aside0.mk (below_drew1 HB.out)
      clear HO106
      clear BK101
      clear BK102
      clear HB
      have HO106 := n0_
      have BK101 := n1_
      have BK102 := n2_
      have HB := n3_
      clear n0_ n1_ n2_ n3_
      refine start_ (n := 8) (S := fun w' => w'.cell? ⟨gb101, 0, none⟩ = some (.string a1_0) ∧ w'.cell? ⟨gb101, 1, none⟩ = some (.int .i64 a1_1)) (ds := []) #[false, false, false, false, false, false, false, false] (by kernel_rfl) rfl rfl ⟨(blk_cell BK101.out 0).trans rfl, (blk_cell BK101.out 1).trans rfl⟩ (fun hHeld => ?_); refine with_tabW postriderlaw16_RouteMore.tab4 postriderlaw16_RouteMore.bits4 (fun HT_ HW_ => ?_)
      generalize w26.drew = w27 at HO106 BK101 BK102 HB hHeld ⊢
      refine pure_ (i := 1) (N := some 21) (v := ?_) (a' := ?_) #[false, true, false, false, false, false, false, false] rfl rfl (any_of HT_.out (by kernel_rfl)) (fun _ _ _ h => h) (Or.inl ⟨by rfl, ?_⟩) ?_ ?_
      rotate_left
      · intro w'
        go_simp
        with_reducible rfl
      rotate_left
      · simp only [Act.put, List.setIfInBounds_toArray, List.set_cons_zero, List.set_cons_succ, i64_w, i32_w]
        rfl
      refine take_ (i := 3) (N := some 23) (v := ?_) (a' := ?_) #[false, true, false, true, false, false, false, false] rfl rfl (take_ofW HT_.out HW_.out (by kernel_rfl)) (fun _ _ _ h => h) (Or.inl ⟨by rfl, ?_⟩) hHeld ?_ ?_
      rotate_left
      · rintro w' ⟨s0, s1⟩
        go_simp
        with_reducible rfl
      rotate_left
      · simp only [Act.put, List.setIfInBounds_toArray, List.set_cons_zero, List.set_cons_succ, i64_w, i32_w]
        rfl
      refine join_ (σ := Value × Value × Value) 3 #[true, true, true, true, true, false, false, false] (fun s_ => [(20, s_.1), (22, s_.2.1), (24, s_.2.2)]) (fun s_ w' => (w'.cell? ⟨gb101, 0, none⟩ = some (.string a1_0) ∧ w'.cell? ⟨gb101, 1, none⟩ = some (.int .i64 a1_1)) ∧ (Kd.R k35 35 w' w.heap.size (fun k_ => some k_ ≠ (s_.2.1 : Value).ownBlock ∧ some k_ ≠ (s_.2.2 : Value).ownBlock ∧ k_ ≠ gb101) (.slice Ao25 t104.length co25) t104) ∧ (Kd.R k35 35 w' w.heap.size (fun k_ => some k_ ≠ (.slice Ao25 t104.length co25 : Value).ownBlock ∧ some k_ ≠ (s_.2.2 : Value).ownBlock ∧ k_ ≠ gb101) s_.2.1 y115) ∧ (Kd.R k35 35 w' w.heap.size (fun k_ => some k_ ≠ (.slice Ao25 t104.length co25 : Value).ownBlock ∧ some k_ ≠ (s_.2.1 : Value).ownBlock ∧ k_ ≠ gb101) s_.2.2 y118) ∧ (w'.heap[gb101]? = some (.cells #[.string a1_0, .int .i64 a1_1] 35 (0, 0))) ∧ (w'.heap[gb102]? = some (.cells #[.int .i64 t107, .string t108, .string t109, .int .i64 t110, .int .i64 t111] 37 (0, 0))) ∧ (Below w.heap.size w w')) ?_ ?_
      rotate_left
      · intro hCont
        refine two_ (i := 0) (j := 4) (Ni := some 20) (Nj := some 24) #[true, true, false, true, false, false, false, false] #[false, true, false, true, true, false, false, false] rfl rfl rfl rfl (two_of HT_.out (by kernel_rfl)) (by decide) (by decide) (fun K hK => ?_) (fun K hK => ?_)
        · skip
          refine Kd.R_lit_step k35 _ 35 ?hg (N := 20) ?hd (xs := ([] : List (S35))) (inner := []) (ok := fun _ => True) (okp := fun _ => True) ?hr ?hp (fun _ hk => hk) trivial (Below.refl _ _) (Nat.le_refl _) (by simp) ?_; (case hd => rfl); (case hg => rfl); (case hr => first | (go_simp; done) | (go_simp; rfl) | (go_simp; simp only [isEmpty_ne, isEmpty_eq]; done) | (go_simp; simp only [isEmpty_ne, isEmpty_eq]; rfl)); (case hp => exact (Reps.none _ _))
          intro v113 w28 ho29 hb hg_ hnew_
          clear hg_ hnew_
          (first | rw [← Ny112.out] at ho29 | (simp only [Int.reduceToNat] at ho29; rw [← Ny112.out] at ho29))
          have n0_ := Aside0.mk (Kd.R_elder' (by (with_reducible repeat (first | apply Kd.R_alloc | apply Kd.R_drewN | apply Kd.R_drew)); exact HO106.out) (Kd.R_base ho29) hb)
          have n1_ := Aside0.mk (Kd.R_lower (Kd.R_newB (Kd.R_new' ho29 (Kd.R_lt (by (with_reducible repeat (first | apply Kd.R_alloc | apply Kd.R_drewN | apply Kd.R_drew)); exact HO106.out))) (g := gb101) (o := .cells #[.string a1_0, .int .i64 a1_1] 35 (0, 0)) (by (with_reducible repeat (first | refine blk_drewN ?_ _ | refine blk_drew ?_ | refine blk_alloc ?_ _)); exact BK101.out)) (below_size (by repeat (first | (with_reducible first | exact HB.out | apply below_alloc | apply pw_below_drewN | apply below_drew1 | refine below_set ?_ GE101.out | refine below_set ?_ GE102.out) | exact HB.out))))
          have n2_ := Aside0.mk (blk_below (g := gb101) (o := .cells #[.string a1_0, .int .i64 a1_1] 35 (0, 0)) (by (with_reducible repeat (first | refine blk_drewN ?_ _ | refine blk_drew ?_ | refine blk_alloc ?_ _)); exact BK101.out) hb)
          have n3_ := Aside0.mk (blk_below (g := gb102) (o := .cells #[.int .i64 t107, .string t108, .string t109, .int .i64 t110, .int .i64 t111] 37 (0, 0)) (by (with_reducible repeat (first | refine blk_drewN ?_ _ | refine blk_drew ?_ | refine blk_alloc ?_ _)); exact BK102.out) hb)
          have n4_ := Aside0.mk (below_step (by repeat (first | (with_reducible first | exact HB.out | apply below_alloc | apply pw_below_drewN | apply below_drew1 | refine below_set ?_ GE101.out | refine below_set ?_ GE102.out) | exact HB.out)) hb)
          clear HO106
          clear BK101
          clear BK102
          clear HB
          have HO106 := n0_
          have HO114 := n1_
          have BK101 := n2_
          have BK102 := n3_
          have HB := n4_
          clear n0_ n1_ n2_ n3_ n4_
          clear hb ho29
          refine hK.out _ _ ⟨(blk_cell BK101.out 0).trans rfl, (blk_cell BK101.out 1).trans rfl⟩ (fun hHeld => ?_)
          clear hK K
          refine norm_ (a' := ?_) ?_ ?_
          rotate_left
          · show Act.put _ (some 20) _ = _
            simp only [Act.put, List.setIfInBounds_toArray, List.set_cons_zero, List.set_cons_succ, i64_w, i32_w]
            rfl
          refine two_ (i := 2) (j := 4) (Ni := some 22) (Nj := some 24) #[true, true, true, true, false, false, false, false] #[true, true, false, true, true, false, false, false] rfl rfl rfl rfl (two_of HT_.out (by kernel_rfl)) (by decide) (by decide) (fun K hK => ?_) (fun K hK => ?_)
          · skip
            refine Kd.R_append_rows_step k35 (w0 := w) w.heap.size (by rfl) (.tmp 20) (.tmp 21) 33 35 (.agg #[(.string ⟨#[]⟩), (.int .i64 0)]) 24 rfl Tryz.underlying33 info35 rfl (by decide) (by omega) v113 y112 t104 _ _ _ (fun k_ => some k_ ≠ (.slice Ao25 t104.length co25 : Value).ownBlock ∧ k_ ≠ gb101) (fun _ => False) rfl rfl ?aO ?aR (fun _ _ h => h) (fun _ h => h.elim) ?aF ?aB ?aS ?aL ?_
            (case aR => repeat (first | exact (Kd.R_reads' HO106.out).2.2 | (with_reducible refine Kd.C_alloc ?_ _) | (with_reducible refine Kd.C_drewN ?_ _) | (with_reducible refine Kd.C_drew ?_)))
            (case aB => exact (by repeat (first | (with_reducible first | exact HB.out | apply below_alloc | apply pw_below_drewN | apply below_drew1 | refine below_set ?_ GE101.out | refine below_set ?_ GE102.out) | exact HB.out)))
            (case aF => exact (fun k_ hk => ⟨Kd.fresh' (Kd.R_lt (by (with_reducible repeat (first | apply Kd.R_alloc | apply Kd.R_drewN | apply Kd.R_drew)); exact HO106.out)) k_ hk, Kd.freshB (g := gb101) (o := .cells #[.string a1_0, .int .i64 a1_1] 35 (0, 0)) (by (with_reducible repeat (first | refine blk_drewN ?_ _ | refine blk_drew ?_ | refine blk_alloc ?_ _)); exact BK101.out) k_ hk⟩))
            (case aO => exact (by (with_reducible repeat (first | apply Kd.R_alloc | apply Kd.R_drewN | apply Kd.R_drew)); exact Kd.R_mono HO114.out (fun _ hk => ⟨hk.1.2, hk.2⟩)))
            (case aS => exact (below_size (by repeat (first | (with_reducible first | exact HB.out | apply below_alloc | apply pw_below_drewN | apply below_drew1 | refine below_set ?_ GE101.out | refine below_set ?_ GE102.out) | exact HB.out))))
            (case aL => have := LMc7.out; omega)
            intro v116 w30 ho hb hg hat
            rw [← Ny115.out] at ho
            have n0_ := Aside0.mk (blk_grown (g := gb101) (o := .cells #[.string a1_0, .int .i64 a1_1] 35 (0, 0)) (by (with_reducible repeat (first | refine blk_drewN ?_ _ | refine blk_drew ?_ | refine blk_alloc ?_ _)); exact BK101.out) hg (Kd.R_away HO114.out (fun _ hk => hk.2)))
            have n1_ := Aside0.mk (blk_grown (g := gb102) (o := .cells #[.int .i64 t107, .string t108, .string t109, .int .i64 t110, .int .i64 t111] 37 (0, 0)) (by (with_reducible repeat (first | refine blk_drewN ?_ _ | refine blk_drew ?_ | refine blk_alloc ?_ _)); exact BK102.out) hg (Kd.R_ne HO114.out BK102.out (by decide)))
            have n2_ := Aside0.mk (Kd.R_after (ok := (fun k_ => k_ ≠ gb101)) (by (with_reducible repeat (first | apply Kd.R_alloc | apply Kd.R_drewN | apply Kd.R_drew)); exact HO106.out) hg hat)
            have n3_ := Aside0.mk (hb)
            have n4_ := Aside0.mk (ho)
            clear BK101
            clear BK102
            clear HO106
            clear HB
            clear HO114
            have BK101 := n0_
            have BK102 := n1_
            have HO106 := n2_
            have HB := n3_
            have HO117 := n4_
            clear n0_ n1_ n2_ n3_ n4_
            clear ho hb hg hat
            refine hK.out _ _ ⟨(blk_cell BK101.out 0).trans rfl, (blk_cell BK101.out 1).trans rfl⟩ (fun hHeld => ?_)
            clear hK K
            refine norm_ (a' := ?_) ?_ ?_
            rotate_left
            · show Act.put _ (some 22) _ = _
              simp only [Act.put, List.setIfInBounds_toArray, List.set_cons_zero, List.set_cons_succ, i64_w, i32_w]
              rfl
            refine one_ (i := 4) (N := some 24) #[true, true, true, true, true, false, false, false] rfl rfl (one_of HT_.out (by kernel_rfl)) (by decide) (fun K hK => ?_)
            refine Kd.R_lit_step k35 _ 35 ?hg (N := 24) ?hd (xs := ([(⟨a1_0, a1_1⟩ : S35)] : List (S35))) (inner := [.string a1_0, .int .i64 a1_1]) (ok := fun _ => True) (okp := fun _ => True) ?hr ?hp (fun _ hk => hk) trivial (Below.refl _ _) (Nat.le_refl _) (by simp) ?_; (case hd => rfl); (case hg => rfl); (case hr => first | (go_simp; done) | (go_simp; rfl) | (go_simp; simp only [isEmpty_ne, isEmpty_eq]; done) | (go_simp; simp only [isEmpty_ne, isEmpty_eq]; rfl)); (case hp => exact (Reps.c2 (show Kd.M k35 _ _ _ (⟨a1_0, a1_1⟩ : S35) [.string a1_0, .int .i64 a1_1] from (k35_mkM _ _ _ (⟨a1_0, a1_1⟩ : S35) )) (Reps.none _ _)))
            intro v119 w31 ho32 hb hg_ hnew_
            clear hg_ hnew_
            (first | rw [← Ny118.out] at ho32 | (simp only [Int.reduceToNat] at ho32; rw [← Ny118.out] at ho32))
            have n0_ := Aside0.mk (Kd.R_elder' (by (with_reducible repeat (first | apply Kd.R_alloc | apply Kd.R_drewN | apply Kd.R_drew)); exact HO106.out) (Kd.R_base ho32) hb)
            have n1_ := Aside0.mk (Kd.R_elder' (by (with_reducible repeat (first | apply Kd.R_alloc | apply Kd.R_drewN | apply Kd.R_drew)); exact HO117.out) (Kd.R_base ho32) hb)
            have n2_ := Aside0.mk (Kd.R_lower (Kd.R_newB (Kd.R_new' (Kd.R_new' ho32 (Kd.R_lt (by (with_reducible repeat (first | apply Kd.R_alloc | apply Kd.R_drewN | apply Kd.R_drew)); exact HO106.out))) (Kd.R_lt (by (with_reducible repeat (first | apply Kd.R_alloc | apply Kd.R_drewN | apply Kd.R_drew)); exact HO117.out))) (g := gb101) (o := .cells #[.string a1_0, .int .i64 a1_1] 35 (0, 0)) (by (with_reducible repeat (first | refine blk_drewN ?_ _ | refine blk_drew ?_ | refine blk_alloc ?_ _)); exact BK101.out)) (below_size (by repeat (first | (with_reducible first | exact HB.out | apply below_alloc | apply pw_below_drewN | apply below_drew1 | refine below_set ?_ GE101.out | refine below_set ?_ GE102.out) | exact HB.out))))
            have n3_ := Aside0.mk (blk_below (g := gb101) (o := .cells #[.string a1_0, .int .i64 a1_1] 35 (0, 0)) (by (with_reducible repeat (first | refine blk_drewN ?_ _ | refine blk_drew ?_ | refine blk_alloc ?_ _)); exact BK101.out) hb)
            have n4_ := Aside0.mk (blk_below (g := gb102) (o := .cells #[.int .i64 t107, .string t108, .string t109, .int .i64 t110, .int .i64 t111] 37 (0, 0)) (by (with_reducible repeat (first | refine blk_drewN ?_ _ | refine blk_drew ?_ | refine blk_alloc ?_ _)); exact BK102.out) hb)
            have n5_ := Aside0.mk (below_step (by repeat (first | (with_reducible first | exact HB.out | apply below_alloc | apply pw_below_drewN | apply below_drew1 | refine below_set ?_ GE101.out | refine below_set ?_ GE102.out) | exact HB.out)) hb)
            clear HO106
            clear HO117
            clear BK101
            clear BK102
            clear HB
            have HO106 := n0_
            have HO117 := n1_
            have HO120 := n2_
            have BK101 := n3_
            have BK102 := n4_
            have HB := n5_
            clear n0_ n1_ n2_ n3_ n4_ n5_
            clear hb ho32
            refine hK.out _ _ ⟨(blk_cell BK101.out 0).trans rfl, (blk_cell BK101.out 1).trans rfl⟩ (fun hHeld => ?_)
            clear hK K
            refine norm_ (a' := ?_) ?_ ?_
            rotate_left
            · show Act.put _ (some 24) _ = _
              simp only [Act.put, List.setIfInBounds_toArray, List.set_cons_zero, List.set_cons_succ, i64_w, i32_w]
              rfl
            exact norm_ (by simp only [putAll, Act.put, List.setIfInBounds_toArray, List.set_cons_zero, List.set_cons_succ]) (hCont (v113, v116, v119) _ ⟨hHeld, (by (with_reducible repeat (first | apply Kd.R_alloc | apply Kd.R_drewN | apply Kd.R_drew)); exact Kd.R_mono HO106.out (fun _ hk => ⟨hk.1.2, ⟨hk.2, hk.1.1⟩⟩)), (by (with_reducible repeat (first | apply Kd.R_alloc | apply Kd.R_drewN | apply Kd.R_drew)); exact Kd.R_mono HO117.out (fun _ hk => ⟨hk.1.1, ⟨hk.2, hk.1.2⟩⟩)), (by (with_reducible repeat (first | apply Kd.R_alloc | apply Kd.R_drewN | apply Kd.R_drew)); exact Kd.R_mono HO120.out (fun _ hk => ⟨hk.1.1.2, ⟨hk.1.2, hk.2⟩⟩)), (by (with_reducible repeat (first | refine blk_drewN ?_ _ | refine blk_drew ?_ | refine blk_alloc ?_ _)); exact BK101.out), (by (with_reducible repeat (first | refine blk_drewN ?_ _ | refine blk_drew ?_ | refine blk_alloc ?_ _)); exact BK102.out), (by repeat (first | (with_reducible first | exact HB.out | apply below_alloc | apply pw_below_drewN | apply below_drew1 | refine below_set ?_ GE101.out | refine below_set ?_ GE102.out) | exact HB.out))⟩)
          · skip
            refine Kd.R_lit_step k35 _ 35 ?hg (N := 24) ?hd (xs := ([(⟨a1_0, a1_1⟩ : S35)] : List (S35))) (inner := [.string a1_0, .int .i64 a1_1]) (ok := fun _ => True) (okp := fun _ => True) ?hr ?hp (fun _ hk => hk) trivial (Below.refl _ _) (Nat.le_refl _) (by simp) ?_; (case hd => rfl); (case hg => rfl); (case hr => first | (go_simp; done) | (go_simp; rfl) | (go_simp; simp only [isEmpty_ne, isEmpty_eq]; done) | (go_simp; simp only [isEmpty_ne, isEmpty_eq]; rfl)); (case hp => exact (Reps.c2 (show Kd.M k35 _ _ _ (⟨a1_0, a1_1⟩ : S35) [.string a1_0, .int .i64 a1_1] from (k35_mkM _ _ _ (⟨a1_0, a1_1⟩ : S35) )) (Reps.none _ _)))
            intro v119 w30 ho31 hb hg_ hnew_
            clear hg_ hnew_
            (first | rw [← Ny118.out] at ho31 | (simp only [Int.reduceToNat] at ho31; rw [← Ny118.out] at ho31))
            have n0_ := Aside0.mk (Kd.R_elder' (by (with_reducible repeat (first | apply Kd.R_alloc | apply Kd.R_drewN | apply Kd.R_drew)); exact HO106.out) (Kd.R_base ho31) hb)
            have n1_ := Aside0.mk (Kd.R_elder' (by (with_reducible repeat (first | apply Kd.R_alloc | apply Kd.R_drewN | apply Kd.R_drew)); exact HO114.out) (Kd.R_base ho31) hb)
            have n2_ := Aside0.mk (Kd.R_lower (Kd.R_newB (Kd.R_new' (Kd.R_new' ho31 (Kd.R_lt (by (with_reducible repeat (first | apply Kd.R_alloc | apply Kd.R_drewN | apply Kd.R_drew)); exact HO106.out))) (Kd.R_lt (by (with_reducible repeat (first | apply Kd.R_alloc | apply Kd.R_drewN | apply Kd.R_drew)); exact HO114.out))) (g := gb101) (o := .cells #[.string a1_0, .int .i64 a1_1] 35 (0, 0)) (by (with_reducible repeat (first | refine blk_drewN ?_ _ | refine blk_drew ?_ | refine blk_alloc ?_ _)); exact BK101.out)) (below_size (by repeat (first | (with_reducible first | exact HB.out | apply below_alloc | apply pw_below_drewN | apply below_drew1 | refine below_set ?_ GE101.out | refine below_set ?_ GE102.out) | exact HB.out))))
            have n3_ := Aside0.mk (blk_below (g := gb101) (o := .cells #[.string a1_0, .int .i64 a1_1] 35 (0, 0)) (by (with_reducible repeat (first | refine blk_drewN ?_ _ | refine blk_drew ?_ | refine blk_alloc ?_ _)); exact BK101.out) hb)
            have n4_ := Aside0.mk (blk_below (g := gb102) (o := .cells #[.int .i64 t107, .string t108, .string t109, .int .i64 t110, .int .i64 t111] 37 (0, 0)) (by (with_reducible repeat (first | refine blk_drewN ?_ _ | refine blk_drew ?_ | refine blk_alloc ?_ _)); exact BK102.out) hb)
            have n5_ := Aside0.mk (below_step (by repeat (first | (with_reducible first | exact HB.out | apply below_alloc | apply pw_below_drewN | apply below_drew1 | refine below_set ?_ GE101.out | refine below_set ?_ GE102.out) | exact HB.out)) hb)
            clear HO106
            clear HO114
            clear BK101
            clear BK102
            clear HB
            have HO106 := n0_
            have HO114 := n1_
            have HO120 := n2_
            have BK101 := n3_
            have BK102 := n4_
            have HB := n5_
            clear n0_ n1_ n2_ n3_ n4_ n5_
            clear hb ho31
            refine hK.out _ _ ⟨(blk_cell BK101.out 0).trans rfl, (blk_cell BK101.out 1).trans rfl⟩ (fun hHeld => ?_)
            clear hK K
            refine norm_ (a' := ?_) ?_ ?_
            rotate_left
            · show Act.put _ (some 24) _ = _
              simp only [Act.put, List.setIfInBounds_toArray, List.set_cons_zero, List.set_cons_succ, i64_w, i32_w]
              rfl
            refine one_ (i := 2) (N := some 22) #[true, true, true, true, true, false, false, false] rfl rfl (one_of HT_.out (by kernel_rfl)) (by decide) (fun K hK => ?_)
            refine Kd.R_append_rows_step k35 (w0 := w) w.heap.size (by rfl) (.tmp 20) (.tmp 21) 33 35 (.agg #[(.string ⟨#[]⟩), (.int .i64 0)]) 24 rfl Tryz.underlying33 info35 rfl (by decide) (by omega) v113 y112 t104 _ _ _ (fun k_ => some k_ ≠ (.slice Ao25 t104.length co25 : Value).ownBlock ∧ some k_ ≠ (v119 : Value).ownBlock ∧ k_ ≠ gb101) (fun _ => False) rfl rfl ?aO ?aR (fun _ _ h => h) (fun _ h => h.elim) ?aF ?aB ?aS ?aL ?_
            (case aR => repeat (first | exact (Kd.R_reads' HO106.out).2.2 | (with_reducible refine Kd.C_alloc ?_ _) | (with_reducible refine Kd.C_drewN ?_ _) | (with_reducible refine Kd.C_drew ?_)))
            (case aB => exact (by repeat (first | (with_reducible first | exact HB.out | apply below_alloc | apply pw_below_drewN | apply below_drew1 | refine below_set ?_ GE101.out | refine below_set ?_ GE102.out) | exact HB.out)))
            (case aF => exact (fun k_ hk => ⟨Kd.fresh' (Kd.R_lt (by (with_reducible repeat (first | apply Kd.R_alloc | apply Kd.R_drewN | apply Kd.R_drew)); exact HO106.out)) k_ hk, Kd.fresh' (Kd.R_lt (by (with_reducible repeat (first | apply Kd.R_alloc | apply Kd.R_drewN | apply Kd.R_drew)); exact HO120.out)) k_ hk, Kd.freshB (g := gb101) (o := .cells #[.string a1_0, .int .i64 a1_1] 35 (0, 0)) (by (with_reducible repeat (first | refine blk_drewN ?_ _ | refine blk_drew ?_ | refine blk_alloc ?_ _)); exact BK101.out) k_ hk⟩))
            (case aO => exact (by (with_reducible repeat (first | apply Kd.R_alloc | apply Kd.R_drewN | apply Kd.R_drew)); exact Kd.R_mono HO114.out (fun _ hk => ⟨hk.1.1.2, ⟨hk.2, hk.1.2⟩⟩)))
            (case aS => exact (below_size (by repeat (first | (with_reducible first | exact HB.out | apply below_alloc | apply pw_below_drewN | apply below_drew1 | refine below_set ?_ GE101.out | refine below_set ?_ GE102.out) | exact HB.out))))
            (case aL => have := LMc7.out; omega)
            intro v116 w32 ho hb hg hat
            rw [← Ny115.out] at ho
            have n0_ := Aside0.mk (blk_grown (g := gb101) (o := .cells #[.string a1_0, .int .i64 a1_1] 35 (0, 0)) (by (with_reducible repeat (first | refine blk_drewN ?_ _ | refine blk_drew ?_ | refine blk_alloc ?_ _)); exact BK101.out) hg (Kd.R_away HO114.out (fun _ hk => hk.1.2)))
            have n1_ := Aside0.mk (blk_grown (g := gb102) (o := .cells #[.int .i64 t107, .string t108, .string t109, .int .i64 t110, .int .i64 t111] 37 (0, 0)) (by (with_reducible repeat (first | refine blk_drewN ?_ _ | refine blk_drew ?_ | refine blk_alloc ?_ _)); exact BK102.out) hg (Kd.R_ne HO114.out BK102.out (by decide)))
            have n2_ := Aside0.mk (Kd.R_after (ok := (fun k_ => some k_ ≠ (v119 : Value).ownBlock ∧ k_ ≠ gb101)) (by (with_reducible repeat (first | apply Kd.R_alloc | apply Kd.R_drewN | apply Kd.R_drew)); exact Kd.R_mono HO106.out (fun _ hk => ⟨⟨hk.2, hk.1.1⟩, hk.1.2⟩)) hg hat)
            have n3_ := Aside0.mk (Kd.R_after (ok := (fun k_ => some k_ ≠ (.slice Ao25 t104.length co25 : Value).ownBlock ∧ k_ ≠ gb101)) (by (with_reducible repeat (first | apply Kd.R_alloc | apply Kd.R_drewN | apply Kd.R_drew)); exact Kd.R_mono HO120.out (fun _ hk => ⟨⟨hk.1.1.2, hk.2⟩, hk.1.2⟩)) hg hat)
            have n4_ := Aside0.mk (hb)
            have n5_ := Aside0.mk (ho)
            clear BK101
            clear BK102
            clear HO106
            clear HO120
            clear HB
            clear HO114
            have BK101 := n0_
            have BK102 := n1_
            have HO106 := n2_
            have HO120 := n3_
            have HB := n4_
            have HO117 := n5_
            clear n0_ n1_ n2_ n3_ n4_ n5_
            clear ho hb hg hat
            refine hK.out _ _ ⟨(blk_cell BK101.out 0).trans rfl, (blk_cell BK101.out 1).trans rfl⟩ (fun hHeld => ?_)
            clear hK K
            refine norm_ (a' := ?_) ?_ ?_
            rotate_left
            · show Act.put _ (some 22) _ = _
              simp only [Act.put, List.setIfInBounds_toArray, List.set_cons_zero, List.set_cons_succ, i64_w, i32_w]
              rfl
            exact norm_ (by simp only [putAll, Act.put, List.setIfInBounds_toArray, List.set_cons_zero, List.set_cons_succ]) (hCont (v113, v116, v119) _ ⟨hHeld, (by (with_reducible repeat (first | apply Kd.R_alloc | apply Kd.R_drewN | apply Kd.R_drew)); exact Kd.R_mono HO106.out (fun _ hk => ⟨hk.2, ⟨hk.1.1, hk.1.2⟩⟩)), (by (with_reducible repeat (first | apply Kd.R_alloc | apply Kd.R_drewN | apply Kd.R_drew)); exact HO117.out), (by (with_reducible repeat (first | apply Kd.R_alloc | apply Kd.R_drewN | apply Kd.R_drew)); exact Kd.R_mono HO120.out (fun _ hk => ⟨hk.1.1, ⟨hk.2, hk.1.2⟩⟩)), (by (with_reducible repeat (first | refine blk_drewN ?_ _ | refine blk_drew ?_ | refine blk_alloc ?_ _)); exact BK101.out), (by (with_reducible repeat (first | refine blk_drewN ?_ _ | refine blk_drew ?_ | refine blk_alloc ?_ _)); exact BK102.out), (by repeat (first | (with_reducible first | exact HB.out | apply below_alloc | apply pw_below_drewN | apply below_drew1 | refine below_set ?_ GE101.out | refine below_set ?_ GE102.out) | exact HB.out))⟩)
        · skip
          refine Kd.R_lit_step k35 _ 35 ?hg (N := 24) ?hd (xs := ([(⟨a1_0, a1_1⟩ : S35)] : List (S35))) (inner := [.string a1_0, .int .i64 a1_1]) (ok := fun _ => True) (okp := fun _ => True) ?hr ?hp (fun _ hk => hk) trivial (Below.refl _ _) (Nat.le_refl _) (by simp) ?_; (case hd => rfl); (case hg => rfl); (case hr => first | (go_simp; done) | (go_simp; rfl) | (go_simp; simp only [isEmpty_ne, isEmpty_eq]; done) | (go_simp; simp only [isEmpty_ne, isEmpty_eq]; rfl)); (case hp => exact (Reps.c2 (show Kd.M k35 _ _ _ (⟨a1_0, a1_1⟩ : S35) [.string a1_0, .int .i64 a1_1] from (k35_mkM _ _ _ (⟨a1_0, a1_1⟩ : S35) )) (Reps.none _ _)))
          intro v119 w28 ho29 hb hg_ hnew_
          clear hg_ hnew_
          (first | rw [← Ny118.out] at ho29 | (simp only [Int.reduceToNat] at ho29; rw [← Ny118.out] at ho29))
          have n0_ := Aside0.mk (Kd.R_elder' (by (with_reducible repeat (first | apply Kd.R_alloc | apply Kd.R_drewN | apply Kd.R_drew)); exact HO106.out) (Kd.R_base ho29) hb)
          have n1_ := Aside0.mk (Kd.R_lower (Kd.R_newB (Kd.R_new' ho29 (Kd.R_lt (by (with_reducible repeat (first | apply Kd.R_alloc | apply Kd.R_drewN | apply Kd.R_drew)); exact HO106.out))) (g := gb101) (o := .cells #[.string a1_0, .int .i64 a1_1] 35 (0, 0)) (by (with_reducible repeat (first | refine blk_drewN ?_ _ | refine blk_drew ?_ | refine blk_alloc ?_ _)); exact BK101.out)) (below_size (by repeat (first | (with_reducible first | exact HB.out | apply below_alloc | apply pw_below_drewN | apply below_drew1 | refine below_set ?_ GE101.out | refine below_set ?_ GE102.out) | exact HB.out))))
          have n2_ := Aside0.mk (blk_below (g := gb101) (o := .cells #[.string a1_0, .int .i64 a1_1] 35 (0, 0)) (by (with_reducible repeat (first | refine blk_drewN ?_ _ | refine blk_drew ?_ | refine blk_alloc ?_ _)); exact BK101.out) hb)
          have n3_ := Aside0.mk (blk_below (g := gb102) (o := .cells #[.int .i64 t107, .string t108, .string t109, .int .i64 t110, .int .i64 t111] 37 (0, 0)) (by (with_reducible repeat (first | refine blk_drewN ?_ _ | refine blk_drew ?_ | refine blk_alloc ?_ _)); exact BK102.out) hb)
          have n4_ := Aside0.mk (below_step (by repeat (first | (with_reducible first | exact HB.out | apply below_alloc | apply pw_below_drewN | apply below_drew1 | refine below_set ?_ GE101.out | refine below_set ?_ GE102.out) | exact HB.out)) hb)
          clear HO106
          clear BK101
          clear BK102
          clear HB
          have HO106 := n0_
          have HO120 := n1_
          have BK101 := n2_
          have BK102 := n3_
          have HB := n4_
          clear n0_ n1_ n2_ n3_ n4_
          clear hb ho29
          refine hK.out _ _ ⟨(blk_cell BK101.out 0).trans rfl, (blk_cell BK101.out 1).trans rfl⟩ (fun hHeld => ?_)
          clear hK K
          refine norm_ (a' := ?_) ?_ ?_
          rotate_left
          · show Act.put _ (some 24) _ = _
            simp only [Act.put, List.setIfInBounds_toArray, List.set_cons_zero, List.set_cons_succ, i64_w, i32_w]
            rfl
          refine one_ (i := 0) (N := some 20) #[true, true, false, true, true, false, false, false] rfl rfl (one_of HT_.out (by kernel_rfl)) (by decide) (fun K hK => ?_)
          refine Kd.R_lit_step k35 _ 35 ?hg (N := 20) ?hd (xs := ([] : List (S35))) (inner := []) (ok := fun _ => True) (okp := fun _ => True) ?hr ?hp (fun _ hk => hk) trivial (Below.refl _ _) (Nat.le_refl _) (by simp) ?_; (case hd => rfl); (case hg => rfl); (case hr => first | (go_simp; done) | (go_simp; rfl) | (go_simp; simp only [isEmpty_ne, isEmpty_eq]; done) | (go_simp; simp only [isEmpty_ne, isEmpty_eq]; rfl)); (case hp => exact (Reps.none _ _))
          intro v113 w30 ho31 hb hg_ hnew_
          clear hg_ hnew_
          (first | rw [← Ny112.out] at ho31 | (simp only [Int.reduceToNat] at ho31; rw [← Ny112.out] at ho31))
          have n0_ := Aside0.mk (Kd.R_elder' (by (with_reducible repeat (first | apply Kd.R_alloc | apply Kd.R_drewN | apply Kd.R_drew)); exact HO106.out) (Kd.R_base ho31) hb)
          have n1_ := Aside0.mk (Kd.R_elder' (by (with_reducible repeat (first | apply Kd.R_alloc | apply Kd.R_drewN | apply Kd.R_drew)); exact HO120.out) (Kd.R_base ho31) hb)
          have n2_ := Aside0.mk (Kd.R_lower (Kd.R_newB (Kd.R_new' (Kd.R_new' ho31 (Kd.R_lt (by (with_reducible repeat (first | apply Kd.R_alloc | apply Kd.R_drewN | apply Kd.R_drew)); exact HO106.out))) (Kd.R_lt (by (with_reducible repeat (first | apply Kd.R_alloc | apply Kd.R_drewN | apply Kd.R_drew)); exact HO120.out))) (g := gb101) (o := .cells #[.string a1_0, .int .i64 a1_1] 35 (0, 0)) (by (with_reducible repeat (first | refine blk_drewN ?_ _ | refine blk_drew ?_ | refine blk_alloc ?_ _)); exact BK101.out)) (below_size (by repeat (first | (with_reducible first | exact HB.out | apply below_alloc | apply pw_below_drewN | apply below_drew1 | refine below_set ?_ GE101.out | refine below_set ?_ GE102.out) | exact HB.out))))
          have n3_ := Aside0.mk (blk_below (g := gb101) (o := .cells #[.string a1_0, .int .i64 a1_1] 35 (0, 0)) (by (with_reducible repeat (first | refine blk_drewN ?_ _ | refine blk_drew ?_ | refine blk_alloc ?_ _)); exact BK101.out) hb)
          have n4_ := Aside0.mk (blk_below (g := gb102) (o := .cells #[.int .i64 t107, .string t108, .string t109, .int .i64 t110, .int .i64 t111] 37 (0, 0)) (by (with_reducible repeat (first | refine blk_drewN ?_ _ | refine blk_drew ?_ | refine blk_alloc ?_ _)); exact BK102.out) hb)
          have n5_ := Aside0.mk (below_step (by repeat (first | (with_reducible first | exact HB.out | apply below_alloc | apply pw_below_drewN | apply below_drew1 | refine below_set ?_ GE101.out | refine below_set ?_ GE102.out) | exact HB.out)) hb)
          clear HO106
          clear HO120
          clear BK101
          clear BK102
          clear HB
          have HO106 := n0_
          have HO120 := n1_
          have HO114 := n2_
          have BK101 := n3_
          have BK102 := n4_
          have HB := n5_
          clear n0_ n1_ n2_ n3_ n4_ n5_
          clear hb ho31
          refine hK.out _ _ ⟨(blk_cell BK101.out 0).trans rfl, (blk_cell BK101.out 1).trans rfl⟩ (fun hHeld => ?_)
          clear hK K
          refine norm_ (a' := ?_) ?_ ?_
          rotate_left
          · show Act.put _ (some 20) _ = _
            simp only [Act.put, List.setIfInBounds_toArray, List.set_cons_zero, List.set_cons_succ, i64_w, i32_w]
            rfl
          refine one_ (i := 2) (N := some 22) #[true, true, true, true, true, false, false, false] rfl rfl (one_of HT_.out (by kernel_rfl)) (by decide) (fun K hK => ?_)
          refine Kd.R_append_rows_step k35 (w0 := w) w.heap.size (by rfl) (.tmp 20) (.tmp 21) 33 35 (.agg #[(.string ⟨#[]⟩), (.int .i64 0)]) 24 rfl Tryz.underlying33 info35 rfl (by decide) (by omega) v113 y112 t104 _ _ _ (fun k_ => some k_ ≠ (.slice Ao25 t104.length co25 : Value).ownBlock ∧ some k_ ≠ (v119 : Value).ownBlock ∧ k_ ≠ gb101) (fun _ => False) rfl rfl ?aO ?aR (fun _ _ h => h) (fun _ h => h.elim) ?aF ?aB ?aS ?aL ?_
          (case aR => repeat (first | exact (Kd.R_reads' HO106.out).2.2 | (with_reducible refine Kd.C_alloc ?_ _) | (with_reducible refine Kd.C_drewN ?_ _) | (with_reducible refine Kd.C_drew ?_)))
          (case aB => exact (by repeat (first | (with_reducible first | exact HB.out | apply below_alloc | apply pw_below_drewN | apply below_drew1 | refine below_set ?_ GE101.out | refine below_set ?_ GE102.out) | exact HB.out)))
          (case aF => exact (fun k_ hk => ⟨Kd.fresh' (Kd.R_lt (by (with_reducible repeat (first | apply Kd.R_alloc | apply Kd.R_drewN | apply Kd.R_drew)); exact HO106.out)) k_ hk, Kd.fresh' (Kd.R_lt (by (with_reducible repeat (first | apply Kd.R_alloc | apply Kd.R_drewN | apply Kd.R_drew)); exact HO120.out)) k_ hk, Kd.freshB (g := gb101) (o := .cells #[.string a1_0, .int .i64 a1_1] 35 (0, 0)) (by (with_reducible repeat (first | refine blk_drewN ?_ _ | refine blk_drew ?_ | refine blk_alloc ?_ _)); exact BK101.out) k_ hk⟩))
          (case aO => exact (by (with_reducible repeat (first | apply Kd.R_alloc | apply Kd.R_drewN | apply Kd.R_drew)); exact Kd.R_mono HO114.out (fun _ hk => ⟨hk.1.1.2, ⟨hk.1.2, hk.2⟩⟩)))
          (case aS => exact (below_size (by repeat (first | (with_reducible first | exact HB.out | apply below_alloc | apply pw_below_drewN | apply below_drew1 | refine below_set ?_ GE101.out | refine below_set ?_ GE102.out) | exact HB.out))))
          (case aL => have := LMc7.out; omega)
          intro v116 w32 ho hb hg hat
          rw [← Ny115.out] at ho
          have n0_ := Aside0.mk (blk_grown (g := gb101) (o := .cells #[.string a1_0, .int .i64 a1_1] 35 (0, 0)) (by (with_reducible repeat (first | refine blk_drewN ?_ _ | refine blk_drew ?_ | refine blk_alloc ?_ _)); exact BK101.out) hg (Kd.R_away HO114.out (fun _ hk => hk.2)))
          have n1_ := Aside0.mk (blk_grown (g := gb102) (o := .cells #[.int .i64 t107, .string t108, .string t109, .int .i64 t110, .int .i64 t111] 37 (0, 0)) (by (with_reducible repeat (first | refine blk_drewN ?_ _ | refine blk_drew ?_ | refine blk_alloc ?_ _)); exact BK102.out) hg (Kd.R_ne HO114.out BK102.out (by decide)))
          have n2_ := Aside0.mk (Kd.R_after (ok := (fun k_ => some k_ ≠ (v119 : Value).ownBlock ∧ k_ ≠ gb101)) (by (with_reducible repeat (first | apply Kd.R_alloc | apply Kd.R_drewN | apply Kd.R_drew)); exact Kd.R_mono HO106.out (fun _ hk => ⟨⟨hk.1.2, hk.1.1⟩, hk.2⟩)) hg hat)
          have n3_ := Aside0.mk (Kd.R_after (ok := (fun k_ => some k_ ≠ (.slice Ao25 t104.length co25 : Value).ownBlock ∧ k_ ≠ gb101)) (by (with_reducible repeat (first | apply Kd.R_alloc | apply Kd.R_drewN | apply Kd.R_drew)); exact Kd.R_mono HO120.out (fun _ hk => ⟨⟨hk.1.1.2, hk.1.2⟩, hk.2⟩)) hg hat)
          have n4_ := Aside0.mk (hb)
          have n5_ := Aside0.mk (ho)
          clear BK101
          clear BK102
          clear HO106
          clear HO120
          clear HB
          clear HO114
          have BK101 := n0_
          have BK102 := n1_
          have HO106 := n2_
          have HO120 := n3_
          have HB := n4_
          have HO117 := n5_
          clear n0_ n1_ n2_ n3_ n4_ n5_
          clear ho hb hg hat
          refine hK.out _ _ ⟨(blk_cell BK101.out 0).trans rfl, (blk_cell BK101.out 1).trans rfl⟩ (fun hHeld => ?_)
          clear hK K
          refine norm_ (a' := ?_) ?_ ?_
          rotate_left
          · show Act.put _ (some 22) _ = _
            simp only [Act.put, List.setIfInBounds_toArray, List.set_cons_zero, List.set_cons_succ, i64_w, i32_w]
            rfl
          exact norm_ (by simp only [putAll, Act.put, List.setIfInBounds_toArray, List.set_cons_zero, List.set_cons_succ]) (hCont (v113, v116, v119) _ ⟨hHeld, (by (with_reducible repeat (first | apply Kd.R_alloc | apply Kd.R_drewN | apply Kd.R_drew)); exact Kd.R_mono HO106.out (fun _ hk => ⟨hk.2, ⟨hk.1.1, hk.1.2⟩⟩)), (by (with_reducible repeat (first | apply Kd.R_alloc | apply Kd.R_drewN | apply Kd.R_drew)); exact HO117.out), (by (with_reducible repeat (first | apply Kd.R_alloc | apply Kd.R_drewN | apply Kd.R_drew)); exact Kd.R_mono HO120.out (fun _ hk => ⟨hk.1.1, ⟨hk.2, hk.1.2⟩⟩)), (by (with_reducible repeat (first | refine blk_drewN ?_ _ | refine blk_drew ?_ | refine blk_alloc ?_ _)); exact BK101.out), (by (with_reducible repeat (first | refine blk_drewN ?_ _ | refine blk_drew ?_ | refine blk_alloc ?_ _)); exact BK102.out), (by repeat (first | (with_reducible first | exact HB.out | apply below_alloc | apply pw_below_drewN | apply below_drew1 | refine below_set ?_ GE101.out | refine below_set ?_ GE102.out) | exact HB.out))⟩)
      rintro ⟨v113, v116, v119⟩ w33 ⟨hS_, h0_, h1_, h2_, h3_, h4_, h5_⟩
      have n0_ : Aside0 (Kd.R k35 35 w33 w.heap.size (fun k_ => some k_ ≠ (v116 : Value).ownBlock ∧ some k_ ≠ (v119 : Value).ownBlock ∧ k_ ≠ gb101) (.slice Ao25 t104.length co25) t104) := ⟨h0_⟩
      have n1_ : Aside0 (Kd.R k35 35 w33 w.heap.size (fun k_ => some k_ ≠ (.slice Ao25 t104.length co25 : Value).ownBlock ∧ some k_ ≠ (v119 : Value).ownBlock ∧ k_ ≠ gb101) v116 y115) := ⟨h1_⟩
      have n2_ : Aside0 (Kd.R k35 35 w33 w.heap.size (fun k_ => some k_ ≠ (.slice Ao25 t104.length co25 : Value).ownBlock ∧ some k_ ≠ (v116 : Value).ownBlock ∧ k_ ≠ gb101) v119 y118) := ⟨h2_⟩
      have n3_ : Aside0 (w33.heap[gb101]? = some (.cells #[.string a1_0, .int .i64 a1_1] 35 (0, 0))) := ⟨h3_⟩
      have n4_ : Aside0 (w33.heap[gb102]? = some (.cells #[.int .i64 t107, .string t108, .string t109, .int .i64 t110, .int .i64 t111] 37 (0, 0))) := ⟨h4_⟩
      have n5_ : Aside0 (Below w.heap.size w w33) := ⟨h5_⟩
      clear HO106
      clear BK101
      clear BK102
      clear HB
      clear h0_ h1_ h2_ h3_ h4_ h5_
      have HO106 := n0_
      have HO117 := n1_
      have HO120 := n2_
      have BK101 := n3_
      have BK102 := n4_
      have HB := n5_
      clear n0_ n1_ n2_ n3_ n4_ n5_
      have hHeld : w33.cell? ⟨gb101, 0, none⟩ = some (.string a1_0) ∧ w33.cell? ⟨gb101, 1, none⟩ = some (.int .i64 a1_1) := hS_
      obtain ⟨Ao35, co35, eo35⟩ := Kd.R_slice HO120.out
      (first | subst eo35 | (injection eo35 with f1_ f2_ f3_; have f4_ := f1_.symm; have f5_ := f3_.symm; clear f1_ f2_ f3_; subst f4_; subst f5_))
      refine norm_ (a' := ?_) ?_ ?_
      rotate_left
      · simp only [putAll, Act.put, List.setIfInBounds_toArray, List.set_cons_zero, List.set_cons_succ]
        rfl
      refine one_ (i := 5) (N := some 25) #[true, true, true, true, true, true, false, false] rfl rfl (one_of HT_.out (by kernel_rfl)) (by decide) (fun K hK => ?_)
      refine Kd.R_append_rows_step k35 (w0 := w) w.heap.size (by rfl) (.tmp 22) (.tmp 24) 33 35 (.agg #[(.string ⟨#[]⟩), (.int .i64 0)]) 24 rfl Tryz.underlying33 info35 rfl (by decide) (by omega) v116 y115 y118 _ _ _ (fun k_ => some k_ ≠ (.slice Ao25 t104.length co25 : Value).ownBlock ∧ some k_ ≠ (.slice Ao35 y118.length co35 : Value).ownBlock ∧ k_ ≠ gb101) (fun _ => False) rfl rfl ?aO ?aR (fun _ _ h => h) (fun _ h => h.elim) ?aF ?aB ?aS ?aL ?_
      (case aR => repeat (first | exact (Kd.R_reads' HO120.out).2.2 | (with_reducible refine Kd.C_alloc ?_ _) | (with_reducible refine Kd.C_drewN ?_ _) | (with_reducible refine Kd.C_drew ?_)))
      (case aB => exact (by repeat (first | (with_reducible first | exact HB.out | apply below_alloc | apply pw_below_drewN | apply below_drew1 | refine below_set ?_ GE101.out | refine below_set ?_ GE102.out) | exact HB.out)))
      (case aF => exact (fun k_ hk => ⟨Kd.fresh' (Kd.R_lt (by (with_reducible repeat (first | apply Kd.R_alloc | apply Kd.R_drewN | apply Kd.R_drew)); exact HO106.out)) k_ hk, Kd.fresh' (Kd.R_lt (by (with_reducible repeat (first | apply Kd.R_alloc | apply Kd.R_drewN | apply Kd.R_drew)); exact HO120.out)) k_ hk, Kd.freshB (g := gb101) (o := .cells #[.string a1_0, .int .i64 a1_1] 35 (0, 0)) (by (with_reducible repeat (first | refine blk_drewN ?_ _ | refine blk_drew ?_ | refine blk_alloc ?_ _)); exact BK101.out) k_ hk⟩))
      (case aO => exact (by (with_reducible repeat (first | apply Kd.R_alloc | apply Kd.R_drewN | apply Kd.R_drew)); exact HO117.out))
      (case aS => exact (below_size (by repeat (first | (with_reducible first | exact HB.out | apply below_alloc | apply pw_below_drewN | apply below_drew1 | refine below_set ?_ GE101.out | refine below_set ?_ GE102.out) | exact HB.out))))
      (case aL => have := LMc8.out; omega)
      intro v122 w34 ho hb hg hat
      rw [← Ny121.out] at ho
      have n0_ := Aside0.mk (blk_grown (g := gb101) (o := .cells #[.string a1_0, .int .i64 a1_1] 35 (0, 0)) (by (with_reducible repeat (first | refine blk_drewN ?_ _ | refine blk_drew ?_ | refine blk_alloc ?_ _)); exact BK101.out) hg (Kd.R_away HO117.out (fun _ hk => hk.2.2)))
      have n1_ := Aside0.mk (blk_grown (g := gb102) (o := .cells #[.int .i64 t107, .string t108, .string t109, .int .i64 t110, .int .i64 t111] 37 (0, 0)) (by (with_reducible repeat (first | refine blk_drewN ?_ _ | refine blk_drew ?_ | refine blk_alloc ?_ _)); exact BK102.out) hg (Kd.R_ne HO117.out BK102.out (by decide)))
      have n2_ := Aside0.mk (Kd.R_after (ok := (fun k_ => some k_ ≠ (.slice Ao35 y118.length co35 : Value).ownBlock ∧ k_ ≠ gb101)) (by (with_reducible repeat (first | apply Kd.R_alloc | apply Kd.R_drewN | apply Kd.R_drew)); exact Kd.R_mono HO106.out (fun _ hk => ⟨⟨hk.2.1, hk.2.2⟩, hk.1⟩)) hg hat)
      have n3_ := Aside0.mk (Kd.R_after (ok := (fun k_ => some k_ ≠ (.slice Ao25 t104.length co25 : Value).ownBlock ∧ k_ ≠ gb101)) (by (with_reducible repeat (first | apply Kd.R_alloc | apply Kd.R_drewN | apply Kd.R_drew)); exact Kd.R_mono HO120.out (fun _ hk => ⟨⟨hk.1, hk.2.2⟩, hk.2.1⟩)) hg hat)
      have n4_ := Aside0.mk (hb)
      have n5_ := Aside0.mk (ho)
      clear BK101
      clear BK102
      clear HO106
      clear HO120
      clear HB
      clear HO117
      have BK101 := n0_
      have BK102 := n1_
      have HO106 := n2_
      have HO120 := n3_
      have HB := n4_
      have HO123 := n5_
      clear n0_ n1_ n2_ n3_ n4_ n5_
      clear ho hb hg hat
      obtain ⟨Ao36, co36, eo36⟩ := Kd.R_slice HO123.out
      (first | subst eo36 | (injection eo36 with f1_ f2_ f3_; have f4_ := f1_.symm; have f5_ := f3_.symm; clear f1_ f2_ f3_; subst f4_; subst f5_))
      refine hK.out _ _ ⟨(blk_cell BK101.out 0).trans rfl, (blk_cell BK101.out 1).trans rfl⟩ (fun hHeld => ?_)
      clear hK K
      refine norm_ (a' := ?_) ?_ ?_
      rotate_left
      · show Act.put _ (some 25) _ = _
        simp only [Act.put, List.setIfInBounds_toArray, List.set_cons_zero, List.set_cons_succ, i64_w, i32_w]
        rfl
      refine one_ (i := 6) (N := some 26) #[true, true, true, true, true, true, true, false] rfl rfl (one_of HT_.out (by kernel_rfl)) (by decide) (fun K hK => ?_)
      refine goes_ Tryz.func17 (by kernel_rfl) rfl #[.slice Ao36 y121.length co36] (by rfl) rfl rfl (by (try simp only [List.map_toArray, List.map_cons, List.map_nil]); first | done | rfl | (simp only [List.length_drop, List.length_take]; rfl)) ?_
      with_reducible refine (postriderlaw16_Cut.calls k _ _ y121 t124 _ ?side1 ?side2 A9.out).mono ?_
      (case side1 => repeat (first | exact (Kd.R_reads' HO123.out).2.2 | (with_reducible refine Kd.C_alloc ?_ _) | (with_reducible refine Kd.C_drewN ?_ _) | (with_reducible refine Kd.C_drew ?_)))
      (case side2 => exact (Kd.R_reads' HO123.out).2.1)
      rintro e w37 ⟨v125, rfl, ho0, hb⟩
      refine ⟨_, rfl, ?_⟩
      have n0_ := Aside0.mk (Kd.R_elder' (by (with_reducible repeat (first | apply Kd.R_alloc | apply Kd.R_drewN | apply Kd.R_drew)); exact HO106.out) (Kd.R_base ho0) hb)
      have n1_ := Aside0.mk (Kd.R_elder' (by (with_reducible repeat (first | apply Kd.R_alloc | apply Kd.R_drewN | apply Kd.R_drew)); exact HO120.out) (Kd.R_base ho0) hb)
      have n2_ := Aside0.mk (Kd.R_elder' (by (with_reducible repeat (first | apply Kd.R_alloc | apply Kd.R_drewN | apply Kd.R_drew)); exact HO123.out) (Kd.R_base ho0) hb)
      have n3_ := Aside0.mk (Kd.R_lower (Kd.R_newB (Kd.R_new' (Kd.R_new' (Kd.R_new' ho0 (Kd.R_lt (by (with_reducible repeat (first | apply Kd.R_alloc | apply Kd.R_drewN | apply Kd.R_drew)); exact HO106.out))) (Kd.R_lt (by (with_reducible repeat (first | apply Kd.R_alloc | apply Kd.R_drewN | apply Kd.R_drew)); exact HO120.out))) (Kd.R_lt (by (with_reducible repeat (first | apply Kd.R_alloc | apply Kd.R_drewN | apply Kd.R_drew)); exact HO123.out))) (g := gb101) (o := .cells #[.string a1_0, .int .i64 a1_1] 35 (0, 0)) (by (with_reducible repeat (first | refine blk_drewN ?_ _ | refine blk_drew ?_ | refine blk_alloc ?_ _)); exact BK101.out)) (below_size (by repeat (first | (with_reducible first | exact HB.out | apply below_alloc | apply pw_below_drewN | apply below_drew1 | refine below_set ?_ GE101.out | refine below_set ?_ GE102.out) | exact HB.out))))
      have n4_ := Aside0.mk (blk_below (g := gb101) (o := .cells #[.string a1_0, .int .i64 a1_1] 35 (0, 0)) (by (with_reducible repeat (first | refine blk_drewN ?_ _ | refine blk_drew ?_ | refine blk_alloc ?_ _)); exact BK101.out) hb)
      have n5_ := Aside0.mk (blk_below (g := gb102) (o := .cells #[.int .i64 t107, .string t108, .string t109, .int .i64 t110, .int .i64 t111] 37 (0, 0)) (by (with_reducible repeat (first | refine blk_drewN ?_ _ | refine blk_drew ?_ | refine blk_alloc ?_ _)); exact BK102.out) hb)
      have n6_ := Aside0.mk (below_step (by repeat (first | (with_reducible first | exact HB.out | apply below_alloc | apply pw_below_drewN | apply below_drew1 | refine below_set ?_ GE101.out | refine below_set ?_ GE102.out) | exact HB.out)) hb)
      clear HO106
      clear HO120
      clear HO123
      clear BK101
      clear BK102
      clear HB
      have HO106 := n0_
      have HO120 := n1_
      have HO123 := n2_
      have HO126 := n3_
      have BK101 := n4_
      have BK102 := n5_
      have HB := n6_
      clear n0_ n1_ n2_ n3_ n4_ n5_ n6_
      (try clear hb)
      (try clear hb2)
      (try clear hk)
      (try clear hi)
      (try clear ho0)
      refine hK.out _ _ ⟨(blk_cell BK101.out 0).trans rfl, (blk_cell BK101.out 1).trans rfl⟩ (fun hHeld => ?_)
      clear hK K
      refine norm_ (a' := ?_) ?_ ?_
      rotate_left
      · show Act.put _ (some 26) _ = _
        simp only [Act.put, List.setIfInBounds_toArray, List.set_cons_zero, List.set_cons_succ, i64_w, i32_w]
        rfl
      refine pure_ (i := 7) (N := some 8) (v := ?_) (a' := ?_) #[true, true, true, true, true, true, true, true] rfl rfl (any_of HT_.out (by kernel_rfl)) (fun _ _ _ h => h) (Or.inl ⟨by rfl, ?_⟩) ?_ ?_
      rotate_left
      · intro w'
        go_simp
        with_reducible rfl
      rotate_left
      · simp only [Act.put, List.setIfInBounds_toArray, List.set_cons_zero, List.set_cons_succ, i64_w, i32_w]
        rfl
      refine done_ (done_of HT_.out (by kernel_rfl)) ?_
      have hcz38_0 : w37.cell? ⟨gb102, 0, none⟩ = some (.int .i64 t107) := (blk_cell BK102.out 0).trans rfl
      have hcz38_1 : w37.cell? ⟨gb102, 1, none⟩ = some (.string t108) := (blk_cell BK102.out 1).trans rfl
      have hcz38_2 : w37.cell? ⟨gb102, 2, none⟩ = some (.string t109) := (blk_cell BK102.out 2).trans rfl
      have hcz38_3 : w37.cell? ⟨gb102, 3, none⟩ = some (.int .i64 t110) := (blk_cell BK102.out 3).trans rfl
      have hcz38_4 : w37.cell? ⟨gb102, 4, none⟩ = some (.int .i64 t111) := (blk_cell BK102.out 4).trans rfl
      have hfz38_0 := blk_frozen BK102.out 0
      have hfz38_1 := blk_frozen BK102.out 1
      have hfz38_2 := blk_frozen BK102.out 2
      have hfz38_3 := blk_frozen BK102.out 3
      have hfz38_4 := blk_frozen BK102.out 4
      have H := HTREE.out
      clear HTREE
      by_cases c12 : t129 = 0
      · rw [if_pos c12] at H
        have c12b0 : (t129 == 0) = true := beq_iff_eq.mpr c12
        have c12b1 : (t129 != 0) = false := bne_eq_false_iff_eq.mpr c12
        clear c12
        by_cases c13 : t132 = 0
        · rw [if_pos c13] at H
          have c13b0 : (t132 == 0) = true := beq_iff_eq.mpr c13
          have c13b1 : (t132 != 0) = false := bne_eq_false_iff_eq.mpr c13
          clear c13
          by_cases c14 : true = true
          · clear c14
            have H1 : (if t131 = true then (if t130 = (t104.length : Int) then (some true) else (if (t128 == t131) = true then (some (t127 == t130)) else (none))) else (if (t128 == t131) = true then (some (t127 == t130)) else (none))) = some r := by (first | rw [if_pos rfl] at H | rw [if_pos trivial] at H); exact H
            clear H
            have H := H1
            clear H1
            by_cases c15 : t131 = true
            · subst c15
              have H1 : (if t130 = (t104.length : Int) then (some true) else (if (t128 == true) = true then (some (t127 == t130)) else (none))) = some r := by rw [if_pos rfl] at H; exact H
              clear H
              have H := H1
              clear H1
              by_cases c16 : t130 = (t104.length : Int)
              · rw [if_pos c16] at H
                have c16b0 : (t130 == (t104.length : Int)) = true := beq_iff_eq.mpr c16
                have c16b1 : (t130 != (t104.length : Int)) = false := bne_eq_false_iff_eq.mpr c16
                clear c16
                obtain rfl := Option.some.inj H
                try go_wp2_with (first | ((with_reducible refine gate_callee (f := 19) rfl ?_); refine goesL_ (some 30) rfl rfl Tryz.func19 (by kernel_rfl) rfl #[.slice Ao25 t104.length co25, .agg #[.int .i64 t107, .string t108, .string t109, .int .i64 t110, .int .i64 t111]] rfl (by (try simp only [List.map_toArray, List.map_cons, List.map_nil]); first | done | rfl | (simp only [List.length_drop, List.length_take]; rfl)) ?_; (with_reducible refine (route_Find.calls _ _ t104 t107 t108 t109 t110 t111 t127 t128 t129 _ ?side1 ?side2 ?side3 A10.out).mono ?_); (case side1 => repeat (first | exact (Kd.R_reads' HO106.out).2.2 | (with_reducible refine Kd.C_alloc ?_ _) | (with_reducible refine Kd.C_drewN ?_ _) | (with_reducible refine Kd.C_drew ?_))); (case side2 => exact (Kd.R_reads' HO106.out).2.1); (case side3 => exact LaidR.below HLD.out (by repeat (first | (with_reducible first | exact HB.out | apply below_alloc | apply pw_below_drewN | apply below_drew1 | refine below_set ?_ GE101.out | refine below_set ?_ GE102.out) | exact HB.out))); rintro e w39 ⟨rfl, hb⟩; refine ⟨_, rfl, ?_⟩; have n0_ := Aside0.mk (Kd.R_below (by (with_reducible repeat (first | apply Kd.R_alloc | apply Kd.R_drewN | apply Kd.R_drew)); exact HO106.out) hb); have n1_ := Aside0.mk (Kd.R_below (by (with_reducible repeat (first | apply Kd.R_alloc | apply Kd.R_drewN | apply Kd.R_drew)); exact HO120.out) hb); have n2_ := Aside0.mk (Kd.R_below (by (with_reducible repeat (first | apply Kd.R_alloc | apply Kd.R_drewN | apply Kd.R_drew)); exact HO123.out) hb); have n3_ := Aside0.mk (Kd.R_below (by (with_reducible repeat (first | apply Kd.R_alloc | apply Kd.R_drewN | apply Kd.R_drew)); exact HO126.out) hb); have n4_ := Aside0.mk (blk_below (g := gb101) (o := .cells #[.string a1_0, .int .i64 a1_1] 35 (0, 0)) (by (with_reducible repeat (first | refine blk_drewN ?_ _ | refine blk_drew ?_ | refine blk_alloc ?_ _)); exact BK101.out) hb); have n5_ := Aside0.mk (blk_below (g := gb102) (o := .cells #[.int .i64 t107, .string t108, .string t109, .int .i64 t110, .int .i64 t111] 37 (0, 0)) (by (with_reducible repeat (first | refine blk_drewN ?_ _ | refine blk_drew ?_ | refine blk_alloc ?_ _)); exact BK102.out) hb); have n6_ := Aside0.mk (below_step (by repeat (first | (with_reducible first | exact HB.out | apply below_alloc | apply pw_below_drewN | apply below_drew1 | refine below_set ?_ GE101.out | refine below_set ?_ GE102.out) | exact HB.out)) hb); clear HO106; clear HO120; clear HO123; clear HO126; clear BK101; clear BK102; clear HB; have HO106 := n0_; have HO120 := n1_; have HO123 := n2_; have HO126 := n3_; have BK101 := n4_; have BK102 := n5_; have HB := n6_; clear n0_ n1_ n2_ n3_ n4_ n5_ n6_; (try clear hb); (try clear hb2); (try clear hk); (try clear hi); have hcz40_0 : w39.cell? ⟨gb102, 0, none⟩ = some (.int .i64 t107) := (blk_cell BK102.out 0).trans rfl; have hcz40_1 : w39.cell? ⟨gb102, 1, none⟩ = some (.string t108) := (blk_cell BK102.out 1).trans rfl; have hcz40_2 : w39.cell? ⟨gb102, 2, none⟩ = some (.string t109) := (blk_cell BK102.out 2).trans rfl; have hcz40_3 : w39.cell? ⟨gb102, 3, none⟩ = some (.int .i64 t110) := (blk_cell BK102.out 3).trans rfl; have hcz40_4 : w39.cell? ⟨gb102, 4, none⟩ = some (.int .i64 t111) := (blk_cell BK102.out 4).trans rfl; have hfz40_0 := blk_frozen BK102.out 0; have hfz40_1 := blk_frozen BK102.out 1; have hfz40_2 := blk_frozen BK102.out 2; have hfz40_3 := blk_frozen BK102.out 3; have hfz40_4 := blk_frozen BK102.out 4; obtain ⟨Ao41, co41, eo41⟩ := Kd.R_slice HO126.out; subst eo41) | ((with_reducible refine gate_callee (f := 19) rfl ?_); refine goesL_ (some 37) rfl rfl Tryz.func19 (by kernel_rfl) rfl #[.slice Ao41 t124.length co41, .agg #[.int .i64 t107, .string t108, .string t109, .int .i64 t110, .int .i64 t111]] rfl (by (try simp only [List.map_toArray, List.map_cons, List.map_nil]); first | done | rfl | (simp only [List.length_drop, List.length_take]; rfl)) ?_; (with_reducible refine (route_Find.calls _ _ t124 t107 t108 t109 t110 t111 t130 true t132 _ ?side1 ?side2 ?side3 A11.out).mono ?_); (case side1 => repeat (first | exact (Kd.R_reads' HO126.out).2.2 | (with_reducible refine Kd.C_alloc ?_ _) | (with_reducible refine Kd.C_drewN ?_ _) | (with_reducible refine Kd.C_drew ?_))); (case side2 => exact (Kd.R_reads' HO126.out).2.1); (case side3 => exact LaidR.below HLD.out (by repeat (first | (with_reducible first | exact HB.out | apply below_alloc | apply pw_below_drewN | apply below_drew1 | refine below_set ?_ GE101.out | refine below_set ?_ GE102.out) | exact HB.out))); rintro e w42 ⟨rfl, hb⟩; refine ⟨_, rfl, ?_⟩; have n0_ := Aside0.mk (Kd.R_below (by (with_reducible repeat (first | apply Kd.R_alloc | apply Kd.R_drewN | apply Kd.R_drew)); exact HO106.out) hb); have n1_ := Aside0.mk (Kd.R_below (by (with_reducible repeat (first | apply Kd.R_alloc | apply Kd.R_drewN | apply Kd.R_drew)); exact HO120.out) hb); have n2_ := Aside0.mk (Kd.R_below (by (with_reducible repeat (first | apply Kd.R_alloc | apply Kd.R_drewN | apply Kd.R_drew)); exact HO123.out) hb); have n3_ := Aside0.mk (Kd.R_below (by (with_reducible repeat (first | apply Kd.R_alloc | apply Kd.R_drewN | apply Kd.R_drew)); exact HO126.out) hb); have n4_ := Aside0.mk (blk_below (g := gb101) (o := .cells #[.string a1_0, .int .i64 a1_1] 35 (0, 0)) (by (with_reducible repeat (first | refine blk_drewN ?_ _ | refine blk_drew ?_ | refine blk_alloc ?_ _)); exact BK101.out) hb); have n5_ := Aside0.mk (blk_below (g := gb102) (o := .cells #[.int .i64 t107, .string t108, .string t109, .int .i64 t110, .int .i64 t111] 37 (0, 0)) (by (with_reducible repeat (first | refine blk_drewN ?_ _ | refine blk_drew ?_ | refine blk_alloc ?_ _)); exact BK102.out) hb); have n6_ := Aside0.mk (below_step (by repeat (first | (with_reducible first | exact HB.out | apply below_alloc | apply pw_below_drewN | apply below_drew1 | refine below_set ?_ GE101.out | refine below_set ?_ GE102.out) | exact HB.out)) hb); clear HO106; clear HO120; clear HO123; clear HO126; clear BK101; clear BK102; clear HB; have HO106 := n0_; have HO120 := n1_; have HO123 := n2_; have HO126 := n3_; have BK101 := n4_; have BK102 := n5_; have HB := n6_; clear n0_ n1_ n2_ n3_ n4_ n5_ n6_; (try clear hb); (try clear hb2); (try clear hk); (try clear hi)))
                all_goals (first | (go_ret; exact ⟨by first | rfl | (simp [errW_none, errW_some] <;> rfl) | (simp [*, errW_none, errW_some] <;> rfl) | (simp_all; done) | fail, by repeat (first | (with_reducible first | exact HB.out | apply below_alloc | apply pw_below_drewN | apply below_drew1 | refine below_set ?_ GE101.out | refine below_set ?_ GE102.out) | exact HB.out)⟩) | (exfalso; simp_all; done) | (exfalso; simp only [isEmpty_eq, isEmpty_ne] at *; simp_all; done) | (exfalso; exact isEmpty_clash (by assumption) (by assumption)) | (exfalso; exact isEmpty_clash' (by assumption) (by assumption)) | (exfalso; exact isEmpty_clash2 (by assumption) (by assumption)) | (exfalso; simp only [decide_eq_true_eq, decide_eq_false_iff_not] at *; omega))
              · rw [if_neg c16] at H
                have c16b0 : (t130 == (t104.length : Int)) = false := beq_eq_false_iff_ne.mpr c16
                have c16b1 : (t130 != (t104.length : Int)) = true := bne_iff_ne.mpr c16
                by_cases c43 : (t128 == true) = true
                · rw [if_pos c43] at H
                  have c43b0 : (t128 == true) = true := c43
                  (try (have c43b1 : decide (t128 = true) = true := by simpa using c43))
                  (try (have c43b2 : (t128 == true) = true := by simpa using c43))
                  clear c43
                  obtain rfl := Option.some.inj H
                  try go_wp2_with (first | ((with_reducible refine gate_callee (f := 19) rfl ?_); refine goesL_ (some 30) rfl rfl Tryz.func19 (by kernel_rfl) rfl #[.slice Ao25 t104.length co25, .agg #[.int .i64 t107, .string t108, .string t109, .int .i64 t110, .int .i64 t111]] rfl (by (try simp only [List.map_toArray, List.map_cons, List.map_nil]); first | done | rfl | (simp only [List.length_drop, List.length_take]; rfl)) ?_; (with_reducible refine (route_Find.calls _ _ t104 t107 t108 t109 t110 t111 t127 t128 t129 _ ?side1 ?side2 ?side3 A10.out).mono ?_); (case side1 => repeat (first | exact (Kd.R_reads' HO106.out).2.2 | (with_reducible refine Kd.C_alloc ?_ _) | (with_reducible refine Kd.C_drewN ?_ _) | (with_reducible refine Kd.C_drew ?_))); (case side2 => exact (Kd.R_reads' HO106.out).2.1); (case side3 => exact LaidR.below HLD.out (by repeat (first | (with_reducible first | exact HB.out | apply below_alloc | apply pw_below_drewN | apply below_drew1 | refine below_set ?_ GE101.out | refine below_set ?_ GE102.out) | exact HB.out))); rintro e w66 ⟨rfl, hb⟩; refine ⟨_, rfl, ?_⟩; have n0_ := Aside0.mk (Kd.R_below (by (with_reducible repeat (first | apply Kd.R_alloc | apply Kd.R_drewN | apply Kd.R_drew)); exact HO106.out) hb); have n1_ := Aside0.mk (Kd.R_below (by (with_reducible repeat (first | apply Kd.R_alloc | apply Kd.R_drewN | apply Kd.R_drew)); exact HO120.out) hb); have n2_ := Aside0.mk (Kd.R_below (by (with_reducible repeat (first | apply Kd.R_alloc | apply Kd.R_drewN | apply Kd.R_drew)); exact HO123.out) hb); have n3_ := Aside0.mk (Kd.R_below (by (with_reducible repeat (first | apply Kd.R_alloc | apply Kd.R_drewN | apply Kd.R_drew)); exact HO126.out) hb); have n4_ := Aside0.mk (blk_below (g := gb101) (o := .cells #[.string a1_0, .int .i64 a1_1] 35 (0, 0)) (by (with_reducible repeat (first | refine blk_drewN ?_ _ | refine blk_drew ?_ | refine blk_alloc ?_ _)); exact BK101.out) hb); have n5_ := Aside0.mk (blk_below (g := gb102) (o := .cells #[.int .i64 t107, .string t108, .string t109, .int .i64 t110, .int .i64 t111] 37 (0, 0)) (by (with_reducible repeat (first | refine blk_drewN ?_ _ | refine blk_drew ?_ | refine blk_alloc ?_ _)); exact BK102.out) hb); have n6_ := Aside0.mk (below_step (by repeat (first | (with_reducible first | exact HB.out | apply below_alloc | apply pw_below_drewN | apply below_drew1 | refine below_set ?_ GE101.out | refine below_set ?_ GE102.out) | exact HB.out)) hb); clear HO106; clear HO120; clear HO123; clear HO126; clear BK101; clear BK102; clear HB; have HO106 := n0_; have HO120 := n1_; have HO123 := n2_; have HO126 := n3_; have BK101 := n4_; have BK102 := n5_; have HB := n6_; clear n0_ n1_ n2_ n3_ n4_ n5_ n6_; (try clear hb); (try clear hb2); (try clear hk); (try clear hi); have hcz67_0 : w66.cell? ⟨gb102, 0, none⟩ = some (.int .i64 t107) := (blk_cell BK102.out 0).trans rfl; have hcz67_1 : w66.cell? ⟨gb102, 1, none⟩ = some (.string t108) := (blk_cell BK102.out 1).trans rfl; have hcz67_2 : w66.cell? ⟨gb102, 2, none⟩ = some (.string t109) := (blk_cell BK102.out 2).trans rfl; have hcz67_3 : w66.cell? ⟨gb102, 3, none⟩ = some (.int .i64 t110) := (blk_cell BK102.out 3).trans rfl; have hcz67_4 : w66.cell? ⟨gb102, 4, none⟩ = some (.int .i64 t111) := (blk_cell BK102.out 4).trans rfl; have hfz67_0 := blk_frozen BK102.out 0; have hfz67_1 := blk_frozen BK102.out 1; have hfz67_2 := blk_frozen BK102.out 2; have hfz67_3 := blk_frozen BK102.out 3; have hfz67_4 := blk_frozen BK102.out 4; obtain ⟨Ao68, co68, eo68⟩ := Kd.R_slice HO126.out; subst eo68) | ((with_reducible refine gate_callee (f := 19) rfl ?_); refine goesL_ (some 37) rfl rfl Tryz.func19 (by kernel_rfl) rfl #[.slice Ao68 t124.length co68, .agg #[.int .i64 t107, .string t108, .string t109, .int .i64 t110, .int .i64 t111]] rfl (by (try simp only [List.map_toArray, List.map_cons, List.map_nil]); first | done | rfl | (simp only [List.length_drop, List.length_take]; rfl)) ?_; (with_reducible refine (route_Find.calls _ _ t124 t107 t108 t109 t110 t111 t130 true t132 _ ?side1 ?side2 ?side3 A11.out).mono ?_); (case side1 => repeat (first | exact (Kd.R_reads' HO126.out).2.2 | (with_reducible refine Kd.C_alloc ?_ _) | (with_reducible refine Kd.C_drewN ?_ _) | (with_reducible refine Kd.C_drew ?_))); (case side2 => exact (Kd.R_reads' HO126.out).2.1); (case side3 => exact LaidR.below HLD.out (by repeat (first | (with_reducible first | exact HB.out | apply below_alloc | apply pw_below_drewN | apply below_drew1 | refine below_set ?_ GE101.out | refine below_set ?_ GE102.out) | exact HB.out))); rintro e w69 ⟨rfl, hb⟩; refine ⟨_, rfl, ?_⟩; have n0_ := Aside0.mk (Kd.R_below (by (with_reducible repeat (first | apply Kd.R_alloc | apply Kd.R_drewN | apply Kd.R_drew)); exact HO106.out) hb); have n1_ := Aside0.mk (Kd.R_below (by (with_reducible repeat (first | apply Kd.R_alloc | apply Kd.R_drewN | apply Kd.R_drew)); exact HO120.out) hb); have n2_ := Aside0.mk (Kd.R_below (by (with_reducible repeat (first | apply Kd.R_alloc | apply Kd.R_drewN | apply Kd.R_drew)); exact HO123.out) hb); have n3_ := Aside0.mk (Kd.R_below (by (with_reducible repeat (first | apply Kd.R_alloc | apply Kd.R_drewN | apply Kd.R_drew)); exact HO126.out) hb); have n4_ := Aside0.mk (blk_below (g := gb101) (o := .cells #[.string a1_0, .int .i64 a1_1] 35 (0, 0)) (by (with_reducible repeat (first | refine blk_drewN ?_ _ | refine blk_drew ?_ | refine blk_alloc ?_ _)); exact BK101.out) hb); have n5_ := Aside0.mk (blk_below (g := gb102) (o := .cells #[.int .i64 t107, .string t108, .string t109, .int .i64 t110, .int .i64 t111] 37 (0, 0)) (by (with_reducible repeat (first | refine blk_drewN ?_ _ | refine blk_drew ?_ | refine blk_alloc ?_ _)); exact BK102.out) hb); have n6_ := Aside0.mk (below_step (by repeat (first | (with_reducible first | exact HB.out | apply below_alloc | apply pw_below_drewN | apply below_drew1 | refine below_set ?_ GE101.out | refine below_set ?_ GE102.out) | exact HB.out)) hb); clear HO106; clear HO120; clear HO123; clear HO126; clear BK101; clear BK102; clear HB; have HO106 := n0_; have HO120 := n1_; have HO123 := n2_; have HO126 := n3_; have BK101 := n4_; have BK102 := n5_; have HB := n6_; clear n0_ n1_ n2_ n3_ n4_ n5_ n6_; (try clear hb); (try clear hb2); (try clear hk); (try clear hi)))
                  all_goals (first | (go_ret; exact ⟨by first | rfl | (simp [errW_none, errW_some] <;> rfl) | (simp [*, errW_none, errW_some] <;> rfl) | (simp_all; done) | fail, by repeat (first | (with_reducible first | exact HB.out | apply below_alloc | apply pw_below_drewN | apply below_drew1 | refine below_set ?_ GE101.out | refine below_set ?_ GE102.out) | exact HB.out)⟩) | (exfalso; simp_all; done) | (exfalso; simp only [isEmpty_eq, isEmpty_ne] at *; simp_all; done) | (exfalso; exact isEmpty_clash (by assumption) (by assumption)) | (exfalso; exact isEmpty_clash' (by assumption) (by assumption)) | (exfalso; exact isEmpty_clash2 (by assumption) (by assumption)) | (exfalso; simp only [decide_eq_true_eq, decide_eq_false_iff_not] at *; omega))
                · rw [if_neg c43] at H
                  exact absurd H (by simp)
            · replace c15 := Bool.eq_false_iff.mpr c15
              subst c15
              have H1 : (if (t128 == false) = true then (some (t127 == t130)) else (none)) = some r := by rw [if_neg (show ¬ (false = true) by decide)] at H; exact H
              clear H
              have H := H1
              clear H1
              by_cases c70 : (t128 == false) = true
              · rw [if_pos c70] at H
                have c70b0 : (t128 == false) = true := c70
                (try (have c70b1 : decide (t128 = false) = true := by simpa using c70))
                (try (have c70b2 : (t128 == false) = true := by simpa using c70))
                clear c70
                obtain rfl := Option.some.inj H
                try go_wp2_with (first | ((with_reducible refine gate_callee (f := 19) rfl ?_); refine goesL_ (some 30) rfl rfl Tryz.func19 (by kernel_rfl) rfl #[.slice Ao25 t104.length co25, .agg #[.int .i64 t107, .string t108, .string t109, .int .i64 t110, .int .i64 t111]] rfl (by (try simp only [List.map_toArray, List.map_cons, List.map_nil]); first | done | rfl | (simp only [List.length_drop, List.length_take]; rfl)) ?_; (with_reducible refine (route_Find.calls _ _ t104 t107 t108 t109 t110 t111 t127 t128 t129 _ ?side1 ?side2 ?side3 A10.out).mono ?_); (case side1 => repeat (first | exact (Kd.R_reads' HO106.out).2.2 | (with_reducible refine Kd.C_alloc ?_ _) | (with_reducible refine Kd.C_drewN ?_ _) | (with_reducible refine Kd.C_drew ?_))); (case side2 => exact (Kd.R_reads' HO106.out).2.1); (case side3 => exact LaidR.below HLD.out (by repeat (first | (with_reducible first | exact HB.out | apply below_alloc | apply pw_below_drewN | apply below_drew1 | refine below_set ?_ GE101.out | refine below_set ?_ GE102.out) | exact HB.out))); rintro e w93 ⟨rfl, hb⟩; refine ⟨_, rfl, ?_⟩; have n0_ := Aside0.mk (Kd.R_below (by (with_reducible repeat (first | apply Kd.R_alloc | apply Kd.R_drewN | apply Kd.R_drew)); exact HO106.out) hb); have n1_ := Aside0.mk (Kd.R_below (by (with_reducible repeat (first | apply Kd.R_alloc | apply Kd.R_drewN | apply Kd.R_drew)); exact HO120.out) hb); have n2_ := Aside0.mk (Kd.R_below (by (with_reducible repeat (first | apply Kd.R_alloc | apply Kd.R_drewN | apply Kd.R_drew)); exact HO123.out) hb); have n3_ := Aside0.mk (Kd.R_below (by (with_reducible repeat (first | apply Kd.R_alloc | apply Kd.R_drewN | apply Kd.R_drew)); exact HO126.out) hb); have n4_ := Aside0.mk (blk_below (g := gb101) (o := .cells #[.string a1_0, .int .i64 a1_1] 35 (0, 0)) (by (with_reducible repeat (first | refine blk_drewN ?_ _ | refine blk_drew ?_ | refine blk_alloc ?_ _)); exact BK101.out) hb); have n5_ := Aside0.mk (blk_below (g := gb102) (o := .cells #[.int .i64 t107, .string t108, .string t109, .int .i64 t110, .int .i64 t111] 37 (0, 0)) (by (with_reducible repeat (first | refine blk_drewN ?_ _ | refine blk_drew ?_ | refine blk_alloc ?_ _)); exact BK102.out) hb); have n6_ := Aside0.mk (below_step (by repeat (first | (with_reducible first | exact HB.out | apply below_alloc | apply pw_below_drewN | apply below_drew1 | refine below_set ?_ GE101.out | refine below_set ?_ GE102.out) | exact HB.out)) hb); clear HO106; clear HO120; clear HO123; clear HO126; clear BK101; clear BK102; clear HB; have HO106 := n0_; have HO120 := n1_; have HO123 := n2_; have HO126 := n3_; have BK101 := n4_; have BK102 := n5_; have HB := n6_; clear n0_ n1_ n2_ n3_ n4_ n5_ n6_; (try clear hb); (try clear hb2); (try clear hk); (try clear hi); have hcz94_0 : w93.cell? ⟨gb102, 0, none⟩ = some (.int .i64 t107) := (blk_cell BK102.out 0).trans rfl; have hcz94_1 : w93.cell? ⟨gb102, 1, none⟩ = some (.string t108) := (blk_cell BK102.out 1).trans rfl; have hcz94_2 : w93.cell? ⟨gb102, 2, none⟩ = some (.string t109) := (blk_cell BK102.out 2).trans rfl; have hcz94_3 : w93.cell? ⟨gb102, 3, none⟩ = some (.int .i64 t110) := (blk_cell BK102.out 3).trans rfl; have hcz94_4 : w93.cell? ⟨gb102, 4, none⟩ = some (.int .i64 t111) := (blk_cell BK102.out 4).trans rfl; have hfz94_0 := blk_frozen BK102.out 0; have hfz94_1 := blk_frozen BK102.out 1; have hfz94_2 := blk_frozen BK102.out 2; have hfz94_3 := blk_frozen BK102.out 3; have hfz94_4 := blk_frozen BK102.out 4; obtain ⟨Ao95, co95, eo95⟩ := Kd.R_slice HO126.out; subst eo95) | ((with_reducible refine gate_callee (f := 19) rfl ?_); refine goesL_ (some 37) rfl rfl Tryz.func19 (by kernel_rfl) rfl #[.slice Ao95 t124.length co95, .agg #[.int .i64 t107, .string t108, .string t109, .int .i64 t110, .int .i64 t111]] rfl (by (try simp only [List.map_toArray, List.map_cons, List.map_nil]); first | done | rfl | (simp only [List.length_drop, List.length_take]; rfl)) ?_; (with_reducible refine (route_Find.calls _ _ t124 t107 t108 t109 t110 t111 t130 false t132 _ ?side1 ?side2 ?side3 A11.out).mono ?_); (case side1 => repeat (first | exact (Kd.R_reads' HO126.out).2.2 | (with_reducible refine Kd.C_alloc ?_ _) | (with_reducible refine Kd.C_drewN ?_ _) | (with_reducible refine Kd.C_drew ?_))); (case side2 => exact (Kd.R_reads' HO126.out).2.1); (case side3 => exact LaidR.below HLD.out (by repeat (first | (with_reducible first | exact HB.out | apply below_alloc | apply pw_below_drewN | apply below_drew1 | refine below_set ?_ GE101.out | refine below_set ?_ GE102.out) | exact HB.out))); rintro e w96 ⟨rfl, hb⟩; refine ⟨_, rfl, ?_⟩; have n0_ := Aside0.mk (Kd.R_below (by (with_reducible repeat (first | apply Kd.R_alloc | apply Kd.R_drewN | apply Kd.R_drew)); exact HO106.out) hb); have n1_ := Aside0.mk (Kd.R_below (by (with_reducible repeat (first | apply Kd.R_alloc | apply Kd.R_drewN | apply Kd.R_drew)); exact HO120.out) hb); have n2_ := Aside0.mk (Kd.R_below (by (with_reducible repeat (first | apply Kd.R_alloc | apply Kd.R_drewN | apply Kd.R_drew)); exact HO123.out) hb); have n3_ := Aside0.mk (Kd.R_below (by (with_reducible repeat (first | apply Kd.R_alloc | apply Kd.R_drewN | apply Kd.R_drew)); exact HO126.out) hb); have n4_ := Aside0.mk (blk_below (g := gb101) (o := .cells #[.string a1_0, .int .i64 a1_1] 35 (0, 0)) (by (with_reducible repeat (first | refine blk_drewN ?_ _ | refine blk_drew ?_ | refine blk_alloc ?_ _)); exact BK101.out) hb); have n5_ := Aside0.mk (blk_below (g := gb102) (o := .cells #[.int .i64 t107, .string t108, .string t109, .int .i64 t110, .int .i64 t111] 37 (0, 0)) (by (with_reducible repeat (first | refine blk_drewN ?_ _ | refine blk_drew ?_ | refine blk_alloc ?_ _)); exact BK102.out) hb); have n6_ := Aside0.mk (below_step (by repeat (first | (with_reducible first | exact HB.out | apply below_alloc | apply pw_below_drewN | apply below_drew1 | refine below_set ?_ GE101.out | refine below_set ?_ GE102.out) | exact HB.out)) hb); clear HO106; clear HO120; clear HO123; clear HO126; clear BK101; clear BK102; clear HB; have HO106 := n0_; have HO120 := n1_; have HO123 := n2_; have HO126 := n3_; have BK101 := n4_; have BK102 := n5_; have HB := n6_; clear n0_ n1_ n2_ n3_ n4_ n5_ n6_; (try clear hb); (try clear hb2); (try clear hk); (try clear hi)))
                all_goals (first | (go_ret; exact ⟨by first | rfl | (simp [errW_none, errW_some] <;> rfl) | (simp [*, errW_none, errW_some] <;> rfl) | (simp_all; done) | fail, by repeat (first | (with_reducible first | exact HB.out | apply below_alloc | apply pw_below_drewN | apply below_drew1 | refine below_set ?_ GE101.out | refine below_set ?_ GE102.out) | exact HB.out)⟩) | (exfalso; simp_all; done) | (exfalso; simp only [isEmpty_eq, isEmpty_ne] at *; simp_all; done) | (exfalso; exact isEmpty_clash (by assumption) (by assumption)) | (exfalso; exact isEmpty_clash' (by assumption) (by assumption)) | (exfalso; exact isEmpty_clash2 (by assumption) (by assumption)) | (exfalso; simp only [decide_eq_true_eq, decide_eq_false_iff_not] at *; omega))
              · rw [if_neg c70] at H
                exact absurd H (by simp)
          · exact absurd rfl c14
        · rw [if_neg c13] at H
          have c13b0 : (t132 == 0) = false := beq_eq_false_iff_ne.mpr c13
          have c13b1 : (t132 != 0) = true := bne_iff_ne.mpr c13
          by_cases c97 : true = true
          · clear c97
            have H1 : (some (!t131)) = some r := by (first | rw [if_pos rfl] at H | rw [if_pos trivial] at H); exact H
            clear H
            have H := H1
            clear H1
            obtain rfl := Option.some.inj H
            try go_wp2_with (first | ((with_reducible refine gate_callee (f := 19) rfl ?_); refine goesL_ (some 30) rfl rfl Tryz.func19 (by kernel_rfl) rfl #[.slice Ao25 t104.length co25, .agg #[.int .i64 t107, .string t108, .string t109, .int .i64 t110, .int .i64 t111]] rfl (by (try simp only [List.map_toArray, List.map_cons, List.map_nil]); first | done | rfl | (simp only [List.length_drop, List.length_take]; rfl)) ?_; (with_reducible refine (route_Find.calls _ _ t104 t107 t108 t109 t110 t111 t127 t128 t129 _ ?side1 ?side2 ?side3 A10.out).mono ?_); (case side1 => repeat (first | exact (Kd.R_reads' HO106.out).2.2 | (with_reducible refine Kd.C_alloc ?_ _) | (with_reducible refine Kd.C_drewN ?_ _) | (with_reducible refine Kd.C_drew ?_))); (case side2 => exact (Kd.R_reads' HO106.out).2.1); (case side3 => exact LaidR.below HLD.out (by repeat (first | (with_reducible first | exact HB.out | apply below_alloc | apply pw_below_drewN | apply below_drew1 | refine below_set ?_ GE101.out | refine below_set ?_ GE102.out) | exact HB.out))); rintro e w120 ⟨rfl, hb⟩; refine ⟨_, rfl, ?_⟩; have n0_ := Aside0.mk (Kd.R_below (by (with_reducible repeat (first | apply Kd.R_alloc | apply Kd.R_drewN | apply Kd.R_drew)); exact HO106.out) hb); have n1_ := Aside0.mk (Kd.R_below (by (with_reducible repeat (first | apply Kd.R_alloc | apply Kd.R_drewN | apply Kd.R_drew)); exact HO120.out) hb); have n2_ := Aside0.mk (Kd.R_below (by (with_reducible repeat (first | apply Kd.R_alloc | apply Kd.R_drewN | apply Kd.R_drew)); exact HO123.out) hb); have n3_ := Aside0.mk (Kd.R_below (by (with_reducible repeat (first | apply Kd.R_alloc | apply Kd.R_drewN | apply Kd.R_drew)); exact HO126.out) hb); have n4_ := Aside0.mk (blk_below (g := gb101) (o := .cells #[.string a1_0, .int .i64 a1_1] 35 (0, 0)) (by (with_reducible repeat (first | refine blk_drewN ?_ _ | refine blk_drew ?_ | refine blk_alloc ?_ _)); exact BK101.out) hb); have n5_ := Aside0.mk (blk_below (g := gb102) (o := .cells #[.int .i64 t107, .string t108, .string t109, .int .i64 t110, .int .i64 t111] 37 (0, 0)) (by (with_reducible repeat (first | refine blk_drewN ?_ _ | refine blk_drew ?_ | refine blk_alloc ?_ _)); exact BK102.out) hb); have n6_ := Aside0.mk (below_step (by repeat (first | (with_reducible first | exact HB.out | apply below_alloc | apply pw_below_drewN | apply below_drew1 | refine below_set ?_ GE101.out | refine below_set ?_ GE102.out) | exact HB.out)) hb); clear HO106; clear HO120; clear HO123; clear HO126; clear BK101; clear BK102; clear HB; have HO106 := n0_; have HO120 := n1_; have HO123 := n2_; have HO126 := n3_; have BK101 := n4_; have BK102 := n5_; have HB := n6_; clear n0_ n1_ n2_ n3_ n4_ n5_ n6_; (try clear hb); (try clear hb2); (try clear hk); (try clear hi); have hcz121_0 : w120.cell? ⟨gb102, 0, none⟩ = some (.int .i64 t107) := (blk_cell BK102.out 0).trans rfl; have hcz121_1 : w120.cell? ⟨gb102, 1, none⟩ = some (.string t108) := (blk_cell BK102.out 1).trans rfl; have hcz121_2 : w120.cell? ⟨gb102, 2, none⟩ = some (.string t109) := (blk_cell BK102.out 2).trans rfl; have hcz121_3 : w120.cell? ⟨gb102, 3, none⟩ = some (.int .i64 t110) := (blk_cell BK102.out 3).trans rfl; have hcz121_4 : w120.cell? ⟨gb102, 4, none⟩ = some (.int .i64 t111) := (blk_cell BK102.out 4).trans rfl; have hfz121_0 := blk_frozen BK102.out 0; have hfz121_1 := blk_frozen BK102.out 1; have hfz121_2 := blk_frozen BK102.out 2; have hfz121_3 := blk_frozen BK102.out 3; have hfz121_4 := blk_frozen BK102.out 4; obtain ⟨Ao122, co122, eo122⟩ := Kd.R_slice HO126.out; subst eo122) | ((with_reducible refine gate_callee (f := 19) rfl ?_); refine goesL_ (some 37) rfl rfl Tryz.func19 (by kernel_rfl) rfl #[.slice Ao122 t124.length co122, .agg #[.int .i64 t107, .string t108, .string t109, .int .i64 t110, .int .i64 t111]] rfl (by (try simp only [List.map_toArray, List.map_cons, List.map_nil]); first | done | rfl | (simp only [List.length_drop, List.length_take]; rfl)) ?_; (with_reducible refine (route_Find.calls _ _ t124 t107 t108 t109 t110 t111 t130 t131 t132 _ ?side1 ?side2 ?side3 A11.out).mono ?_); (case side1 => repeat (first | exact (Kd.R_reads' HO126.out).2.2 | (with_reducible refine Kd.C_alloc ?_ _) | (with_reducible refine Kd.C_drewN ?_ _) | (with_reducible refine Kd.C_drew ?_))); (case side2 => exact (Kd.R_reads' HO126.out).2.1); (case side3 => exact LaidR.below HLD.out (by repeat (first | (with_reducible first | exact HB.out | apply below_alloc | apply pw_below_drewN | apply below_drew1 | refine below_set ?_ GE101.out | refine below_set ?_ GE102.out) | exact HB.out))); rintro e w123 ⟨rfl, hb⟩; refine ⟨_, rfl, ?_⟩; have n0_ := Aside0.mk (Kd.R_below (by (with_reducible repeat (first | apply Kd.R_alloc | apply Kd.R_drewN | apply Kd.R_drew)); exact HO106.out) hb); have n1_ := Aside0.mk (Kd.R_below (by (with_reducible repeat (first | apply Kd.R_alloc | apply Kd.R_drewN | apply Kd.R_drew)); exact HO120.out) hb); have n2_ := Aside0.mk (Kd.R_below (by (with_reducible repeat (first | apply Kd.R_alloc | apply Kd.R_drewN | apply Kd.R_drew)); exact HO123.out) hb); have n3_ := Aside0.mk (Kd.R_below (by (with_reducible repeat (first | apply Kd.R_alloc | apply Kd.R_drewN | apply Kd.R_drew)); exact HO126.out) hb); have n4_ := Aside0.mk (blk_below (g := gb101) (o := .cells #[.string a1_0, .int .i64 a1_1] 35 (0, 0)) (by (with_reducible repeat (first | refine blk_drewN ?_ _ | refine blk_drew ?_ | refine blk_alloc ?_ _)); exact BK101.out) hb); have n5_ := Aside0.mk (blk_below (g := gb102) (o := .cells #[.int .i64 t107, .string t108, .string t109, .int .i64 t110, .int .i64 t111] 37 (0, 0)) (by (with_reducible repeat (first | refine blk_drewN ?_ _ | refine blk_drew ?_ | refine blk_alloc ?_ _)); exact BK102.out) hb); have n6_ := Aside0.mk (below_step (by repeat (first | (with_reducible first | exact HB.out | apply below_alloc | apply pw_below_drewN | apply below_drew1 | refine below_set ?_ GE101.out | refine below_set ?_ GE102.out) | exact HB.out)) hb); clear HO106; clear HO120; clear HO123; clear HO126; clear BK101; clear BK102; clear HB; have HO106 := n0_; have HO120 := n1_; have HO123 := n2_; have HO126 := n3_; have BK101 := n4_; have BK102 := n5_; have HB := n6_; clear n0_ n1_ n2_ n3_ n4_ n5_ n6_; (try clear hb); (try clear hb2); (try clear hk); (try clear hi)))
            all_goals (first | (go_ret; exact ⟨by first | rfl | (simp [errW_none, errW_some] <;> rfl) | (simp [*, errW_none, errW_some] <;> rfl) | (simp_all; done) | fail, by repeat (first | (with_reducible first | exact HB.out | apply below_alloc | apply pw_below_drewN | apply below_drew1 | refine below_set ?_ GE101.out | refine below_set ?_ GE102.out) | exact HB.out)⟩) | (exfalso; simp_all; done) | (exfalso; simp only [isEmpty_eq, isEmpty_ne] at *; simp_all; done) | (exfalso; exact isEmpty_clash (by assumption) (by assumption)) | (exfalso; exact isEmpty_clash' (by assumption) (by assumption)) | (exfalso; exact isEmpty_clash2 (by assumption) (by assumption)) | (exfalso; simp only [decide_eq_true_eq, decide_eq_false_iff_not] at *; omega))
          · exact absurd rfl c97
      · rw [if_neg c12] at H
        have c12b0 : (t129 == 0) = false := beq_eq_false_iff_ne.mpr c12
        have c12b1 : (t129 != 0) = true := bne_iff_ne.mpr c12
        by_cases c124 : true = true
        · clear c124
          have H1 : (if t128 = true then (none) else (if t132 = 0 then (some true) else (some (!t131)))) = some r := by (first | rw [if_pos rfl] at H | rw [if_pos trivial] at H); exact H
          clear H
          have H := H1
          clear H1
          by_cases c125 : t128 = true
          · subst c125
            have H1 : (none) = some r := by rw [if_pos rfl] at H; exact H
            clear H
            have H := H1
            clear H1
            exact absurd H (by simp)
          · replace c125 := Bool.eq_false_iff.mpr c125
            subst c125
            have H1 : (if t132 = 0 then (some true) else (some (!t131))) = some r := by rw [if_neg (show ¬ (false = true) by decide)] at H; exact H
            clear H
            have H := H1
            clear H1
            by_cases c126 : t132 = 0
            · rw [if_pos c126] at H
              have c126b0 : (t132 == 0) = true := beq_iff_eq.mpr c126
              have c126b1 : (t132 != 0) = false := bne_eq_false_iff_eq.mpr c126
              clear c126
              obtain rfl := Option.some.inj H
              try go_wp2_with (first | ((with_reducible refine gate_callee (f := 19) rfl ?_); refine goesL_ (some 30) rfl rfl Tryz.func19 (by kernel_rfl) rfl #[.slice Ao25 t104.length co25, .agg #[.int .i64 t107, .string t108, .string t109, .int .i64 t110, .int .i64 t111]] rfl (by (try simp only [List.map_toArray, List.map_cons, List.map_nil]); first | done | rfl | (simp only [List.length_drop, List.length_take]; rfl)) ?_; (with_reducible refine (route_Find.calls _ _ t104 t107 t108 t109 t110 t111 t127 false t129 _ ?side1 ?side2 ?side3 A10.out).mono ?_); (case side1 => repeat (first | exact (Kd.R_reads' HO106.out).2.2 | (with_reducible refine Kd.C_alloc ?_ _) | (with_reducible refine Kd.C_drewN ?_ _) | (with_reducible refine Kd.C_drew ?_))); (case side2 => exact (Kd.R_reads' HO106.out).2.1); (case side3 => exact LaidR.below HLD.out (by repeat (first | (with_reducible first | exact HB.out | apply below_alloc | apply pw_below_drewN | apply below_drew1 | refine below_set ?_ GE101.out | refine below_set ?_ GE102.out) | exact HB.out))); rintro e w149 ⟨rfl, hb⟩; refine ⟨_, rfl, ?_⟩; have n0_ := Aside0.mk (Kd.R_below (by (with_reducible repeat (first | apply Kd.R_alloc | apply Kd.R_drewN | apply Kd.R_drew)); exact HO106.out) hb); have n1_ := Aside0.mk (Kd.R_below (by (with_reducible repeat (first | apply Kd.R_alloc | apply Kd.R_drewN | apply Kd.R_drew)); exact HO120.out) hb); have n2_ := Aside0.mk (Kd.R_below (by (with_reducible repeat (first | apply Kd.R_alloc | apply Kd.R_drewN | apply Kd.R_drew)); exact HO123.out) hb); have n3_ := Aside0.mk (Kd.R_below (by (with_reducible repeat (first | apply Kd.R_alloc | apply Kd.R_drewN | apply Kd.R_drew)); exact HO126.out) hb); have n4_ := Aside0.mk (blk_below (g := gb101) (o := .cells #[.string a1_0, .int .i64 a1_1] 35 (0, 0)) (by (with_reducible repeat (first | refine blk_drewN ?_ _ | refine blk_drew ?_ | refine blk_alloc ?_ _)); exact BK101.out) hb); have n5_ := Aside0.mk (blk_below (g := gb102) (o := .cells #[.int .i64 t107, .string t108, .string t109, .int .i64 t110, .int .i64 t111] 37 (0, 0)) (by (with_reducible repeat (first | refine blk_drewN ?_ _ | refine blk_drew ?_ | refine blk_alloc ?_ _)); exact BK102.out) hb); have n6_ := Aside0.mk (below_step (by repeat (first | (with_reducible first | exact HB.out | apply below_alloc | apply pw_below_drewN | apply below_drew1 | refine below_set ?_ GE101.out | refine below_set ?_ GE102.out) | exact HB.out)) hb); clear HO106; clear HO120; clear HO123; clear HO126; clear BK101; clear BK102; clear HB; have HO106 := n0_; have HO120 := n1_; have HO123 := n2_; have HO126 := n3_; have BK101 := n4_; have BK102 := n5_; have HB := n6_; clear n0_ n1_ n2_ n3_ n4_ n5_ n6_; (try clear hb); (try clear hb2); (try clear hk); (try clear hi); have hcz150_0 : w149.cell? ⟨gb102, 0, none⟩ = some (.int .i64 t107) := (blk_cell BK102.out 0).trans rfl; have hcz150_1 : w149.cell? ⟨gb102, 1, none⟩ = some (.string t108) := (blk_cell BK102.out 1).trans rfl; have hcz150_2 : w149.cell? ⟨gb102, 2, none⟩ = some (.string t109) := (blk_cell BK102.out 2).trans rfl; have hcz150_3 : w149.cell? ⟨gb102, 3, none⟩ = some (.int .i64 t110) := (blk_cell BK102.out 3).trans rfl; have hcz150_4 : w149.cell? ⟨gb102, 4, none⟩ = some (.int .i64 t111) := (blk_cell BK102.out 4).trans rfl; have hfz150_0 := blk_frozen BK102.out 0; have hfz150_1 := blk_frozen BK102.out 1; have hfz150_2 := blk_frozen BK102.out 2; have hfz150_3 := blk_frozen BK102.out 3; have hfz150_4 := blk_frozen BK102.out 4; obtain ⟨Ao151, co151, eo151⟩ := Kd.R_slice HO126.out; subst eo151) | ((with_reducible refine gate_callee (f := 19) rfl ?_); refine goesL_ (some 37) rfl rfl Tryz.func19 (by kernel_rfl) rfl #[.slice Ao151 t124.length co151, .agg #[.int .i64 t107, .string t108, .string t109, .int .i64 t110, .int .i64 t111]] rfl (by (try simp only [List.map_toArray, List.map_cons, List.map_nil]); first | done | rfl | (simp only [List.length_drop, List.length_take]; rfl)) ?_; (with_reducible refine (route_Find.calls _ _ t124 t107 t108 t109 t110 t111 t130 t131 t132 _ ?side1 ?side2 ?side3 A11.out).mono ?_); (case side1 => repeat (first | exact (Kd.R_reads' HO126.out).2.2 | (with_reducible refine Kd.C_alloc ?_ _) | (with_reducible refine Kd.C_drewN ?_ _) | (with_reducible refine Kd.C_drew ?_))); (case side2 => exact (Kd.R_reads' HO126.out).2.1); (case side3 => exact LaidR.below HLD.out (by repeat (first | (with_reducible first | exact HB.out | apply below_alloc | apply pw_below_drewN | apply below_drew1 | refine below_set ?_ GE101.out | refine below_set ?_ GE102.out) | exact HB.out))); rintro e w152 ⟨rfl, hb⟩; refine ⟨_, rfl, ?_⟩; have n0_ := Aside0.mk (Kd.R_below (by (with_reducible repeat (first | apply Kd.R_alloc | apply Kd.R_drewN | apply Kd.R_drew)); exact HO106.out) hb); have n1_ := Aside0.mk (Kd.R_below (by (with_reducible repeat (first | apply Kd.R_alloc | apply Kd.R_drewN | apply Kd.R_drew)); exact HO120.out) hb); have n2_ := Aside0.mk (Kd.R_below (by (with_reducible repeat (first | apply Kd.R_alloc | apply Kd.R_drewN | apply Kd.R_drew)); exact HO123.out) hb); have n3_ := Aside0.mk (Kd.R_below (by (with_reducible repeat (first | apply Kd.R_alloc | apply Kd.R_drewN | apply Kd.R_drew)); exact HO126.out) hb); have n4_ := Aside0.mk (blk_below (g := gb101) (o := .cells #[.string a1_0, .int .i64 a1_1] 35 (0, 0)) (by (with_reducible repeat (first | refine blk_drewN ?_ _ | refine blk_drew ?_ | refine blk_alloc ?_ _)); exact BK101.out) hb); have n5_ := Aside0.mk (blk_below (g := gb102) (o := .cells #[.int .i64 t107, .string t108, .string t109, .int .i64 t110, .int .i64 t111] 37 (0, 0)) (by (with_reducible repeat (first | refine blk_drewN ?_ _ | refine blk_drew ?_ | refine blk_alloc ?_ _)); exact BK102.out) hb); have n6_ := Aside0.mk (below_step (by repeat (first | (with_reducible first | exact HB.out | apply below_alloc | apply pw_below_drewN | apply below_drew1 | refine below_set ?_ GE101.out | refine below_set ?_ GE102.out) | exact HB.out)) hb); clear HO106; clear HO120; clear HO123; clear HO126; clear BK101; clear BK102; clear HB; have HO106 := n0_; have HO120 := n1_; have HO123 := n2_; have HO126 := n3_; have BK101 := n4_; have BK102 := n5_; have HB := n6_; clear n0_ n1_ n2_ n3_ n4_ n5_ n6_; (try clear hb); (try clear hb2); (try clear hk); (try clear hi)))
              all_goals (first | (go_ret; exact ⟨by first | rfl | (simp [errW_none, errW_some] <;> rfl) | (simp [*, errW_none, errW_some] <;> rfl) | (simp_all; done) | fail, by repeat (first | (with_reducible first | exact HB.out | apply below_alloc | apply pw_below_drewN | apply below_drew1 | refine below_set ?_ GE101.out | refine below_set ?_ GE102.out) | exact HB.out)⟩) | (exfalso; simp_all; done) | (exfalso; simp only [isEmpty_eq, isEmpty_ne] at *; simp_all; done) | (exfalso; exact isEmpty_clash (by assumption) (by assumption)) | (exfalso; exact isEmpty_clash' (by assumption) (by assumption)) | (exfalso; exact isEmpty_clash2 (by assumption) (by assumption)) | (exfalso; simp only [decide_eq_true_eq, decide_eq_false_iff_not] at *; omega))
            · rw [if_neg c126] at H
              have c126b0 : (t132 == 0) = false := beq_eq_false_iff_ne.mpr c126
              have c126b1 : (t132 != 0) = true := bne_iff_ne.mpr c126
              obtain rfl := Option.some.inj H
              try go_wp2_with (first | ((with_reducible refine gate_callee (f := 19) rfl ?_); refine goesL_ (some 30) rfl rfl Tryz.func19 (by kernel_rfl) rfl #[.slice Ao25 t104.length co25, .agg #[.int .i64 t107, .string t108, .string t109, .int .i64 t110, .int .i64 t111]] rfl (by (try simp only [List.map_toArray, List.map_cons, List.map_nil]); first | done | rfl | (simp only [List.length_drop, List.length_take]; rfl)) ?_; (with_reducible refine (route_Find.calls _ _ t104 t107 t108 t109 t110 t111 t127 false t129 _ ?side1 ?side2 ?side3 A10.out).mono ?_); (case side1 => repeat (first | exact (Kd.R_reads' HO106.out).2.2 | (with_reducible refine Kd.C_alloc ?_ _) | (with_reducible refine Kd.C_drewN ?_ _) | (with_reducible refine Kd.C_drew ?_))); (case side2 => exact (Kd.R_reads' HO106.out).2.1); (case side3 => exact LaidR.below HLD.out (by repeat (first | (with_reducible first | exact HB.out | apply below_alloc | apply pw_below_drewN | apply below_drew1 | refine below_set ?_ GE101.out | refine below_set ?_ GE102.out) | exact HB.out))); rintro e w175 ⟨rfl, hb⟩; refine ⟨_, rfl, ?_⟩; have n0_ := Aside0.mk (Kd.R_below (by (with_reducible repeat (first | apply Kd.R_alloc | apply Kd.R_drewN | apply Kd.R_drew)); exact HO106.out) hb); have n1_ := Aside0.mk (Kd.R_below (by (with_reducible repeat (first | apply Kd.R_alloc | apply Kd.R_drewN | apply Kd.R_drew)); exact HO120.out) hb); have n2_ := Aside0.mk (Kd.R_below (by (with_reducible repeat (first | apply Kd.R_alloc | apply Kd.R_drewN | apply Kd.R_drew)); exact HO123.out) hb); have n3_ := Aside0.mk (Kd.R_below (by (with_reducible repeat (first | apply Kd.R_alloc | apply Kd.R_drewN | apply Kd.R_drew)); exact HO126.out) hb); have n4_ := Aside0.mk (blk_below (g := gb101) (o := .cells #[.string a1_0, .int .i64 a1_1] 35 (0, 0)) (by (with_reducible repeat (first | refine blk_drewN ?_ _ | refine blk_drew ?_ | refine blk_alloc ?_ _)); exact BK101.out) hb); have n5_ := Aside0.mk (blk_below (g := gb102) (o := .cells #[.int .i64 t107, .string t108, .string t109, .int .i64 t110, .int .i64 t111] 37 (0, 0)) (by (with_reducible repeat (first | refine blk_drewN ?_ _ | refine blk_drew ?_ | refine blk_alloc ?_ _)); exact BK102.out) hb); have n6_ := Aside0.mk (below_step (by repeat (first | (with_reducible first | exact HB.out | apply below_alloc | apply pw_below_drewN | apply below_drew1 | refine below_set ?_ GE101.out | refine below_set ?_ GE102.out) | exact HB.out)) hb); clear HO106; clear HO120; clear HO123; clear HO126; clear BK101; clear BK102; clear HB; have HO106 := n0_; have HO120 := n1_; have HO123 := n2_; have HO126 := n3_; have BK101 := n4_; have BK102 := n5_; have HB := n6_; clear n0_ n1_ n2_ n3_ n4_ n5_ n6_; (try clear hb); (try clear hb2); (try clear hk); (try clear hi); have hcz176_0 : w175.cell? ⟨gb102, 0, none⟩ = some (.int .i64 t107) := (blk_cell BK102.out 0).trans rfl; have hcz176_1 : w175.cell? ⟨gb102, 1, none⟩ = some (.string t108) := (blk_cell BK102.out 1).trans rfl; have hcz176_2 : w175.cell? ⟨gb102, 2, none⟩ = some (.string t109) := (blk_cell BK102.out 2).trans rfl; have hcz176_3 : w175.cell? ⟨gb102, 3, none⟩ = some (.int .i64 t110) := (blk_cell BK102.out 3).trans rfl; have hcz176_4 : w175.cell? ⟨gb102, 4, none⟩ = some (.int .i64 t111) := (blk_cell BK102.out 4).trans rfl; have hfz176_0 := blk_frozen BK102.out 0; have hfz176_1 := blk_frozen BK102.out 1; have hfz176_2 := blk_frozen BK102.out 2; have hfz176_3 := blk_frozen BK102.out 3; have hfz176_4 := blk_frozen BK102.out 4; obtain ⟨Ao177, co177, eo177⟩ := Kd.R_slice HO126.out; subst eo177) | ((with_reducible refine gate_callee (f := 19) rfl ?_); refine goesL_ (some 37) rfl rfl Tryz.func19 (by kernel_rfl) rfl #[.slice Ao177 t124.length co177, .agg #[.int .i64 t107, .string t108, .string t109, .int .i64 t110, .int .i64 t111]] rfl (by (try simp only [List.map_toArray, List.map_cons, List.map_nil]); first | done | rfl | (simp only [List.length_drop, List.length_take]; rfl)) ?_; (with_reducible refine (route_Find.calls _ _ t124 t107 t108 t109 t110 t111 t130 t131 t132 _ ?side1 ?side2 ?side3 A11.out).mono ?_); (case side1 => repeat (first | exact (Kd.R_reads' HO126.out).2.2 | (with_reducible refine Kd.C_alloc ?_ _) | (with_reducible refine Kd.C_drewN ?_ _) | (with_reducible refine Kd.C_drew ?_))); (case side2 => exact (Kd.R_reads' HO126.out).2.1); (case side3 => exact LaidR.below HLD.out (by repeat (first | (with_reducible first | exact HB.out | apply below_alloc | apply pw_below_drewN | apply below_drew1 | refine below_set ?_ GE101.out | refine below_set ?_ GE102.out) | exact HB.out))); rintro e w178 ⟨rfl, hb⟩; refine ⟨_, rfl, ?_⟩; have n0_ := Aside0.mk (Kd.R_below (by (with_reducible repeat (first | apply Kd.R_alloc | apply Kd.R_drewN | apply Kd.R_drew)); exact HO106.out) hb); have n1_ := Aside0.mk (Kd.R_below (by (with_reducible repeat (first | apply Kd.R_alloc | apply Kd.R_drewN | apply Kd.R_drew)); exact HO120.out) hb); have n2_ := Aside0.mk (Kd.R_below (by (with_reducible repeat (first | apply Kd.R_alloc | apply Kd.R_drewN | apply Kd.R_drew)); exact HO123.out) hb); have n3_ := Aside0.mk (Kd.R_below (by (with_reducible repeat (first | apply Kd.R_alloc | apply Kd.R_drewN | apply Kd.R_drew)); exact HO126.out) hb); have n4_ := Aside0.mk (blk_below (g := gb101) (o := .cells #[.string a1_0, .int .i64 a1_1] 35 (0, 0)) (by (with_reducible repeat (first | refine blk_drewN ?_ _ | refine blk_drew ?_ | refine blk_alloc ?_ _)); exact BK101.out) hb); have n5_ := Aside0.mk (blk_below (g := gb102) (o := .cells #[.int .i64 t107, .string t108, .string t109, .int .i64 t110, .int .i64 t111] 37 (0, 0)) (by (with_reducible repeat (first | refine blk_drewN ?_ _ | refine blk_drew ?_ | refine blk_alloc ?_ _)); exact BK102.out) hb); have n6_ := Aside0.mk (below_step (by repeat (first | (with_reducible first | exact HB.out | apply below_alloc | apply pw_below_drewN | apply below_drew1 | refine below_set ?_ GE101.out | refine below_set ?_ GE102.out) | exact HB.out)) hb); clear HO106; clear HO120; clear HO123; clear HO126; clear BK101; clear BK102; clear HB; have HO106 := n0_; have HO120 := n1_; have HO123 := n2_; have HO126 := n3_; have BK101 := n4_; have BK102 := n5_; have HB := n6_; clear n0_ n1_ n2_ n3_ n4_ n5_ n6_; (try clear hb); (try clear hb2); (try clear hk); (try clear hi)))
              all_goals (first | (go_ret; exact ⟨by first | rfl | (simp [errW_none, errW_some] <;> rfl) | (simp [*, errW_none, errW_some] <;> rfl) | (simp_all; done) | fail, by repeat (first | (with_reducible first | exact HB.out | apply below_alloc | apply pw_below_drewN | apply below_drew1 | refine below_set ?_ GE101.out | refine below_set ?_ GE102.out) | exact HB.out)⟩) | (exfalso; simp_all; done) | (exfalso; simp only [isEmpty_eq, isEmpty_ne] at *; simp_all; done) | (exfalso; exact isEmpty_clash (by assumption) (by assumption)) | (exfalso; exact isEmpty_clash' (by assumption) (by assumption)) | (exfalso; exact isEmpty_clash2 (by assumption) (by assumption)) | (exfalso; simp only [decide_eq_true_eq, decide_eq_false_iff_not] at *; omega))
        · exact absurd rfl c124
    · rw [if_neg c8] at H
      exact absurd H (by simp)
  · rw [if_neg c7] at H
    exact absurd H (by simp)
end Go.Proofs.YtaknknfcikdjiaaGreatDoor.RTRouteMore
end
section
namespace Go.Proofs.YtaknknfcikdjiaaGreatDoor.Hand
open Go.RowKit Go.Proofs.YtaknknfcikdjiaaGreatDoorW Go.Proofs.YtaknknfcikdjiaaGreatDoorW.PrintWords Go.Proofs.YtaknknfcikdjiaaGreatDoor.SA Go.Proofs.YtaknknfcikdjiaaGreatDoor.RK Go.Proofs.YtaknknfcikdjiaaGreatDoor.RF Go.Proofs.YtaknknfcikdjiaaGreatDoor.RTRouteMore
theorem ext_all (q : ByteArray) (h : q.size ≤ 61) : q.extract 0 (mn (q.size : Int) 61).toNat = q := by
  have e : (mn (q.size : Int) 61).toNat = q.size := by unfold mn; split <;> omega
  rw [e]
  exact ByteArray.extract_zero_size
theorem ext_short (q : ByteArray) : (q.extract 0 (mn (q.size : Int) 61).toNat).size ≤ 61 := by
  have e : (mn (q.size : Int) 61).toNat ≤ 61 := by unfold mn; split <;> omega
  rw [ByteArray.size_extract]
  omega
theorem cutRt_twice (x : Rt) : cutRt (cutRt x) = cutRt x := by
  have e := ext_all _ (ext_short x.f0)
  unfold cutRt at *
  simp only
  rw [e]
theorem cutR_app (l : List Rt) (x : Rt) : cutR (cutR l ++ [x]) = cutR l ∨ cutR (cutR l ++ [x]) = cutR l ++ [cutRt x] := by
  have hl := cutR_len l
  have hm : (cutR l).map cutRt = cutR l := by
    unfold cutR
    rw [List.map_map]
    exact List.map_congr_left fun a _ => cutRt_twice a
  generalize cutR l = m at *
  by_cases h : m.length = 22
  · left
    unfold cutR
    rw [List.take_append_of_le_length (by omega), List.take_of_length_le (by omega), hm]
  · right
    unfold cutR
    rw [List.take_of_length_le (by simp; omega), List.map_append, hm]
    rfl
def headT : Option Int → Int × Bool × Int
  | none => (0, false, 0)
  | some a => (a, true, 0)
theorem find_cases (l : List Rt) (n : Int) (a1 a2 : ByteArray) (a3 a4 : Int) :
    (∃ e, e ≠ 0 ∧ findT l n a1 a2 a3 a4 = (0, false, e)) ∨ ∃ s, printT n a1 a2 a3 a4 = (s, 0) ∧ findT l n a1 a2 a3 a4 = headT (allP s.data.toList (pfx l)).head? := by
  rcases all_cases l n a1 a2 a3 a4 with ⟨h, hr⟩ | ⟨h, hr, hn, hp⟩ | ⟨s, hr, hn, hp, h⟩
  · exact .inl ⟨160, by decide, by unfold findT; rw [h]⟩
  · exact .inl ⟨60, by decide, by unfold findT; rw [h]⟩
  · refine .inr ⟨s, hp, ?_⟩
    unfold findT
    rw [h]
    cases allP s.data.toList (pfx l) with
    | nil => rfl
    | cons a r => rfl
def moreT (len : Int) (A B : Int × Bool × Int) : Option Bool :=
  if A.2.2 = 0 then (if B.2.2 = 0 then (if B.2.1 = true then (if B.1 = len then some true else (if (A.2.1 == B.2.1) = true then some (A.1 == B.1) else none)) else (if (A.2.1 == B.2.1) = true then some (A.1 == B.1) else none)) else some (!B.2.1)) else (if A.2.1 = true then none else (if B.2.2 = 0 then some true else some (!B.2.1)))
theorem more_same (len : Int) (A : Int × Bool × Int) (h : A.2.2 ≠ 0 → A.2.1 = false) : moreT len A A = some true := by
  obtain ⟨a, is, e⟩ := A
  unfold moreT
  by_cases h0 : e = 0
  · subst h0
    cases is <;> simp
  · have := h h0
    simp only at this
    subst this
    simp [h0]
theorem more_true (l m : List Rt) (x : Rt) (n : Int) (a1 a2 : ByteArray) (a3 a4 : Int) (h : m = l ∨ m = l ++ [x]) : moreT (l.length : Int) (findT l n a1 a2 a3 a4) (findT m n a1 a2 a3 a4) = some true := by
  rcases h with rfl | rfl
  · refine more_same _ _ fun hne => ?_
    rcases find_cases m n a1 a2 a3 a4 with ⟨e, he, hA⟩ | ⟨s, hp, hA⟩
    · rw [hA]
    · rw [hA] at hne ⊢
      revert hne
      cases (allP s.data.toList (pfx m)).head? with
      | none => exact fun q => absurd rfl q
      | some a => exact fun q => absurd rfl q
  · rcases find_cases l n a1 a2 a3 a4 with ⟨e, he, hA⟩ | ⟨s, hp, hA⟩
    · rcases find_cases (l ++ [x]) n a1 a2 a3 a4 with ⟨f, hf, hB⟩ | ⟨t, hq, hB⟩
      · rw [hA, hB]
        simp [moreT, he, hf]
      · rw [hA, hB]
        cases (allP t.data.toList (pfx (l ++ [x]))).head? with
        | none => simp [moreT, headT, he]
        | some a => simp [moreT, headT, he]
    · rcases find_cases (l ++ [x]) n a1 a2 a3 a4 with ⟨f, hf, hB⟩ | ⟨t, hq, hB⟩
      · rw [hA, hB]
        cases (allP s.data.toList (pfx l)).head? with
        | none => simp [moreT, headT, hf]
        | some a => simp [moreT, headT, hf]
      · obtain rfl : t = s := by rw [hp] at hq; exact (Prod.mk.inj hq).1.symm
        have e : pfx (l ++ [x]) = pfx l ++ [x.f0] := by unfold pfx; rw [List.map_append]; rfl
        have hlen : (pfx l).length = l.length := by unfold pfx; rw [List.length_map]
        rw [hA, hB, e]
        rcases allP_more t.data.toList (pfx l) x.f0 with hh | hh
        · rw [hh]
          refine more_same _ _ fun hne => ?_
          revert hne
          cases (allP t.data.toList (pfx l)).head? with
          | none => exact fun q => absurd rfl q
          | some a => exact fun q => absurd rfl q
        · rw [hh, hlen]
          cases (allP t.data.toList (pfx l)).head? with
          | none => simp [moreT, headT]
          | some a => simp [moreT, headT]
theorem routeMore_true (l0 : List Rt) (x0 : ByteArray) (x1 : Int) (n : Int) (a1 a2 : ByteArray) (a3 a4 : Int) : postriderlaw16_RouteMore.f 100 l0 x0 x1 n a1 a2 a3 a4 = some true := by
  obtain ⟨b1, b2, hc, h1, h2⟩ := Cut_is n a1 a2 a3 a4
  have hl := cutR_len l0
  have hm := cutR_app l0 ⟨x0, x1⟩
  unfold postriderlaw16_RouteMore.f
  rw [shown_true, CutR_is l0 100 (by decide), hc]
  simp only [Option.bind_some, List.length_nil, List.nil_append, List.length_cons]
  rw [if_pos (by omega), if_pos (by omega), CutR_is _ 100 (by decide)]
  simp only [Option.bind_some]
  rw [Find_is _ n b1 b2 a3 a4 h1 h2, Find_is _ n b1 b2 a3 a4 h1 h2]
  simp only [Option.bind_some, if_true]
  exact more_true (cutR l0) _ _ n b1 b2 a3 a4 hm
end Go.Proofs.YtaknknfcikdjiaaGreatDoor.Hand
end

import Derived.Test.YtaknknfcikdjiaaGreatDoorZRouteLongest2
import Derived.ArgAppend
import Derived.Below
import Derived.BigQuiet
import Derived.Deep.AppendLies
import Derived.Deep.CutBlock
import Derived.Deep.DeepCutAuto
import Derived.Deep.Draws
import Derived.Deep.LoopGhost
import Derived.Deep.OwnRows
import Derived.Deep.QuietTactic
import Derived.Deep.RegionHeld3
import Derived.KernelRfl
import Derived.Laws.BitsLemmas
import Derived.Laws.BytesArg
import Derived.Laws.IdiomCopy
import Derived.Laws.MakeOwn
import Derived.Laws.OwnMore
import Derived.Laws.Rows
import Derived.Laws.Slices
import Derived.Lib.AppendStr
import Derived.Lib.ConvBytes
import Derived.Maps.AppendAt
import Derived.OrdersHeld
import Derived.OwnWalk
import Derived.RowKit
import Derived.RowKit3
import Derived.Tactics
import Derived.Test.YtaknknfcikdjiaaGreatDoorProg
import Derived.WalkKit
import Derived.WideLaws
section
namespace Go.Proofs.YtaknknfcikdjiaaGreatDoor.Hand
open Go.RowKit Go.Proofs.YtaknknfcikdjiaaGreatDoorW Go.Proofs.YtaknknfcikdjiaaGreatDoorW.PrintWords Go.Proofs.YtaknknfcikdjiaaGreatDoor.SA Go.Proofs.YtaknknfcikdjiaaGreatDoor.RK Go.Proofs.YtaknknfcikdjiaaGreatDoor.RF
theorem shown_true : postriderlaw16_shown.f = some true := by decide +kernel
theorem wrap_up (i : Nat) (h : i ≤ 1000000) : wrap64 ((i : Int) + 1) = ((i + 1 : Nat) : Int) := by unfold wrap64; omega
def cutRt (x : Rt) : Rt := ⟨x.f0.extract 0 (mn x.f0.size 61).toNat, x.f1⟩
def cutR (l : List Rt) : List Rt := (l.take 22).map cutRt
theorem rd_Rt {l : List Rt} {i : Nat} (h : i < l.length) : rd_T35 l (i : Int) = l[i] := by
  unfold rd_T35
  rw [Int.toNat_natCast, List.getD_eq_getElem?_getD, List.getElem?_eq_getElem h]
  rfl
theorem cutR_from (l : List Rt) : ∀ (d k i : Nat) (acc : List Rt), (l.take 22).length - i = d → i ≤ (l.take 22).length → d < k → acc.length = i → postriderlaw16_Cut.l0 k l acc (i : Int) = some (acc ++ ((l.take 22).drop i).map cutRt) := by
  intro d
  induction d with
  | zero =>
    intro k i acc hd hi hk ha
    obtain ⟨k, rfl⟩ : ∃ m, k = m + 1 := ⟨k - 1, by omega⟩
    rw [List.drop_eq_nil_of_le (by omega), List.map_nil, List.append_nil]
    simp only [postriderlaw16_Cut.l0]
    rw [List.length_take] at hd hi
    by_cases h : (i : Int) < (l.length : Int)
    · rw [if_pos h, if_neg (by omega)]
    · rw [if_neg h]
  | succ d ih =>
    intro k i acc hd hi hk ha
    obtain ⟨k, rfl⟩ : ∃ m, k = m + 1 := ⟨k - 1, by omega⟩
    have hlt : i < (l.take 22).length := by omega
    have hl : i < l.length ∧ i < 22 := by rw [List.length_take] at hlt; omega
    simp only [postriderlaw16_Cut.l0]
    rw [rd_Rt hl.1]
    obtain ⟨h1, h2, h3⟩ := mn_len (l[i]'hl.1).f0.size 61 (by decide)
    rw [if_pos (by omega), if_pos (by omega), if_pos (by omega), if_pos h1, if_pos h2, if_pos (by omega), wrap_up i (by omega), ih k (i + 1) _ (by omega) (by omega) (by omega) (by simp [ha])]
    rw [List.append_assoc]
    congr 1
    rw [List.drop_eq_getElem_cons hlt, List.map_cons]
    have e : (l.take 22)[i] = l[i]'hl.1 := List.getElem_take
    rw [e]
    rfl
theorem CutR_is (l : List Rt) (k : Nat) (hk : 30 ≤ k) : postriderlaw16_Cut.f k l = some (cutR l) := by
  unfold postriderlaw16_Cut.f
  have := cutR_from l _ k 0 [] rfl (Nat.zero_le _) (by rw [List.length_take]; omega) rfl
  simpa [cutR] using this
theorem cutR_len (l : List Rt) : (cutR l).length ≤ 22 := by
  unfold cutR
  rw [List.length_map, List.length_take]
  omega
def findT (l : List Rt) (n : Int) (a1 a2 : ByteArray) (a3 a4 : Int) : Int × Bool × Int :=
  match (allT l n a1 a2 a3 a4).1 with
  | [] => (0, false, (allT l n a1 a2 a3 a4).2)
  | a :: _ => (a, true, 0)
theorem All_is (l : List Rt) (n : Int) (a1 a2 : ByteArray) (a3 a4 : Int) (h1 : a1.size ≤ 21) (h2 : a2.size ≤ 21) : route_All.f l n a1 a2 a3 a4 = some (allT l n a1 a2 a3 a4) := by
  unfold route_All.f
  rw [if_pos ⟨Nat.le_trans h1 (by decide), Nat.le_trans h2 (by decide)⟩]
theorem Find_is (l : List Rt) (n : Int) (a1 a2 : ByteArray) (a3 a4 : Int) (h1 : a1.size ≤ 21) (h2 : a2.size ≤ 21) : route_Find.f l n a1 a2 a3 a4 = some (findT l n a1 a2 a3 a4) := by
  unfold route_Find.f findT
  rw [All_is l n a1 a2 a3 a4 h1 h2]
  simp only [Option.bind_some]
  cases (allT l n a1 a2 a3 a4).1 with
  | nil => rfl
  | cons a r =>
    simp only [List.length_cons]
    rw [if_neg (by omega), if_pos (by omega)]
    rfl
theorem PrintR_is (n : Int) (a1 a2 : ByteArray) (a3 a4 : Int) (h1 : a1.size ≤ 21) (h2 : a2.size ≤ 21) : eid_PrintR.f n a1 a2 a3 a4 = some (printT n a1 a2 a3 a4) := by
  unfold eid_PrintR.f
  rw [if_pos ⟨Nat.le_trans h1 (by decide), Nat.le_trans h2 (by decide)⟩]
theorem all_cases (l : List Rt) (n : Int) (a1 a2 : ByteArray) (a3 a4 : Int) :
    (allT l n a1 a2 a3 a4 = ([], 160) ∧ rightRt l = false) ∨ (allT l n a1 a2 a3 a4 = ([], 60) ∧ rightRt l = true ∧ rightS n a1 a2 a3 a4 = false ∧ printT n a1 a2 a3 a4 = (⟨#[]⟩, 60)) ∨
      ∃ s, rightRt l = true ∧ rightS n a1 a2 a3 a4 = true ∧ printT n a1 a2 a3 a4 = (s, 0) ∧ allT l n a1 a2 a3 a4 = (allP s.data.toList (pfx l), 0) := by
  unfold allT printT
  cases hr : rightRt l with
  | false => exact .inl ⟨rfl, rfl⟩
  | true =>
    refine .inr ?_
    cases hn : rightS n a1 a2 a3 a4 with
    | false => exact .inl ⟨rfl, rfl, rfl, rfl⟩
    | true => exact .inr ⟨_, rfl, rfl, rfl, rfl⟩
theorem right_sizes2 {l : List Rt} (h : rightRt l = true) : ∀ p ∈ pfx l, p.size < 61 := fun p hp => by
  unfold rightRt at h
  simp only [Bool.and_eq_true, Bool.not_eq_true'] at h
  obtain ⟨x, hx, rfl⟩ := List.mem_map.1 hp
  have := (List.any_eq_false.1 h.2) x hx
  unfold otherRt at this
  simp at this
  omega
theorem ba_len (a : ByteArray) : a.data.toList.length = a.size := Array.length_toList ..
theorem begins_is (s p : ByteArray) (h : (p.size : Int) ≤ (s.size : Int)) : ((s.extract 0 (mn (p.size : Int) (s.size : Int)).toNat).toList == p.toList) = p.data.toList.isPrefixOf s.data.toList := by
  have e : (mn (p.size : Int) (s.size : Int)).toNat = p.size := by unfold mn; split <;> omega
  rw [e, ByteArray.toList_eq, ByteArray.toList_eq, ByteArray.data_extract, Array.toList_extract, List.extract_eq_take_drop, List.drop_zero, Nat.sub_zero]
  rw [Bool.eq_iff_iff, beq_iff_eq, List.isPrefixOf_iff_prefix, List.prefix_iff_eq_take, ba_len]
  exact eq_comm
theorem begins_not (s p : ByteArray) (h : ¬ (p.size : Int) ≤ (s.size : Int)) : p.data.toList.isPrefixOf s.data.toList = false := by
  rw [Bool.eq_false_iff]
  intro hp
  have := (List.isPrefixOf_iff_prefix.1 hp).length_le
  rw [ba_len, ba_len] at this
  omega
theorem mn_ok (p s : Nat) (h : (p : Int) ≤ (s : Int)) : 0 ≤ mn (p : Int) (s : Int) ∧ mn (p : Int) (s : Int) ≤ (s : Int) := by unfold mn; split <;> omega
theorem place_is {l : List Rt} {s : ByteArray} {a : Int} : a ∈ allP s.data.toList (pfx l) ↔ 0 ≤ a ∧ a < (l.length : Int) ∧ (rd_T35 l a).f0.data.toList.isPrefixOf s.data.toList = true := by
  rw [allP_mem]
  constructor
  · rintro ⟨k, p, rfl, h1, h2⟩
    rw [List.getElem?_map, Option.map_eq_some_iff] at h1
    obtain ⟨x, h3, rfl⟩ := h1
    obtain ⟨hk, rfl⟩ := List.getElem?_eq_some_iff.1 h3
    rw [rd_Rt hk]
    exact ⟨by omega, by omega, h2⟩
  · rintro ⟨h0, h1, h2⟩
    have e : a = ((a.toNat : Nat) : Int) := by omega
    have hk : a.toNat < l.length := by omega
    rw [e, rd_Rt hk] at h2
    exact ⟨a.toNat, _, e, by rw [List.getElem?_map, List.getElem?_eq_getElem hk]; rfl, h2⟩
theorem len_is {l : List Rt} {a : Int} (h0 : 0 ≤ a) (h1 : a < (l.length : Int)) : lenAt (pfx l) a = ((rd_T35 l a).f0.size : Int) := by
  have e : a = ((a.toNat : Nat) : Int) := by omega
  have hk : a.toNat < l.length := by omega
  unfold lenAt
  conv => rhs; rw [e, rd_Rt hk]
  rw [List.getD_eq_getElem?_getD, List.getElem?_map, List.getElem?_eq_getElem hk]
  rfl
end Go.Proofs.YtaknknfcikdjiaaGreatDoor.Hand
end
section
namespace Go.Proofs.YtaknknfcikdjiaaGreatDoor.RTRouteLongest
open Go.Proofs.YtaknknfcikdjiaaGreatDoor.Hand
open Go.Proofs.YtaknknfcikdjiaaGreatDoor.SA
open Go.Proofs.YtaknknfcikdjiaaGreatDoor.RK
open Go.Proofs.YtaknknfcikdjiaaGreatDoor.RF
open Go.RowKit Go.Proofs.YtaknknfcikdjiaaGreatDoorW.PrintWords Go.Proofs.YtaknknfcikdjiaaGreatDoorW.PrintLast Go.Proofs.YtaknknfcikdjiaaGreatDoorW.PrintMore
attribute [local go_sem] max2_int min2_int max_two min_two max_three min_three max_four min_four
set_option linter.unusedVariables false
set_option linter.unusedSimpArgs false
def errW : Option Int → Value
  | none => .nilIface
  | some c => .iface 0 (.int .i64 c)
theorem errW_none : errW none = .nilIface := rfl
theorem errW_some (c : Int) : errW (some c) = .iface 0 (.int .i64 c) := rfl
end Go.Proofs.YtaknknfcikdjiaaGreatDoor.RTRouteLongest
end
section
namespace Go.Proofs.YtaknknfcikdjiaaGreatDoor.RTRouteLongest
open Go.Proofs.YtaknknfcikdjiaaGreatDoor.Hand
open Go.Proofs.YtaknknfcikdjiaaGreatDoor.SA
open Go.Proofs.YtaknknfcikdjiaaGreatDoor.RK
open Go.Proofs.YtaknknfcikdjiaaGreatDoor.RF
open Go.RowKit Go.Proofs.YtaknknfcikdjiaaGreatDoorW.PrintWords Go.Proofs.YtaknknfcikdjiaaGreatDoorW.PrintLast Go.Proofs.YtaknknfcikdjiaaGreatDoorW.PrintMore
attribute [local go_sem] max2_int min2_int max_two min_two max_three min_three max_four min_four
set_option linter.unusedVariables false
set_option linter.unusedSimpArgs false
theorem bdn {B : Nat} {w W : World} (h : Below B w W) (n : Nat) : Below B w (W.drewN n) := pw_below_drewN h n
theorem bal {w W : World} (h : Below w.heap.size w W) (o : Obj) : Below w.heap.size w (W.alloc o) := below_alloc h o
theorem bd1 {base : Nat} {w W : World} (h : Below base w W) : Below base w W.drew := below_drew1 h
theorem bfz {w : World} {g : Nat} {t : TypeId} {cs : Array Value} (h : w.heap[g]? = some (.cells cs t (0, 0))) (i : Nat) : w.frozen? ⟨g, i, none⟩ = false := blk_frozen h i
mutual
def rlg.j0 : Nat → List (S35) → Bool → Int → Bool → ByteArray → Int → Bool → Option (Bool)
  | 0, _, _, _, _, _, _, _ => none
  | k + 1, x0, x5, x6, x7, x9, x10, x62 => if x62 = true then (none) else (if x7 = true then (if 0 ≤ x6 then (if x6 < (x0.length : Int) then (rlg.j1 k x0 x5 x6 x7 x9 x10 (((rd_T35 x0 x6).f0).size : Int)) else (none)) else (none)) else (rlg.j1 k x0 x5 x6 x7 x9 x10 (-1)))
def rlg.j1 : Nat → List (S35) → Bool → Int → Bool → ByteArray → Int → Int → Option (Bool)
  | 0, _, _, _, _, _, _, _ => none
  | k + 1, x0, x5, x6, x7, x9, x10, x11 => rlg.l0 k x0 x5 x6 x7 x9 x10 x11 0
def rlg.l0 : Nat → List (S35) → Bool → Int → Bool → ByteArray → Int → Int → Int → Option (Bool)
  | 0, _, _, _, _, _, _, _, _ => none
  | k + 1, x0, x5, x6, x7, x9, x10, x11, x12 => if x12 < (x0.length : Int) then (if 0 ≤ x12 then (if (((rd_T35 x0 x12).f0).size : Int) ≤ (x9.size : Int) then (if 0 ≤ (mn (((rd_T35 x0 x12).f0).size : Int) (x9.size : Int)) then (if (mn (((rd_T35 x0 x12).f0).size : Int) (x9.size : Int)) ≤ (x9.size : Int) then (if (x9.extract 0 ((mn (((rd_T35 x0 x12).f0).size : Int) (x9.size : Int)) : Int).toNat).toList = ((rd_T35 x0 x12).f0).toList then (if (((rd_T35 x0 x12).f0).size : Int) > x11 then (none) else (if (((rd_T35 x0 x12).f0).size : Int) = x11 then (if x12 < x6 then (none) else (if x12 = x6 then (if x7 = true then (if ((x9.extract 0 ((mn (((rd_T35 x0 x12).f0).size : Int) (x9.size : Int)) : Int).toNat).toList = ((rd_T35 x0 x12).f0).toList) then (rlg.l0 k x0 x5 x6 x7 x9 x10 x11 (wrap64 (x12 + 1))) else (none)) else (rlg.l0 k x0 x5 x6 x7 x9 x10 x11 (wrap64 (x12 + 1)))) else (rlg.l0 k x0 x5 x6 x7 x9 x10 x11 (wrap64 (x12 + 1))))) else (if x12 = x6 then (if x7 = true then (if ((x9.extract 0 ((mn (((rd_T35 x0 x12).f0).size : Int) (x9.size : Int)) : Int).toNat).toList = ((rd_T35 x0 x12).f0).toList) then (rlg.l0 k x0 x5 x6 x7 x9 x10 x11 (wrap64 (x12 + 1))) else (none)) else (rlg.l0 k x0 x5 x6 x7 x9 x10 x11 (wrap64 (x12 + 1)))) else (rlg.l0 k x0 x5 x6 x7 x9 x10 x11 (wrap64 (x12 + 1)))))) else (if x12 = x6 then (if x7 = true then (if ((x9.extract 0 ((mn (((rd_T35 x0 x12).f0).size : Int) (x9.size : Int)) : Int).toNat).toList = ((rd_T35 x0 x12).f0).toList) then (rlg.l0 k x0 x5 x6 x7 x9 x10 x11 (wrap64 (x12 + 1))) else (none)) else (rlg.l0 k x0 x5 x6 x7 x9 x10 x11 (wrap64 (x12 + 1)))) else (rlg.l0 k x0 x5 x6 x7 x9 x10 x11 (wrap64 (x12 + 1))))) else (none)) else (none)) else (if x12 = x6 then (if x7 = true then (none) else (rlg.l0 k x0 x5 x6 x7 x9 x10 x11 (wrap64 (x12 + 1)))) else (rlg.l0 k x0 x5 x6 x7 x9 x10 x11 (wrap64 (x12 + 1))))) else (none)) else (if x5 = true then (some (x10 == 0)) else (none))
end
def rlg.f (k : Nat) (l0 : List (S35)) (a1_0 : Int) (a1_1 : ByteArray) (a1_2 : ByteArray) (a1_3 : Int) (a1_4 : Int) : Option (Bool) := (postriderlaw16_shown.f).bind fun t102 => ((postriderlaw16_Cut.f k l0).bind fun t103 => ((postriderlaw06_Cut.f a1_0 a1_1 a1_2 a1_3 a1_4).bind fun bt106 => ((route_Find.f t103 bt106.1 bt106.2.1 bt106.2.2.1 bt106.2.2.2.1 bt106.2.2.2.2).bind fun bt111 => ((eid_PrintR.f bt106.1 bt106.2.1 bt106.2.2.1 bt106.2.2.2.1 bt106.2.2.2.2).bind fun bt114 => (if bt111.2.2 = 0 then (if bt111.2.1 = true then (if bt111.1 < 0 then (rlg.j0 k t103 t102 bt111.1 bt111.2.1 bt114.1 bt114.2 true) else (rlg.j0 k t103 t102 bt111.1 bt111.2.1 bt114.1 bt114.2 (decide (bt111.1 ≥ (t103.length : Int))))) else (rlg.j0 k t103 t102 bt111.1 bt111.2.1 bt114.1 bt114.2 false)) else (if t102 = true then (if bt111.2.1 = true then (none) else (if bt111.1 = 0 then ((route_Right.f t103).bind fun t116 => (if t116 = true then (some (bt114.2 != 0)) else (some true))) else (none))) else (none)))))))
theorem rlg.mono_l : ∀ k, (∀ y0 y1 y2 y3 y4 y5 y6, LeO (rlg.j0 k y0 y1 y2 y3 y4 y5 y6) (rlg.j0 (k + 1) y0 y1 y2 y3 y4 y5 y6)) ∧ (∀ y0 y1 y2 y3 y4 y5 y6, LeO (rlg.j1 k y0 y1 y2 y3 y4 y5 y6) (rlg.j1 (k + 1) y0 y1 y2 y3 y4 y5 y6)) ∧ (∀ y0 y1 y2 y3 y4 y5 y6 y7, LeO (rlg.l0 k y0 y1 y2 y3 y4 y5 y6 y7) (rlg.l0 (k + 1) y0 y1 y2 y3 y4 y5 y6 y7))
  | 0 => ⟨fun _ _ _ _ _ _ _ r h => by simp [rlg.j0] at h, fun _ _ _ _ _ _ _ r h => by simp [rlg.j1] at h, fun _ _ _ _ _ _ _ _ r h => by simp [rlg.l0] at h⟩
  | k + 1 => by
    obtain ⟨ih0, ih1, ih2⟩ := rlg.mono_l k
    refine ⟨?_, ?_, ?_⟩
    · intro y0 y1 y2 y3 y4 y5 y6
      unfold rlg.j0
      repeat' first
      | (with_reducible exact ih0 _ _ _ _ _ _ _)
      | (with_reducible exact ih1 _ _ _ _ _ _ _)
      | (with_reducible exact ih2 _ _ _ _ _ _ _ _)
      | (with_reducible exact postriderlaw16_Cut.mono _ _)
      | (with_reducible exact LeO.refl _)
      | (with_reducible exact LeO.none _)
      | (with_reducible refine LeO.ite ?_ ?_)
      | (with_reducible refine LeO.bind ?_ (fun _ => ?_))
      | exact ih0 _ _ _ _ _ _ _
      | exact ih1 _ _ _ _ _ _ _
      | exact ih2 _ _ _ _ _ _ _ _
      | exact postriderlaw16_Cut.mono _ _
      | exact LeO.none _
      | refine LeO.ite ?_ ?_
      | refine LeO.bind ?_ (fun _ => ?_)
    · intro y0 y1 y2 y3 y4 y5 y6
      unfold rlg.j1
      repeat' first
      | (with_reducible exact ih0 _ _ _ _ _ _ _)
      | (with_reducible exact ih1 _ _ _ _ _ _ _)
      | (with_reducible exact ih2 _ _ _ _ _ _ _ _)
      | (with_reducible exact postriderlaw16_Cut.mono _ _)
      | (with_reducible exact LeO.refl _)
      | (with_reducible exact LeO.none _)
      | (with_reducible refine LeO.ite ?_ ?_)
      | (with_reducible refine LeO.bind ?_ (fun _ => ?_))
      | exact ih0 _ _ _ _ _ _ _
      | exact ih1 _ _ _ _ _ _ _
      | exact ih2 _ _ _ _ _ _ _ _
      | exact postriderlaw16_Cut.mono _ _
      | exact LeO.none _
      | refine LeO.ite ?_ ?_
      | refine LeO.bind ?_ (fun _ => ?_)
    · intro y0 y1 y2 y3 y4 y5 y6 y7
      unfold rlg.l0
      repeat' first
      | (with_reducible exact ih0 _ _ _ _ _ _ _)
      | (with_reducible exact ih1 _ _ _ _ _ _ _)
      | (with_reducible exact ih2 _ _ _ _ _ _ _ _)
      | (with_reducible exact postriderlaw16_Cut.mono _ _)
      | (with_reducible exact LeO.refl _)
      | (with_reducible exact LeO.none _)
      | (with_reducible refine LeO.ite ?_ ?_)
      | (with_reducible refine LeO.bind ?_ (fun _ => ?_))
      | exact ih0 _ _ _ _ _ _ _
      | exact ih1 _ _ _ _ _ _ _
      | exact ih2 _ _ _ _ _ _ _ _
      | exact postriderlaw16_Cut.mono _ _
      | exact LeO.none _
      | refine LeO.ite ?_ ?_
      | refine LeO.bind ?_ (fun _ => ?_)
theorem rlg.mono : ∀ a0 a1 a2 a3 a4 a5 k, LeO (rlg.f k a0 a1 a2 a3 a4 a5) (rlg.f (k + 1) a0 a1 a2 a3 a4 a5) := by
  intro a0 a1 a2 a3 a4 a5 k
  obtain ⟨ih0, ih1, ih2⟩ := rlg.mono_l k
  unfold rlg.f
  repeat' first
      | (with_reducible exact ih0 _ _ _ _ _ _ _)
      | (with_reducible exact ih1 _ _ _ _ _ _ _)
      | (with_reducible exact ih2 _ _ _ _ _ _ _ _)
      | (with_reducible exact postriderlaw16_Cut.mono _ _)
      | (with_reducible exact LeO.refl _)
      | (with_reducible exact LeO.none _)
      | (with_reducible refine LeO.ite ?_ ?_)
      | (with_reducible refine LeO.bind ?_ (fun _ => ?_))
      | exact ih0 _ _ _ _ _ _ _
      | exact ih1 _ _ _ _ _ _ _
      | exact ih2 _ _ _ _ _ _ _ _
      | exact postriderlaw16_Cut.mono _ _
      | exact LeO.none _
      | refine LeO.ite ?_ ?_
      | refine LeO.bind ?_ (fun _ => ?_)
set_option maxHeartbeats 8000000 in
set_option maxRecDepth 100000 in
theorem rlg.calls (k : Nat) (A0 : Option Addr) (c0 : Nat) (l0 : List (S35)) (a1_0 : Int) (a1_1 : ByteArray) (a1_2 : ByteArray) (a1_3 : Int) (a1_4 : Int) (r : Bool) (w : World) (hr0 : Kd.C k35 w A0 l0.length l0) (hc0 : l0.length ≤ c0) (hLd : LaidR w) (h : rlg.f k l0 a1_0 a1_1 a1_2 a1_3 a1_4 = some r) :
    Calls Tryz.prog 9 #[.slice A0 l0.length c0, .agg #[.int .i64 a1_0, .string a1_1, .string a1_2, .int .i64 a1_3, .int .i64 a1_4]] w fun e w' => e = .returned (.bool r) ∧ Below w.heap.size w w' := by
  have hu37 := Tryz.underlying37
  have HLD := Aside0.mk hLd
  clear hLd
  have HR0 := Aside0.mk hr0
  have HC0 := Aside0.mk hc0
  clear hr0 hc0
  have HB := Aside0.mk (Below.refl w.heap.size w)
  have H : ((postriderlaw16_shown.f).bind fun t102 => ((postriderlaw16_Cut.f k l0).bind fun t103 => ((postriderlaw06_Cut.f a1_0 a1_1 a1_2 a1_3 a1_4).bind fun bt106 => ((route_Find.f t103 bt106.1 bt106.2.1 bt106.2.2.1 bt106.2.2.2.1 bt106.2.2.2.2).bind fun bt111 => ((eid_PrintR.f bt106.1 bt106.2.1 bt106.2.2.1 bt106.2.2.2.1 bt106.2.2.2.2).bind fun bt114 => (if bt111.2.2 = 0 then (if bt111.2.1 = true then (if bt111.1 < 0 then (rlg.j0 k t103 t102 bt111.1 bt111.2.1 bt114.1 bt114.2 true) else (rlg.j0 k t103 t102 bt111.1 bt111.2.1 bt114.1 bt114.2 (decide (bt111.1 ≥ (t103.length : Int))))) else (rlg.j0 k t103 t102 bt111.1 bt111.2.1 bt114.1 bt114.2 false)) else (if t102 = true then (if bt111.2.1 = true then (none) else (if bt111.1 = 0 then ((route_Right.f t103).bind fun t116 => (if t116 = true then (some (bt114.2 != 0)) else (some true))) else (none))) else (none)))))))) = some r := h
  clear h
  replace H := Option.bind_eq_some_iff.mp H
  obtain ⟨t102, A30, H⟩ := H
  replace H : ((postriderlaw16_Cut.f k l0).bind fun t103 => ((postriderlaw06_Cut.f a1_0 a1_1 a1_2 a1_3 a1_4).bind fun bt106 => ((route_Find.f t103 bt106.1 bt106.2.1 bt106.2.2.1 bt106.2.2.2.1 bt106.2.2.2.2).bind fun bt111 => ((eid_PrintR.f bt106.1 bt106.2.1 bt106.2.2.1 bt106.2.2.2.1 bt106.2.2.2.2).bind fun bt114 => (if bt111.2.2 = 0 then (if bt111.2.1 = true then (if bt111.1 < 0 then (rlg.j0 k t103 t102 bt111.1 bt111.2.1 bt114.1 bt114.2 true) else (rlg.j0 k t103 t102 bt111.1 bt111.2.1 bt114.1 bt114.2 (decide (bt111.1 ≥ (t103.length : Int))))) else (rlg.j0 k t103 t102 bt111.1 bt111.2.1 bt114.1 bt114.2 false)) else (if t102 = true then (if bt111.2.1 = true then (none) else (if bt111.1 = 0 then ((route_Right.f t103).bind fun t116 => (if t116 = true then (some (bt114.2 != 0)) else (some true))) else (none))) else (none))))))) = some r := H
  have A3 := Aside0.mk A30
  clear A30
  replace H := Option.bind_eq_some_iff.mp H
  obtain ⟨t103, A40, H⟩ := H
  replace H : ((postriderlaw06_Cut.f a1_0 a1_1 a1_2 a1_3 a1_4).bind fun bt106 => ((route_Find.f t103 bt106.1 bt106.2.1 bt106.2.2.1 bt106.2.2.2.1 bt106.2.2.2.2).bind fun bt111 => ((eid_PrintR.f bt106.1 bt106.2.1 bt106.2.2.1 bt106.2.2.2.1 bt106.2.2.2.2).bind fun bt114 => (if bt111.2.2 = 0 then (if bt111.2.1 = true then (if bt111.1 < 0 then (rlg.j0 k t103 t102 bt111.1 bt111.2.1 bt114.1 bt114.2 true) else (rlg.j0 k t103 t102 bt111.1 bt111.2.1 bt114.1 bt114.2 (decide (bt111.1 ≥ (t103.length : Int))))) else (rlg.j0 k t103 t102 bt111.1 bt111.2.1 bt114.1 bt114.2 false)) else (if t102 = true then (if bt111.2.1 = true then (none) else (if bt111.1 = 0 then ((route_Right.f t103).bind fun t116 => (if t116 = true then (some (bt114.2 != 0)) else (some true))) else (none))) else (none)))))) = some r := H
  have A4 := Aside0.mk A40
  clear A40
  replace H := Option.bind_eq_some_iff.mp H
  obtain ⟨⟨t106, t107, t108, t109, t110⟩, A50, H⟩ := H
  replace H : ((route_Find.f t103 t106 t107 t108 t109 t110).bind fun bt111 => ((eid_PrintR.f t106 t107 t108 t109 t110).bind fun bt114 => (if bt111.2.2 = 0 then (if bt111.2.1 = true then (if bt111.1 < 0 then (rlg.j0 k t103 t102 bt111.1 bt111.2.1 bt114.1 bt114.2 true) else (rlg.j0 k t103 t102 bt111.1 bt111.2.1 bt114.1 bt114.2 (decide (bt111.1 ≥ (t103.length : Int))))) else (rlg.j0 k t103 t102 bt111.1 bt111.2.1 bt114.1 bt114.2 false)) else (if t102 = true then (if bt111.2.1 = true then (none) else (if bt111.1 = 0 then ((route_Right.f t103).bind fun t116 => (if t116 = true then (some (bt114.2 != 0)) else (some true))) else (none))) else (none))))) = some r := H
  have A5 := Aside0.mk A50
  clear A50
  replace H := Option.bind_eq_some_iff.mp H
  obtain ⟨⟨t111, t112, t113⟩, A60, H⟩ := H
  replace H : ((eid_PrintR.f t106 t107 t108 t109 t110).bind fun bt114 => (if t113 = 0 then (if t112 = true then (if t111 < 0 then (rlg.j0 k t103 t102 t111 t112 bt114.1 bt114.2 true) else (rlg.j0 k t103 t102 t111 t112 bt114.1 bt114.2 (decide (t111 ≥ (t103.length : Int))))) else (rlg.j0 k t103 t102 t111 t112 bt114.1 bt114.2 false)) else (if t102 = true then (if t112 = true then (none) else (if t111 = 0 then ((route_Right.f t103).bind fun t116 => (if t116 = true then (some (bt114.2 != 0)) else (some true))) else (none))) else (none)))) = some r := H
  have A6 := Aside0.mk A60
  clear A60
  replace H := Option.bind_eq_some_iff.mp H
  obtain ⟨⟨t114, t115⟩, A70, H⟩ := H
  replace H : (if t113 = 0 then (if t112 = true then (if t111 < 0 then (rlg.j0 k t103 t102 t111 t112 t114 t115 true) else (rlg.j0 k t103 t102 t111 t112 t114 t115 (decide (t111 ≥ (t103.length : Int))))) else (rlg.j0 k t103 t102 t111 t112 t114 t115 false)) else (if t102 = true then (if t112 = true then (none) else (if t111 = 0 then ((route_Right.f t103).bind fun t116 => (if t116 = true then (some (t115 != 0)) else (some true))) else (none))) else (none))) = some r := H
  have A7 := Aside0.mk A70
  clear A70
  by_cases c8 : t113 = 0
  · rw [if_pos c8] at H
    have c8b0 : (t113 == 0) = true := beq_iff_eq.mpr c8
    have c8b1 : (t113 != 0) = false := bne_eq_false_iff_eq.mpr c8
    clear c8
    have HC9 := Aside0.mk H
    clear H
    go_enter Tryz.func9, Tryz.ntmps9
    go_upto_region 8 with (first | ((with_reducible refine gate_dst (N := 3) rfl ?_); (try (refine gate_guard (by rfl) ?_; dsimp only)); refine box_event ?hg (N := 3) ?hd (cs := #[.int .i64 a1_0, .string a1_1, .string a1_2, .int .i64 a1_3, .int .i64 a1_4]) (t := 37) ?hr ?_; (case hd => rfl); (case hg => rfl); (case hr => first | (go_simp; done) | (go_simp; rfl) | (go_simp; simp only [isEmpty_ne, isEmpty_eq]; done) | (go_simp; simp only [isEmpty_ne, isEmpty_eq]; rfl)); intro gb101 hg w10 hbox hb; have n0_ := Aside0.mk (below_step (by repeat (first | (with_reducible first | exact HB.out | apply bal | apply bdn | apply bd1) | exact HB.out)) hb); have n1_ := Aside0.mk (hbox); have n2_ := Aside0.mk ((by rw [hg]; exact (below_size (by repeat (first | (with_reducible first | exact HB.out | apply bal | apply bdn | apply bd1) | exact HB.out))) : w.heap.size ≤ gb101)); have n3_ := Aside0.mk ((by rw [hg]; exact (below_size (by repeat (first | (with_reducible first | exact HB.out | apply bal | apply bdn | apply bd1) | exact HB.out))) : w.heap.size ≤ gb101)); clear HB; have HB := n0_; have BK101 := n1_; have GW101 := n2_; have GE101 := n3_; clear n0_ n1_ n2_ n3_; clear hb hbox hg) | (go_at_call 10; (with_reducible refine (postriderlaw16_shown.calls  t102 _ ?side1 A3.out).mono ?_); (case side1 => exact LaidR.below HLD.out (by repeat (first | (with_reducible first | exact HB.out | apply bal | apply bdn | apply bd1 | refine below_set ?_ GE101.out) | exact HB.out))); rintro e w11 ⟨rfl, hb⟩; have n0_ := Aside0.mk (blk_below (g := gb101) (o := .cells #[.int .i64 a1_0, .string a1_1, .string a1_2, .int .i64 a1_3, .int .i64 a1_4] 37 (0, 0)) (by (with_reducible repeat (first | refine blk_drewN ?_ _ | refine blk_drew ?_ | refine blk_alloc ?_ _)); exact BK101.out) hb); have n1_ := Aside0.mk (below_step (by repeat (first | (with_reducible first | exact HB.out | apply bal | apply bdn | apply bd1 | refine below_set ?_ GE101.out) | exact HB.out)) hb); clear BK101; clear HB; have BK101 := n0_; have HB := n1_; clear n0_ n1_; (try clear hb); (try clear hb2); (try clear hk); (try clear hi)) | (go_at_call 17; (with_reducible refine (postriderlaw16_Cut.calls k _ _ l0 t103 _ ?side1 ?side2 A4.out).mono ?_); (case side1 => repeat (first | exact (Kd.C_below HR0.out HB.out) | (with_reducible refine Kd.C_alloc ?_ _) | (with_reducible refine Kd.C_drewN ?_ _) | (with_reducible refine Kd.C_drew ?_))); (case side2 => exact HC0.out); rintro e w12 ⟨v104, rfl, ho0, hb⟩; have n0_ := Aside0.mk (Kd.R_lower ho0 (below_size (by repeat (first | (with_reducible first | exact HB.out | apply bal | apply bdn | apply bd1 | refine below_set ?_ GE101.out) | exact HB.out)))); have n1_ := Aside0.mk (blk_below (g := gb101) (o := .cells #[.int .i64 a1_0, .string a1_1, .string a1_2, .int .i64 a1_3, .int .i64 a1_4] 37 (0, 0)) (by (with_reducible repeat (first | refine blk_drewN ?_ _ | refine blk_drew ?_ | refine blk_alloc ?_ _)); exact BK101.out) hb); have n2_ := Aside0.mk (below_step (by repeat (first | (with_reducible first | exact HB.out | apply bal | apply bdn | apply bd1 | refine below_set ?_ GE101.out) | exact HB.out)) hb); clear BK101; clear HB; have HO105 := n0_; have BK101 := n1_; have HB := n2_; clear n0_ n1_ n2_; (try clear hb); (try clear hb2); (try clear hk); (try clear hi); (try clear ho0); have hcz13_0 : w12.cell? ⟨gb101, 0, none⟩ = some (.int .i64 a1_0) := (blk_cell BK101.out 0).trans rfl; have hcz13_1 : w12.cell? ⟨gb101, 1, none⟩ = some (.string a1_1) := (blk_cell BK101.out 1).trans rfl; have hcz13_2 : w12.cell? ⟨gb101, 2, none⟩ = some (.string a1_2) := (blk_cell BK101.out 2).trans rfl; have hcz13_3 : w12.cell? ⟨gb101, 3, none⟩ = some (.int .i64 a1_3) := (blk_cell BK101.out 3).trans rfl; have hcz13_4 : w12.cell? ⟨gb101, 4, none⟩ = some (.int .i64 a1_4) := (blk_cell BK101.out 4).trans rfl; have hfz13_0 := bfz BK101.out 0; have hfz13_1 := bfz BK101.out 1; have hfz13_2 := bfz BK101.out 2; have hfz13_3 := bfz BK101.out 3; have hfz13_4 := bfz BK101.out 4) | (go_at_call 18; (with_reducible refine (postriderlaw06_Cut.calls a1_0 a1_1 a1_2 a1_3 a1_4 t106 t107 t108 t109 t110 _ A5.out).mono ?_); rintro e w14 ⟨rfl, hb⟩; have n0_ := Aside0.mk (Kd.R_below (by (with_reducible repeat (first | apply Kd.R_alloc | apply Kd.R_drewN | apply Kd.R_drew)); exact HO105.out) hb); have n1_ := Aside0.mk (blk_below (g := gb101) (o := .cells #[.int .i64 a1_0, .string a1_1, .string a1_2, .int .i64 a1_3, .int .i64 a1_4] 37 (0, 0)) (by (with_reducible repeat (first | refine blk_drewN ?_ _ | refine blk_drew ?_ | refine blk_alloc ?_ _)); exact BK101.out) hb); have n2_ := Aside0.mk (below_step (by repeat (first | (with_reducible first | exact HB.out | apply bal | apply bdn | apply bd1 | refine below_set ?_ GE101.out) | exact HB.out)) hb); clear HO105; clear BK101; clear HB; have HO105 := n0_; have BK101 := n1_; have HB := n2_; clear n0_ n1_ n2_; (try clear hb); (try clear hb2); (try clear hk); (try clear hi); have hcz15_0 : w14.cell? ⟨gb101, 0, none⟩ = some (.int .i64 a1_0) := (blk_cell BK101.out 0).trans rfl; have hcz15_1 : w14.cell? ⟨gb101, 1, none⟩ = some (.string a1_1) := (blk_cell BK101.out 1).trans rfl; have hcz15_2 : w14.cell? ⟨gb101, 2, none⟩ = some (.string a1_2) := (blk_cell BK101.out 2).trans rfl; have hcz15_3 : w14.cell? ⟨gb101, 3, none⟩ = some (.int .i64 a1_3) := (blk_cell BK101.out 3).trans rfl; have hcz15_4 : w14.cell? ⟨gb101, 4, none⟩ = some (.int .i64 a1_4) := (blk_cell BK101.out 4).trans rfl; have hfz15_0 := bfz BK101.out 0; have hfz15_1 := bfz BK101.out 1; have hfz15_2 := bfz BK101.out 2; have hfz15_3 := bfz BK101.out 3; have hfz15_4 := bfz BK101.out 4; obtain ⟨Ao16, co16, eo16⟩ := Kd.R_slice HO105.out; subst eo16) | (go_at_call 19; (with_reducible refine (route_Find.calls _ _ t103 t106 t107 t108 t109 t110 t111 t112 t113 _ ?side1 ?side2 ?side3 A6.out).mono ?_); (case side1 => refine (Kd.R_reads' (e := 35) (base := w.heap.size) (ok := fun k_ => True) (n := t103.length) (c := co16) ?_).2.2; exact (by (with_reducible repeat (first | apply Kd.R_alloc | apply Kd.R_drewN | apply Kd.R_drew)); exact (Kd.R_mono (Kd.R_far (p := ⟨gb101, 4, none⟩) (Kd.R_far (p := ⟨gb101, 3, none⟩) (Kd.R_far (p := ⟨gb101, 2, none⟩) (Kd.R_far (p := ⟨gb101, 1, none⟩) (Kd.R_far (p := ⟨gb101, 0, none⟩) (Kd.R_types HO105.out BK101.out (by decide)) (fun _ hk => hk.2) (.int .i64 t106)) (fun _ hk => hk.2) (.string t107)) (fun _ hk => hk.2) (.string t108)) (fun _ hk => hk.2) (.int .i64 t109)) (fun _ hk => hk.2) (.int .i64 t110)) (fun _ h_ => h_.1)))); (case side2 => exact (Kd.R_reads' HO105.out).2.1); (case side3 => exact LaidR.below HLD.out (by repeat (first | (with_reducible first | exact HB.out | apply bal | apply bdn | apply bd1 | refine below_set ?_ GE101.out) | exact HB.out))); rintro e w17 ⟨rfl, hb⟩; have n0_ := Aside0.mk (Kd.R_below (by (with_reducible repeat (first | apply Kd.R_alloc | apply Kd.R_drewN | apply Kd.R_drew)); exact (Kd.R_mono (Kd.R_far (p := ⟨gb101, 4, none⟩) (Kd.R_far (p := ⟨gb101, 3, none⟩) (Kd.R_far (p := ⟨gb101, 2, none⟩) (Kd.R_far (p := ⟨gb101, 1, none⟩) (Kd.R_far (p := ⟨gb101, 0, none⟩) (Kd.R_types HO105.out BK101.out (by decide)) (fun _ hk => hk.2) (.int .i64 t106)) (fun _ hk => hk.2) (.string t107)) (fun _ hk => hk.2) (.string t108)) (fun _ hk => hk.2) (.int .i64 t109)) (fun _ hk => hk.2) (.int .i64 t110)) (fun _ h_ => h_.1))) hb); have n1_ := Aside0.mk (blk_below (g := gb101) (o := .cells #[.int .i64 t106, .string t107, .string t108, .int .i64 t109, .int .i64 t110] 37 (0, 0)) (by (with_reducible repeat (first | refine blk_drewN ?_ _ | refine blk_drew ?_ | refine blk_alloc ?_ _)); refine blk_put (cs := #[.int .i64 t106, .string t107, .string t108, .int .i64 t109, .int .i64 a1_4]) ?_ 4 _ rfl; (with_reducible repeat (first | refine blk_drewN ?_ _ | refine blk_drew ?_ | refine blk_alloc ?_ _)); refine blk_put (cs := #[.int .i64 t106, .string t107, .string t108, .int .i64 a1_3, .int .i64 a1_4]) ?_ 3 _ rfl; (with_reducible repeat (first | refine blk_drewN ?_ _ | refine blk_drew ?_ | refine blk_alloc ?_ _)); refine blk_put (cs := #[.int .i64 t106, .string t107, .string a1_2, .int .i64 a1_3, .int .i64 a1_4]) ?_ 2 _ rfl; (with_reducible repeat (first | refine blk_drewN ?_ _ | refine blk_drew ?_ | refine blk_alloc ?_ _)); refine blk_put (cs := #[.int .i64 t106, .string a1_1, .string a1_2, .int .i64 a1_3, .int .i64 a1_4]) ?_ 1 _ rfl; (with_reducible repeat (first | refine blk_drewN ?_ _ | refine blk_drew ?_ | refine blk_alloc ?_ _)); refine blk_put (cs := #[.int .i64 a1_0, .string a1_1, .string a1_2, .int .i64 a1_3, .int .i64 a1_4]) ?_ 0 _ rfl; (with_reducible repeat (first | refine blk_drewN ?_ _ | refine blk_drew ?_ | refine blk_alloc ?_ _)); exact BK101.out) hb); have n2_ := Aside0.mk (below_step (by repeat (first | (with_reducible first | exact HB.out | apply bal | apply bdn | apply bd1 | refine below_set ?_ GE101.out) | exact HB.out)) hb); clear HO105; clear BK101; clear HB; have HO105 := n0_; have BK101 := n1_; have HB := n2_; clear n0_ n1_ n2_; (try clear hb); (try clear hb2); (try clear hk); (try clear hi); have hcz18_0 : w17.cell? ⟨gb101, 0, none⟩ = some (.int .i64 t106) := (blk_cell BK101.out 0).trans rfl; have hcz18_1 : w17.cell? ⟨gb101, 1, none⟩ = some (.string t107) := (blk_cell BK101.out 1).trans rfl; have hcz18_2 : w17.cell? ⟨gb101, 2, none⟩ = some (.string t108) := (blk_cell BK101.out 2).trans rfl; have hcz18_3 : w17.cell? ⟨gb101, 3, none⟩ = some (.int .i64 t109) := (blk_cell BK101.out 3).trans rfl; have hcz18_4 : w17.cell? ⟨gb101, 4, none⟩ = some (.int .i64 t110) := (blk_cell BK101.out 4).trans rfl; have hfz18_0 := bfz BK101.out 0; have hfz18_1 := bfz BK101.out 1; have hfz18_2 := bfz BK101.out 2; have hfz18_3 := bfz BK101.out 3; have hfz18_4 := bfz BK101.out 4) | (go_at_call 21; (with_reducible refine (eid_PrintR.calls t106 t107 t108 t109 t110 t114 t115 _ ?side1 A7.out).mono ?_); (case side1 => exact LaidR.below HLD.out (by repeat (first | (with_reducible first | exact HB.out | apply bal | apply bdn | apply bd1 | refine below_set ?_ GE101.out) | exact HB.out))); rintro e w19 ⟨rfl, hb⟩; have n0_ := Aside0.mk (Kd.R_below (by (with_reducible repeat (first | apply Kd.R_alloc | apply Kd.R_drewN | apply Kd.R_drew)); exact HO105.out) hb); have n1_ := Aside0.mk (blk_below (g := gb101) (o := .cells #[.int .i64 t106, .string t107, .string t108, .int .i64 t109, .int .i64 t110] 37 (0, 0)) (by (with_reducible repeat (first | refine blk_drewN ?_ _ | refine blk_drew ?_ | refine blk_alloc ?_ _)); exact BK101.out) hb); have n2_ := Aside0.mk (below_step (by repeat (first | (with_reducible first | exact HB.out | apply bal | apply bdn | apply bd1 | refine below_set ?_ GE101.out) | exact HB.out)) hb); clear HO105; clear BK101; clear HB; have HO105 := n0_; have BK101 := n1_; have HB := n2_; clear n0_ n1_ n2_; (try clear hb); (try clear hb2); (try clear hk); (try clear hi)))
    repeat (go_quiet (first | ((with_reducible refine gate_dst (N := 3) rfl ?_); (try (refine gate_guard (by rfl) ?_; dsimp only)); refine box_event ?hg (N := 3) ?hd (cs := #[.int .i64 a1_0, .string a1_1, .string a1_2, .int .i64 a1_3, .int .i64 a1_4]) (t := 37) ?hr ?_; (case hd => rfl); (case hg => rfl); (case hr => first | (go_simp; done) | (go_simp; rfl) | (go_simp; simp only [isEmpty_ne, isEmpty_eq]; done) | (go_simp; simp only [isEmpty_ne, isEmpty_eq]; rfl)); intro gb101 hg w10 hbox hb; have n0_ := Aside0.mk (below_step (by repeat (first | (with_reducible first | exact HB.out | apply bal | apply bdn | apply bd1) | exact HB.out)) hb); have n1_ := Aside0.mk (hbox); have n2_ := Aside0.mk ((by rw [hg]; exact (below_size (by repeat (first | (with_reducible first | exact HB.out | apply bal | apply bdn | apply bd1) | exact HB.out))) : w.heap.size ≤ gb101)); have n3_ := Aside0.mk ((by rw [hg]; exact (below_size (by repeat (first | (with_reducible first | exact HB.out | apply bal | apply bdn | apply bd1) | exact HB.out))) : w.heap.size ≤ gb101)); clear HB; have HB := n0_; have BK101 := n1_; have GW101 := n2_; have GE101 := n3_; clear n0_ n1_ n2_ n3_; clear hb hbox hg) | (go_at_call 10; (with_reducible refine (postriderlaw16_shown.calls  t102 _ ?side1 A3.out).mono ?_); (case side1 => exact LaidR.below HLD.out (by repeat (first | (with_reducible first | exact HB.out | apply bal | apply bdn | apply bd1 | refine below_set ?_ GE101.out) | exact HB.out))); rintro e w11 ⟨rfl, hb⟩; have n0_ := Aside0.mk (blk_below (g := gb101) (o := .cells #[.int .i64 a1_0, .string a1_1, .string a1_2, .int .i64 a1_3, .int .i64 a1_4] 37 (0, 0)) (by (with_reducible repeat (first | refine blk_drewN ?_ _ | refine blk_drew ?_ | refine blk_alloc ?_ _)); exact BK101.out) hb); have n1_ := Aside0.mk (below_step (by repeat (first | (with_reducible first | exact HB.out | apply bal | apply bdn | apply bd1 | refine below_set ?_ GE101.out) | exact HB.out)) hb); clear BK101; clear HB; have BK101 := n0_; have HB := n1_; clear n0_ n1_; (try clear hb); (try clear hb2); (try clear hk); (try clear hi)) | (go_at_call 17; (with_reducible refine (postriderlaw16_Cut.calls k _ _ l0 t103 _ ?side1 ?side2 A4.out).mono ?_); (case side1 => repeat (first | exact (Kd.C_below HR0.out HB.out) | (with_reducible refine Kd.C_alloc ?_ _) | (with_reducible refine Kd.C_drewN ?_ _) | (with_reducible refine Kd.C_drew ?_))); (case side2 => exact HC0.out); rintro e w12 ⟨v104, rfl, ho0, hb⟩; have n0_ := Aside0.mk (Kd.R_lower ho0 (below_size (by repeat (first | (with_reducible first | exact HB.out | apply bal | apply bdn | apply bd1 | refine below_set ?_ GE101.out) | exact HB.out)))); have n1_ := Aside0.mk (blk_below (g := gb101) (o := .cells #[.int .i64 a1_0, .string a1_1, .string a1_2, .int .i64 a1_3, .int .i64 a1_4] 37 (0, 0)) (by (with_reducible repeat (first | refine blk_drewN ?_ _ | refine blk_drew ?_ | refine blk_alloc ?_ _)); exact BK101.out) hb); have n2_ := Aside0.mk (below_step (by repeat (first | (with_reducible first | exact HB.out | apply bal | apply bdn | apply bd1 | refine below_set ?_ GE101.out) | exact HB.out)) hb); clear BK101; clear HB; have HO105 := n0_; have BK101 := n1_; have HB := n2_; clear n0_ n1_ n2_; (try clear hb); (try clear hb2); (try clear hk); (try clear hi); (try clear ho0); have hcz13_0 : w12.cell? ⟨gb101, 0, none⟩ = some (.int .i64 a1_0) := (blk_cell BK101.out 0).trans rfl; have hcz13_1 : w12.cell? ⟨gb101, 1, none⟩ = some (.string a1_1) := (blk_cell BK101.out 1).trans rfl; have hcz13_2 : w12.cell? ⟨gb101, 2, none⟩ = some (.string a1_2) := (blk_cell BK101.out 2).trans rfl; have hcz13_3 : w12.cell? ⟨gb101, 3, none⟩ = some (.int .i64 a1_3) := (blk_cell BK101.out 3).trans rfl; have hcz13_4 : w12.cell? ⟨gb101, 4, none⟩ = some (.int .i64 a1_4) := (blk_cell BK101.out 4).trans rfl; have hfz13_0 := bfz BK101.out 0; have hfz13_1 := bfz BK101.out 1; have hfz13_2 := bfz BK101.out 2; have hfz13_3 := bfz BK101.out 3; have hfz13_4 := bfz BK101.out 4) | (go_at_call 18; (with_reducible refine (postriderlaw06_Cut.calls a1_0 a1_1 a1_2 a1_3 a1_4 t106 t107 t108 t109 t110 _ A5.out).mono ?_); rintro e w14 ⟨rfl, hb⟩; have n0_ := Aside0.mk (Kd.R_below (by (with_reducible repeat (first | apply Kd.R_alloc | apply Kd.R_drewN | apply Kd.R_drew)); exact HO105.out) hb); have n1_ := Aside0.mk (blk_below (g := gb101) (o := .cells #[.int .i64 a1_0, .string a1_1, .string a1_2, .int .i64 a1_3, .int .i64 a1_4] 37 (0, 0)) (by (with_reducible repeat (first | refine blk_drewN ?_ _ | refine blk_drew ?_ | refine blk_alloc ?_ _)); exact BK101.out) hb); have n2_ := Aside0.mk (below_step (by repeat (first | (with_reducible first | exact HB.out | apply bal | apply bdn | apply bd1 | refine below_set ?_ GE101.out) | exact HB.out)) hb); clear HO105; clear BK101; clear HB; have HO105 := n0_; have BK101 := n1_; have HB := n2_; clear n0_ n1_ n2_; (try clear hb); (try clear hb2); (try clear hk); (try clear hi); have hcz15_0 : w14.cell? ⟨gb101, 0, none⟩ = some (.int .i64 a1_0) := (blk_cell BK101.out 0).trans rfl; have hcz15_1 : w14.cell? ⟨gb101, 1, none⟩ = some (.string a1_1) := (blk_cell BK101.out 1).trans rfl; have hcz15_2 : w14.cell? ⟨gb101, 2, none⟩ = some (.string a1_2) := (blk_cell BK101.out 2).trans rfl; have hcz15_3 : w14.cell? ⟨gb101, 3, none⟩ = some (.int .i64 a1_3) := (blk_cell BK101.out 3).trans rfl; have hcz15_4 : w14.cell? ⟨gb101, 4, none⟩ = some (.int .i64 a1_4) := (blk_cell BK101.out 4).trans rfl; have hfz15_0 := bfz BK101.out 0; have hfz15_1 := bfz BK101.out 1; have hfz15_2 := bfz BK101.out 2; have hfz15_3 := bfz BK101.out 3; have hfz15_4 := bfz BK101.out 4; obtain ⟨Ao16, co16, eo16⟩ := Kd.R_slice HO105.out; subst eo16) | (go_at_call 19; (with_reducible refine (route_Find.calls _ _ t103 t106 t107 t108 t109 t110 t111 t112 t113 _ ?side1 ?side2 ?side3 A6.out).mono ?_); (case side1 => refine (Kd.R_reads' (e := 35) (base := w.heap.size) (ok := fun k_ => True) (n := t103.length) (c := co16) ?_).2.2; exact (by (with_reducible repeat (first | apply Kd.R_alloc | apply Kd.R_drewN | apply Kd.R_drew)); exact (Kd.R_mono (Kd.R_far (p := ⟨gb101, 4, none⟩) (Kd.R_far (p := ⟨gb101, 3, none⟩) (Kd.R_far (p := ⟨gb101, 2, none⟩) (Kd.R_far (p := ⟨gb101, 1, none⟩) (Kd.R_far (p := ⟨gb101, 0, none⟩) (Kd.R_types HO105.out BK101.out (by decide)) (fun _ hk => hk.2) (.int .i64 t106)) (fun _ hk => hk.2) (.string t107)) (fun _ hk => hk.2) (.string t108)) (fun _ hk => hk.2) (.int .i64 t109)) (fun _ hk => hk.2) (.int .i64 t110)) (fun _ h_ => h_.1)))); (case side2 => exact (Kd.R_reads' HO105.out).2.1); (case side3 => exact LaidR.below HLD.out (by repeat (first | (with_reducible first | exact HB.out | apply bal | apply bdn | apply bd1 | refine below_set ?_ GE101.out) | exact HB.out))); rintro e w17 ⟨rfl, hb⟩; have n0_ := Aside0.mk (Kd.R_below (by (with_reducible repeat (first | apply Kd.R_alloc | apply Kd.R_drewN | apply Kd.R_drew)); exact (Kd.R_mono (Kd.R_far (p := ⟨gb101, 4, none⟩) (Kd.R_far (p := ⟨gb101, 3, none⟩) (Kd.R_far (p := ⟨gb101, 2, none⟩) (Kd.R_far (p := ⟨gb101, 1, none⟩) (Kd.R_far (p := ⟨gb101, 0, none⟩) (Kd.R_types HO105.out BK101.out (by decide)) (fun _ hk => hk.2) (.int .i64 t106)) (fun _ hk => hk.2) (.string t107)) (fun _ hk => hk.2) (.string t108)) (fun _ hk => hk.2) (.int .i64 t109)) (fun _ hk => hk.2) (.int .i64 t110)) (fun _ h_ => h_.1))) hb); have n1_ := Aside0.mk (blk_below (g := gb101) (o := .cells #[.int .i64 t106, .string t107, .string t108, .int .i64 t109, .int .i64 t110] 37 (0, 0)) (by (with_reducible repeat (first | refine blk_drewN ?_ _ | refine blk_drew ?_ | refine blk_alloc ?_ _)); refine blk_put (cs := #[.int .i64 t106, .string t107, .string t108, .int .i64 t109, .int .i64 a1_4]) ?_ 4 _ rfl; (with_reducible repeat (first | refine blk_drewN ?_ _ | refine blk_drew ?_ | refine blk_alloc ?_ _)); refine blk_put (cs := #[.int .i64 t106, .string t107, .string t108, .int .i64 a1_3, .int .i64 a1_4]) ?_ 3 _ rfl; (with_reducible repeat (first | refine blk_drewN ?_ _ | refine blk_drew ?_ | refine blk_alloc ?_ _)); refine blk_put (cs := #[.int .i64 t106, .string t107, .string a1_2, .int .i64 a1_3, .int .i64 a1_4]) ?_ 2 _ rfl; (with_reducible repeat (first | refine blk_drewN ?_ _ | refine blk_drew ?_ | refine blk_alloc ?_ _)); refine blk_put (cs := #[.int .i64 t106, .string a1_1, .string a1_2, .int .i64 a1_3, .int .i64 a1_4]) ?_ 1 _ rfl; (with_reducible repeat (first | refine blk_drewN ?_ _ | refine blk_drew ?_ | refine blk_alloc ?_ _)); refine blk_put (cs := #[.int .i64 a1_0, .string a1_1, .string a1_2, .int .i64 a1_3, .int .i64 a1_4]) ?_ 0 _ rfl; (with_reducible repeat (first | refine blk_drewN ?_ _ | refine blk_drew ?_ | refine blk_alloc ?_ _)); exact BK101.out) hb); have n2_ := Aside0.mk (below_step (by repeat (first | (with_reducible first | exact HB.out | apply bal | apply bdn | apply bd1 | refine below_set ?_ GE101.out) | exact HB.out)) hb); clear HO105; clear BK101; clear HB; have HO105 := n0_; have BK101 := n1_; have HB := n2_; clear n0_ n1_ n2_; (try clear hb); (try clear hb2); (try clear hk); (try clear hi); have hcz18_0 : w17.cell? ⟨gb101, 0, none⟩ = some (.int .i64 t106) := (blk_cell BK101.out 0).trans rfl; have hcz18_1 : w17.cell? ⟨gb101, 1, none⟩ = some (.string t107) := (blk_cell BK101.out 1).trans rfl; have hcz18_2 : w17.cell? ⟨gb101, 2, none⟩ = some (.string t108) := (blk_cell BK101.out 2).trans rfl; have hcz18_3 : w17.cell? ⟨gb101, 3, none⟩ = some (.int .i64 t109) := (blk_cell BK101.out 3).trans rfl; have hcz18_4 : w17.cell? ⟨gb101, 4, none⟩ = some (.int .i64 t110) := (blk_cell BK101.out 4).trans rfl; have hfz18_0 := bfz BK101.out 0; have hfz18_1 := bfz BK101.out 1; have hfz18_2 := bfz BK101.out 2; have hfz18_3 := bfz BK101.out 3; have hfz18_4 := bfz BK101.out 4) | (go_at_call 21; (with_reducible refine (eid_PrintR.calls t106 t107 t108 t109 t110 t114 t115 _ ?side1 A7.out).mono ?_); (case side1 => exact LaidR.below HLD.out (by repeat (first | (with_reducible first | exact HB.out | apply bal | apply bdn | apply bd1 | refine below_set ?_ GE101.out) | exact HB.out))); rintro e w19 ⟨rfl, hb⟩; have n0_ := Aside0.mk (Kd.R_below (by (with_reducible repeat (first | apply Kd.R_alloc | apply Kd.R_drewN | apply Kd.R_drew)); exact HO105.out) hb); have n1_ := Aside0.mk (blk_below (g := gb101) (o := .cells #[.int .i64 t106, .string t107, .string t108, .int .i64 t109, .int .i64 t110] 37 (0, 0)) (by (with_reducible repeat (first | refine blk_drewN ?_ _ | refine blk_drew ?_ | refine blk_alloc ?_ _)); exact BK101.out) hb); have n2_ := Aside0.mk (below_step (by repeat (first | (with_reducible first | exact HB.out | apply bal | apply bdn | apply bd1 | refine below_set ?_ GE101.out) | exact HB.out)) hb); clear HO105; clear BK101; clear HB; have HO105 := n0_; have BK101 := n1_; have HB := n2_; clear n0_ n1_ n2_; (try clear hb); (try clear hb2); (try clear hk); (try clear hi))); go_upto_region 8 with (first | ((with_reducible refine gate_dst (N := 3) rfl ?_); (try (refine gate_guard (by rfl) ?_; dsimp only)); refine box_event ?hg (N := 3) ?hd (cs := #[.int .i64 a1_0, .string a1_1, .string a1_2, .int .i64 a1_3, .int .i64 a1_4]) (t := 37) ?hr ?_; (case hd => rfl); (case hg => rfl); (case hr => first | (go_simp; done) | (go_simp; rfl) | (go_simp; simp only [isEmpty_ne, isEmpty_eq]; done) | (go_simp; simp only [isEmpty_ne, isEmpty_eq]; rfl)); intro gb101 hg w10 hbox hb; have n0_ := Aside0.mk (below_step (by repeat (first | (with_reducible first | exact HB.out | apply bal | apply bdn | apply bd1) | exact HB.out)) hb); have n1_ := Aside0.mk (hbox); have n2_ := Aside0.mk ((by rw [hg]; exact (below_size (by repeat (first | (with_reducible first | exact HB.out | apply bal | apply bdn | apply bd1) | exact HB.out))) : w.heap.size ≤ gb101)); have n3_ := Aside0.mk ((by rw [hg]; exact (below_size (by repeat (first | (with_reducible first | exact HB.out | apply bal | apply bdn | apply bd1) | exact HB.out))) : w.heap.size ≤ gb101)); clear HB; have HB := n0_; have BK101 := n1_; have GW101 := n2_; have GE101 := n3_; clear n0_ n1_ n2_ n3_; clear hb hbox hg) | (go_at_call 10; (with_reducible refine (postriderlaw16_shown.calls  t102 _ ?side1 A3.out).mono ?_); (case side1 => exact LaidR.below HLD.out (by repeat (first | (with_reducible first | exact HB.out | apply bal | apply bdn | apply bd1 | refine below_set ?_ GE101.out) | exact HB.out))); rintro e w11 ⟨rfl, hb⟩; have n0_ := Aside0.mk (blk_below (g := gb101) (o := .cells #[.int .i64 a1_0, .string a1_1, .string a1_2, .int .i64 a1_3, .int .i64 a1_4] 37 (0, 0)) (by (with_reducible repeat (first | refine blk_drewN ?_ _ | refine blk_drew ?_ | refine blk_alloc ?_ _)); exact BK101.out) hb); have n1_ := Aside0.mk (below_step (by repeat (first | (with_reducible first | exact HB.out | apply bal | apply bdn | apply bd1 | refine below_set ?_ GE101.out) | exact HB.out)) hb); clear BK101; clear HB; have BK101 := n0_; have HB := n1_; clear n0_ n1_; (try clear hb); (try clear hb2); (try clear hk); (try clear hi)) | (go_at_call 17; (with_reducible refine (postriderlaw16_Cut.calls k _ _ l0 t103 _ ?side1 ?side2 A4.out).mono ?_); (case side1 => repeat (first | exact (Kd.C_below HR0.out HB.out) | (with_reducible refine Kd.C_alloc ?_ _) | (with_reducible refine Kd.C_drewN ?_ _) | (with_reducible refine Kd.C_drew ?_))); (case side2 => exact HC0.out); rintro e w12 ⟨v104, rfl, ho0, hb⟩; have n0_ := Aside0.mk (Kd.R_lower ho0 (below_size (by repeat (first | (with_reducible first | exact HB.out | apply bal | apply bdn | apply bd1 | refine below_set ?_ GE101.out) | exact HB.out)))); have n1_ := Aside0.mk (blk_below (g := gb101) (o := .cells #[.int .i64 a1_0, .string a1_1, .string a1_2, .int .i64 a1_3, .int .i64 a1_4] 37 (0, 0)) (by (with_reducible repeat (first | refine blk_drewN ?_ _ | refine blk_drew ?_ | refine blk_alloc ?_ _)); exact BK101.out) hb); have n2_ := Aside0.mk (below_step (by repeat (first | (with_reducible first | exact HB.out | apply bal | apply bdn | apply bd1 | refine below_set ?_ GE101.out) | exact HB.out)) hb); clear BK101; clear HB; have HO105 := n0_; have BK101 := n1_; have HB := n2_; clear n0_ n1_ n2_; (try clear hb); (try clear hb2); (try clear hk); (try clear hi); (try clear ho0); have hcz13_0 : w12.cell? ⟨gb101, 0, none⟩ = some (.int .i64 a1_0) := (blk_cell BK101.out 0).trans rfl; have hcz13_1 : w12.cell? ⟨gb101, 1, none⟩ = some (.string a1_1) := (blk_cell BK101.out 1).trans rfl; have hcz13_2 : w12.cell? ⟨gb101, 2, none⟩ = some (.string a1_2) := (blk_cell BK101.out 2).trans rfl; have hcz13_3 : w12.cell? ⟨gb101, 3, none⟩ = some (.int .i64 a1_3) := (blk_cell BK101.out 3).trans rfl; have hcz13_4 : w12.cell? ⟨gb101, 4, none⟩ = some (.int .i64 a1_4) := (blk_cell BK101.out 4).trans rfl; have hfz13_0 := bfz BK101.out 0; have hfz13_1 := bfz BK101.out 1; have hfz13_2 := bfz BK101.out 2; have hfz13_3 := bfz BK101.out 3; have hfz13_4 := bfz BK101.out 4) | (go_at_call 18; (with_reducible refine (postriderlaw06_Cut.calls a1_0 a1_1 a1_2 a1_3 a1_4 t106 t107 t108 t109 t110 _ A5.out).mono ?_); rintro e w14 ⟨rfl, hb⟩; have n0_ := Aside0.mk (Kd.R_below (by (with_reducible repeat (first | apply Kd.R_alloc | apply Kd.R_drewN | apply Kd.R_drew)); exact HO105.out) hb); have n1_ := Aside0.mk (blk_below (g := gb101) (o := .cells #[.int .i64 a1_0, .string a1_1, .string a1_2, .int .i64 a1_3, .int .i64 a1_4] 37 (0, 0)) (by (with_reducible repeat (first | refine blk_drewN ?_ _ | refine blk_drew ?_ | refine blk_alloc ?_ _)); exact BK101.out) hb); have n2_ := Aside0.mk (below_step (by repeat (first | (with_reducible first | exact HB.out | apply bal | apply bdn | apply bd1 | refine below_set ?_ GE101.out) | exact HB.out)) hb); clear HO105; clear BK101; clear HB; have HO105 := n0_; have BK101 := n1_; have HB := n2_; clear n0_ n1_ n2_; (try clear hb); (try clear hb2); (try clear hk); (try clear hi); have hcz15_0 : w14.cell? ⟨gb101, 0, none⟩ = some (.int .i64 a1_0) := (blk_cell BK101.out 0).trans rfl; have hcz15_1 : w14.cell? ⟨gb101, 1, none⟩ = some (.string a1_1) := (blk_cell BK101.out 1).trans rfl; have hcz15_2 : w14.cell? ⟨gb101, 2, none⟩ = some (.string a1_2) := (blk_cell BK101.out 2).trans rfl; have hcz15_3 : w14.cell? ⟨gb101, 3, none⟩ = some (.int .i64 a1_3) := (blk_cell BK101.out 3).trans rfl; have hcz15_4 : w14.cell? ⟨gb101, 4, none⟩ = some (.int .i64 a1_4) := (blk_cell BK101.out 4).trans rfl; have hfz15_0 := bfz BK101.out 0; have hfz15_1 := bfz BK101.out 1; have hfz15_2 := bfz BK101.out 2; have hfz15_3 := bfz BK101.out 3; have hfz15_4 := bfz BK101.out 4; obtain ⟨Ao16, co16, eo16⟩ := Kd.R_slice HO105.out; subst eo16) | (go_at_call 19; (with_reducible refine (route_Find.calls _ _ t103 t106 t107 t108 t109 t110 t111 t112 t113 _ ?side1 ?side2 ?side3 A6.out).mono ?_); (case side1 => refine (Kd.R_reads' (e := 35) (base := w.heap.size) (ok := fun k_ => True) (n := t103.length) (c := co16) ?_).2.2; exact (by (with_reducible repeat (first | apply Kd.R_alloc | apply Kd.R_drewN | apply Kd.R_drew)); exact (Kd.R_mono (Kd.R_far (p := ⟨gb101, 4, none⟩) (Kd.R_far (p := ⟨gb101, 3, none⟩) (Kd.R_far (p := ⟨gb101, 2, none⟩) (Kd.R_far (p := ⟨gb101, 1, none⟩) (Kd.R_far (p := ⟨gb101, 0, none⟩) (Kd.R_types HO105.out BK101.out (by decide)) (fun _ hk => hk.2) (.int .i64 t106)) (fun _ hk => hk.2) (.string t107)) (fun _ hk => hk.2) (.string t108)) (fun _ hk => hk.2) (.int .i64 t109)) (fun _ hk => hk.2) (.int .i64 t110)) (fun _ h_ => h_.1)))); (case side2 => exact (Kd.R_reads' HO105.out).2.1); (case side3 => exact LaidR.below HLD.out (by repeat (first | (with_reducible first | exact HB.out | apply bal | apply bdn | apply bd1 | refine below_set ?_ GE101.out) | exact HB.out))); rintro e w17 ⟨rfl, hb⟩; have n0_ := Aside0.mk (Kd.R_below (by (with_reducible repeat (first | apply Kd.R_alloc | apply Kd.R_drewN | apply Kd.R_drew)); exact (Kd.R_mono (Kd.R_far (p := ⟨gb101, 4, none⟩) (Kd.R_far (p := ⟨gb101, 3, none⟩) (Kd.R_far (p := ⟨gb101, 2, none⟩) (Kd.R_far (p := ⟨gb101, 1, none⟩) (Kd.R_far (p := ⟨gb101, 0, none⟩) (Kd.R_types HO105.out BK101.out (by decide)) (fun _ hk => hk.2) (.int .i64 t106)) (fun _ hk => hk.2) (.string t107)) (fun _ hk => hk.2) (.string t108)) (fun _ hk => hk.2) (.int .i64 t109)) (fun _ hk => hk.2) (.int .i64 t110)) (fun _ h_ => h_.1))) hb); have n1_ := Aside0.mk (blk_below (g := gb101) (o := .cells #[.int .i64 t106, .string t107, .string t108, .int .i64 t109, .int .i64 t110] 37 (0, 0)) (by (with_reducible repeat (first | refine blk_drewN ?_ _ | refine blk_drew ?_ | refine blk_alloc ?_ _)); refine blk_put (cs := #[.int .i64 t106, .string t107, .string t108, .int .i64 t109, .int .i64 a1_4]) ?_ 4 _ rfl; (with_reducible repeat (first | refine blk_drewN ?_ _ | refine blk_drew ?_ | refine blk_alloc ?_ _)); refine blk_put (cs := #[.int .i64 t106, .string t107, .string t108, .int .i64 a1_3, .int .i64 a1_4]) ?_ 3 _ rfl; (with_reducible repeat (first | refine blk_drewN ?_ _ | refine blk_drew ?_ | refine blk_alloc ?_ _)); refine blk_put (cs := #[.int .i64 t106, .string t107, .string a1_2, .int .i64 a1_3, .int .i64 a1_4]) ?_ 2 _ rfl; (with_reducible repeat (first | refine blk_drewN ?_ _ | refine blk_drew ?_ | refine blk_alloc ?_ _)); refine blk_put (cs := #[.int .i64 t106, .string a1_1, .string a1_2, .int .i64 a1_3, .int .i64 a1_4]) ?_ 1 _ rfl; (with_reducible repeat (first | refine blk_drewN ?_ _ | refine blk_drew ?_ | refine blk_alloc ?_ _)); refine blk_put (cs := #[.int .i64 a1_0, .string a1_1, .string a1_2, .int .i64 a1_3, .int .i64 a1_4]) ?_ 0 _ rfl; (with_reducible repeat (first | refine blk_drewN ?_ _ | refine blk_drew ?_ | refine blk_alloc ?_ _)); exact BK101.out) hb); have n2_ := Aside0.mk (below_step (by repeat (first | (with_reducible first | exact HB.out | apply bal | apply bdn | apply bd1 | refine below_set ?_ GE101.out) | exact HB.out)) hb); clear HO105; clear BK101; clear HB; have HO105 := n0_; have BK101 := n1_; have HB := n2_; clear n0_ n1_ n2_; (try clear hb); (try clear hb2); (try clear hk); (try clear hi); have hcz18_0 : w17.cell? ⟨gb101, 0, none⟩ = some (.int .i64 t106) := (blk_cell BK101.out 0).trans rfl; have hcz18_1 : w17.cell? ⟨gb101, 1, none⟩ = some (.string t107) := (blk_cell BK101.out 1).trans rfl; have hcz18_2 : w17.cell? ⟨gb101, 2, none⟩ = some (.string t108) := (blk_cell BK101.out 2).trans rfl; have hcz18_3 : w17.cell? ⟨gb101, 3, none⟩ = some (.int .i64 t109) := (blk_cell BK101.out 3).trans rfl; have hcz18_4 : w17.cell? ⟨gb101, 4, none⟩ = some (.int .i64 t110) := (blk_cell BK101.out 4).trans rfl; have hfz18_0 := bfz BK101.out 0; have hfz18_1 := bfz BK101.out 1; have hfz18_2 := bfz BK101.out 2; have hfz18_3 := bfz BK101.out 3; have hfz18_4 := bfz BK101.out 4) | (go_at_call 21; (with_reducible refine (eid_PrintR.calls t106 t107 t108 t109 t110 t114 t115 _ ?side1 A7.out).mono ?_); (case side1 => exact LaidR.below HLD.out (by repeat (first | (with_reducible first | exact HB.out | apply bal | apply bdn | apply bd1 | refine below_set ?_ GE101.out) | exact HB.out))); rintro e w19 ⟨rfl, hb⟩; have n0_ := Aside0.mk (Kd.R_below (by (with_reducible repeat (first | apply Kd.R_alloc | apply Kd.R_drewN | apply Kd.R_drew)); exact HO105.out) hb); have n1_ := Aside0.mk (blk_below (g := gb101) (o := .cells #[.int .i64 t106, .string t107, .string t108, .int .i64 t109, .int .i64 t110] 37 (0, 0)) (by (with_reducible repeat (first | refine blk_drewN ?_ _ | refine blk_drew ?_ | refine blk_alloc ?_ _)); exact BK101.out) hb); have n2_ := Aside0.mk (below_step (by repeat (first | (with_reducible first | exact HB.out | apply bal | apply bdn | apply bd1 | refine below_set ?_ GE101.out) | exact HB.out)) hb); clear HO105; clear BK101; clear HB; have HO105 := n0_; have BK101 := n1_; have HB := n2_; clear n0_ n1_ n2_; (try clear hb); (try clear hb2); (try clear hk); (try clear hi))))
    (try simp only [Act.put, List.setIfInBounds_toArray, List.set_cons_zero, List.set_cons_succ])
    go_cut [62] (fun v62 wc => ∃ (kq : Nat) (x62_8 : Bool), v62 = .bool x62_8 ∧ Aside0 (rlg.j0 kq t103 t102 t111 t112 t114 t115 x62_8 = some r) ∧ Aside0 (kq ≤ k) ∧ Aside0 (Kd.R k35 35 wc w.heap.size (fun _ => True) (.slice Ao16 t103.length co16) t103) ∧ Aside0 (wc.heap[gb101]? = some (.cells #[.int .i64 t106, .string t107, .string t108, .int .i64 t109, .int .i64 t110] 37 (0, 0))) ∧ Aside0 (Below w.heap.size w wc))
    case first =>
      have H := HC9.out
      clear HC9
      by_cases c20 : t112 = true
      · subst c20
        have H1 : (if t111 < 0 then (rlg.j0 k t103 t102 t111 true t114 t115 true) else (rlg.j0 k t103 t102 t111 true t114 t115 (decide (t111 ≥ (t103.length : Int))))) = some r := by rw [if_pos rfl] at H; exact H
        clear H
        have H := H1
        clear H1
        by_cases c21 : t111 < 0
        · rw [if_pos c21] at H
          have c21b0 : decide (t111 < 0) = true := decide_eq_true c21
          clear c21
          (first | rw [c21b0] | (simp only [i64_w, i32_w]; rw [c21b0]) | skip)
          have H' := Aside0.mk H
          clear H
          go_wp2
          repeat (go_quiet (fail); try go_wp2)
          go_meet
          case rel => exact ⟨_, (true), (by first | rfl | (simp; done) | (simp [*]; done)), H', ⟨by first | omega | exact Nat.le_refl _⟩, ⟨by (with_reducible repeat (first | apply Kd.R_alloc | apply Kd.R_drewN | apply Kd.R_drew)); exact HO105.out⟩, ⟨by (with_reducible repeat (first | refine blk_drewN ?_ _ | refine blk_drew ?_ | refine blk_alloc ?_ _)); exact BK101.out⟩, ⟨by repeat (first | (with_reducible first | exact HB.out | apply bal | apply bdn | apply bd1 | refine below_set ?_ GE101.out) | exact HB.out)⟩⟩
        · rw [if_neg c21] at H
          have c21b0 : decide (t111 < 0) = false := decide_eq_false c21
          clear c21
          (first | rw [c21b0] | (simp only [i64_w, i32_w]; rw [c21b0]) | skip)
          have H' := Aside0.mk H
          clear H
          go_wp2
          repeat (go_quiet (fail); try go_wp2)
          go_meet
          case rel => exact ⟨_, (decide (t111 ≥ (t103.length : Int))), (by first | rfl | (simp; done) | (simp [*]; done)), H', ⟨by first | omega | exact Nat.le_refl _⟩, ⟨by (with_reducible repeat (first | apply Kd.R_alloc | apply Kd.R_drewN | apply Kd.R_drew)); exact HO105.out⟩, ⟨by (with_reducible repeat (first | refine blk_drewN ?_ _ | refine blk_drew ?_ | refine blk_alloc ?_ _)); exact BK101.out⟩, ⟨by repeat (first | (with_reducible first | exact HB.out | apply bal | apply bdn | apply bd1 | refine below_set ?_ GE101.out) | exact HB.out)⟩⟩
      · replace c20 := Bool.eq_false_iff.mpr c20
        subst c20
        have H1 : (rlg.j0 k t103 t102 t111 false t114 t115 false) = some r := by rw [if_neg (show ¬ (false = true) by decide)] at H; exact H
        clear H
        have H := H1
        clear H1
        have H' := Aside0.mk H
        clear H
        go_wp2
        repeat (go_quiet (fail); try go_wp2)
        go_meet
        case rel => exact ⟨_, (false), (by first | rfl | (simp; done) | (simp [*]; done)), H', ⟨by first | omega | exact Nat.le_refl _⟩, ⟨by (with_reducible repeat (first | apply Kd.R_alloc | apply Kd.R_drewN | apply Kd.R_drew)); exact HO105.out⟩, ⟨by (with_reducible repeat (first | refine blk_drewN ?_ _ | refine blk_drew ?_ | refine blk_alloc ?_ _)); exact BK101.out⟩, ⟨by repeat (first | (with_reducible first | exact HB.out | apply bal | apply bdn | apply bd1 | refine below_set ?_ GE101.out) | exact HB.out)⟩⟩
    case rest =>
      clear HC9
      try clear c2
      try clear p2
      try clear c8
      try clear c8b0
      try clear c8b1
      try clear c9
      try clear c20
      try clear c21
      try clear c21b0
      try clear hcz13_0
      try clear hcz13_1
      try clear hcz13_2
      try clear hcz13_3
      try clear hcz13_4
      try clear hcz15_0
      try clear hcz15_1
      try clear hcz15_2
      try clear hcz15_3
      try clear hcz15_4
      try clear hcz18_0
      try clear hcz18_1
      try clear hcz18_2
      try clear hcz18_3
      try clear hcz18_4
      try clear hfz13_0
      try clear hfz13_1
      try clear hfz13_2
      try clear hfz13_3
      try clear hfz13_4
      try clear hfz15_0
      try clear hfz15_1
      try clear hfz15_2
      try clear hfz15_3
      try clear hfz15_4
      try clear hfz18_0
      try clear hfz18_1
      try clear hfz18_2
      try clear hfz18_3
      try clear hfz18_4
      obtain ⟨kq, x62_8, rfl, HA, HJ8, HO_0, BK101, HB⟩ := hcut
      cases kq with
      | zero => exact absurd HA.out (by simp [rlg.j0])
      | succ kj8 =>
        have H := HA.out
        clear HA
        simp only [rlg.j0] at H
        by_cases c22 : x62_8 = true
        · subst c22
          have H1 : (none) = some r := by rw [if_pos rfl] at H; exact H
          clear H
          have H := H1
          clear H1
          exact absurd H (by simp)
        · replace c22 := Bool.eq_false_iff.mpr c22
          subst c22
          have H1 : (if t112 = true then (if 0 ≤ t111 then (if t111 < (t103.length : Int) then (rlg.j1 kj8 t103 t102 t111 t112 t114 t115 (((rd_T35 t103 t111).f0).size : Int)) else (none)) else (none)) else (rlg.j1 kj8 t103 t102 t111 t112 t114 t115 (-1))) = some r := by rw [if_neg (show ¬ (false = true) by decide)] at H; exact H
          clear H
          have H := H1
          clear H1
          have HC23 := Aside0.mk H
          clear H
          go_upto_if 63 with (fail)
          repeat (go_quiet (fail); go_upto_if 63 with (fail))
          go_cut [11] (fun v11 wc => ∃ (kq : Nat) (x11_22 : Int), v11 = .int .i64 x11_22 ∧ Aside0 (rlg.j1 kq t103 t102 t111 t112 t114 t115 x11_22 = some r) ∧ Aside0 (kq ≤ kj8) ∧ Aside0 (Kd.R k35 35 wc w.heap.size (fun _ => True) (.slice Ao16 t103.length co16) t103) ∧ Aside0 (wc.heap[gb101]? = some (.cells #[.int .i64 t106, .string t107, .string t108, .int .i64 t109, .int .i64 t110] 37 (0, 0))) ∧ Aside0 (Below w.heap.size w wc))
          case first =>
            have H := HC23.out
            clear HC23
            by_cases c24 : t112 = true
            · subst c24
              have H1 : (if 0 ≤ t111 then (if t111 < (t103.length : Int) then (rlg.j1 kj8 t103 t102 t111 true t114 t115 (((rd_T35 t103 t111).f0).size : Int)) else (none)) else (none)) = some r := by rw [if_pos rfl] at H; exact H
              clear H
              have H := H1
              clear H1
              by_cases c25 : 0 ≤ t111
              · rw [if_pos c25] at H
                have c25b0 : decide (0 ≤ t111) = true := decide_eq_true c25
                clear c25
                (first | rw [c25b0] | (simp only [i64_w, i32_w]; rw [c25b0]) | skip)
                by_cases c26 : t111 < (t103.length : Int)
                · rw [if_pos c26] at H
                  have c26b0 : decide (t111 < (t103.length : Int)) = true := decide_eq_true c26
                  clear c26
                  have H' := Aside0.mk H
                  clear H
                  have p117 : 0 ≤ (t111 : Int) := of_decide_eq_true (by first | (with_reducible assumption) | assumption)
                  have q117 : t111 < (t103.length : Int) := of_decide_eq_true (by first | (with_reducible assumption) | assumption)
                  obtain ⟨ad117, e117, hx117_0, hx117_1⟩ := at_T35 (Kd.R_reads' HO_0.out).2.2 t111 p117 q117
                  cases e117
                  replace p117 := eq_true p117
                  replace q117 := eq_true q117
                  go_wp2
                  repeat (go_quiet (fail); try go_wp2)
                  go_meet
                  case rel => exact ⟨_, ((((rd_T35 t103 t111).f0).size : Int)), (by first | rfl | (simp; done) | (simp [*]; done)), H', ⟨by have := HJ8.out; first | omega | exact Nat.le_refl _⟩, ⟨by (with_reducible repeat (first | apply Kd.R_alloc | apply Kd.R_drewN | apply Kd.R_drew)); exact HO_0.out⟩, ⟨by (with_reducible repeat (first | refine blk_drewN ?_ _ | refine blk_drew ?_ | refine blk_alloc ?_ _)); exact BK101.out⟩, ⟨by repeat (first | (with_reducible first | exact HB.out | apply bal | apply bdn | apply bd1 | refine below_set ?_ GE101.out) | exact HB.out)⟩⟩
                · rw [if_neg c26] at H
                  exact absurd H (by simp)
              · rw [if_neg c25] at H
                exact absurd H (by simp)
            · replace c24 := Bool.eq_false_iff.mpr c24
              subst c24
              have H1 : (rlg.j1 kj8 t103 t102 t111 false t114 t115 (-1)) = some r := by rw [if_neg (show ¬ (false = true) by decide)] at H; exact H
              clear H
              have H := H1
              clear H1
              have H' := Aside0.mk H
              clear H
              go_wp2
              repeat (go_quiet (fail); try go_wp2)
              go_meet
              case rel => exact ⟨_, ((-1)), (by first | rfl | (simp; done) | (simp [*]; done)), H', ⟨by have := HJ8.out; first | omega | exact Nat.le_refl _⟩, ⟨by (with_reducible repeat (first | apply Kd.R_alloc | apply Kd.R_drewN | apply Kd.R_drew)); exact HO_0.out⟩, ⟨by (with_reducible repeat (first | refine blk_drewN ?_ _ | refine blk_drew ?_ | refine blk_alloc ?_ _)); exact BK101.out⟩, ⟨by repeat (first | (with_reducible first | exact HB.out | apply bal | apply bdn | apply bd1 | refine below_set ?_ GE101.out) | exact HB.out)⟩⟩
          case rest =>
            clear HC23
            try clear p1
            try clear q1
            try clear hx1
            try clear c2
            try clear p2
            try clear c8
            try clear c8b0
            try clear c8b1
            try clear c9
            try clear p11
            try clear q11
            try clear hx11
            try clear c20
            try clear c21
            try clear c21b0
            try clear c22
            try clear c24
            try clear c25
            try clear c25b0
            try clear c26
            try clear c26b0
            try clear hcz13_0
            try clear hcz13_1
            try clear hcz13_2
            try clear hcz13_3
            try clear hcz13_4
            try clear hcz15_0
            try clear hcz15_1
            try clear hcz15_2
            try clear hcz15_3
            try clear hcz15_4
            try clear hcz18_0
            try clear hcz18_1
            try clear hcz18_2
            try clear hcz18_3
            try clear hcz18_4
            try clear hfz13_0
            try clear hfz13_1
            try clear hfz13_2
            try clear hfz13_3
            try clear hfz13_4
            try clear hfz15_0
            try clear hfz15_1
            try clear hfz15_2
            try clear hfz15_3
            try clear hfz15_4
            try clear hfz18_0
            try clear hfz18_1
            try clear hfz18_2
            try clear hfz18_3
            try clear hfz18_4
            try clear hx117_0
            try clear hx117_1
            try clear p117
            try clear p2
            try clear q117
            obtain ⟨kq, x11_22, rfl, HA, HJ22, HO_0, BK101, HB⟩ := hcut
            cases kq with
            | zero => exact absurd HA.out (by simp [rlg.j1])
            | succ kj22 =>
              have H := HA.out
              clear HA
              simp only [rlg.j1] at H
              have H' := Aside0.mk H
              clear H
              go_wp2
              repeat (go_quiet (fail); try go_wp2)
              go_loopg [12] kj22 (fun kq v12 w' => ∃ (x12_3 : Int), v12 = .int .i64 x12_3 ∧ Aside0 (rlg.l0 kq t103 t102 t111 t112 t114 t115 x11_22 x12_3 = some r) ∧ Aside0 (kq ≤ kj22) ∧ Aside0 (Kd.R k35 35 w' w.heap.size (fun _ => True) (.slice Ao16 t103.length co16) t103) ∧ Aside0 (w'.heap[gb101]? = some (.cells #[.int .i64 t106, .string t107, .string t108, .int .i64 t109, .int .i64 t110] 37 (0, 0))) ∧ Aside0 (Below w.heap.size w w'))
              case atStart => exact ⟨(0), (by first | rfl | (simp; done) | (simp [*]; done)), H', ⟨Nat.le_refl _⟩, ⟨by (with_reducible repeat (first | apply Kd.R_alloc | apply Kd.R_drewN | apply Kd.R_drew)); exact HO_0.out⟩, ⟨by (with_reducible repeat (first | refine blk_drewN ?_ _ | refine blk_drew ?_ | refine blk_alloc ?_ _)); exact BK101.out⟩, ⟨by repeat (first | (with_reducible first | exact HB.out | apply bal | apply bdn | apply bd1 | refine below_set ?_ GE101.out) | exact HB.out)⟩⟩
              case round =>
                clear H'
                try clear p1
                try clear q1
                try clear hx1
                try clear c2
                try clear p2
                try clear c8
                try clear c8b0
                try clear c8b1
                try clear c9
                try clear p11
                try clear q11
                try clear hx11
                try clear c20
                try clear c21
                try clear c21b0
                try clear c22
                try clear c24
                try clear c25
                try clear c25b0
                try clear c26
                try clear c26b0
                try clear hcz13_0
                try clear hcz13_1
                try clear hcz13_2
                try clear hcz13_3
                try clear hcz13_4
                try clear hcz15_0
                try clear hcz15_1
                try clear hcz15_2
                try clear hcz15_3
                try clear hcz15_4
                try clear hcz18_0
                try clear hcz18_1
                try clear hcz18_2
                try clear hcz18_3
                try clear hcz18_4
                try clear hfz13_0
                try clear hfz13_1
                try clear hfz13_2
                try clear hfz13_3
                try clear hfz13_4
                try clear hfz15_0
                try clear hfz15_1
                try clear hfz15_2
                try clear hfz15_3
                try clear hfz15_4
                try clear hfz18_0
                try clear hfz18_1
                try clear hfz18_2
                try clear hfz18_3
                try clear hfz18_4
                try clear hx117_0
                try clear hx117_1
                try clear p1
                try clear p11
                try clear p117
                try clear p2
                try clear q1
                try clear q11
                try clear q117
                obtain ⟨x12_3, rfl, HA, HK3, HO_0, BK101, HB⟩ := hrel
                cases gk with
                | zero => exact absurd HA.out (by simp [rlg.l0])
                | succ k3 =>
                  have H := HA.out
                  clear HA
                  simp only [rlg.l0] at H
                  by_cases c27 : x12_3 < (t103.length : Int)
                  · rw [if_pos c27] at H
                    have c27b0 : decide (x12_3 < (t103.length : Int)) = true := decide_eq_true c27
                    clear c27
                    by_cases c28 : 0 ≤ x12_3
                    · rw [if_pos c28] at H
                      have c28b0 : decide (0 ≤ x12_3) = true := decide_eq_true c28
                      clear c28
                      by_cases c29 : (((rd_T35 t103 x12_3).f0).size : Int) ≤ (t114.size : Int)
                      · rw [if_pos c29] at H
                        have c29b0 : decide ((((rd_T35 t103 x12_3).f0).size : Int) ≤ (t114.size : Int)) = true := decide_eq_true c29
                        have c29b1 : decide (((rd_T35 t103 x12_3).f0).size ≤ t114.size) = true := decide_eq_true (Int.ofNat_le.mp c29)
                        clear c29
                        obtain ⟨ji30, hji30⟩ : ∃ j_ : Int, (mn (((rd_T35 t103 x12_3).f0).size : Int) (t114.size : Int)) = j_ := ⟨_, rfl⟩
                        replace H : (if 0 ≤ (ji30) then (if (ji30) ≤ (t114.size : Int) then (if (t114.extract 0 ((ji30) : Int).toNat).toList = ((rd_T35 t103 x12_3).f0).toList then (if (((rd_T35 t103 x12_3).f0).size : Int) > x11_22 then (none) else (if (((rd_T35 t103 x12_3).f0).size : Int) = x11_22 then (if x12_3 < t111 then (none) else (if x12_3 = t111 then (if t112 = true then (if ((t114.extract 0 ((ji30) : Int).toNat).toList = ((rd_T35 t103 x12_3).f0).toList) then (rlg.l0 k3 t103 t102 t111 t112 t114 t115 x11_22 (wrap64 (x12_3 + 1))) else (none)) else (rlg.l0 k3 t103 t102 t111 t112 t114 t115 x11_22 (wrap64 (x12_3 + 1)))) else (rlg.l0 k3 t103 t102 t111 t112 t114 t115 x11_22 (wrap64 (x12_3 + 1))))) else (if x12_3 = t111 then (if t112 = true then (if ((t114.extract 0 ((ji30) : Int).toNat).toList = ((rd_T35 t103 x12_3).f0).toList) then (rlg.l0 k3 t103 t102 t111 t112 t114 t115 x11_22 (wrap64 (x12_3 + 1))) else (none)) else (rlg.l0 k3 t103 t102 t111 t112 t114 t115 x11_22 (wrap64 (x12_3 + 1)))) else (rlg.l0 k3 t103 t102 t111 t112 t114 t115 x11_22 (wrap64 (x12_3 + 1)))))) else (if x12_3 = t111 then (if t112 = true then (if ((t114.extract 0 ((ji30) : Int).toNat).toList = ((rd_T35 t103 x12_3).f0).toList) then (rlg.l0 k3 t103 t102 t111 t112 t114 t115 x11_22 (wrap64 (x12_3 + 1))) else (none)) else (rlg.l0 k3 t103 t102 t111 t112 t114 t115 x11_22 (wrap64 (x12_3 + 1)))) else (rlg.l0 k3 t103 t102 t111 t112 t114 t115 x11_22 (wrap64 (x12_3 + 1))))) else (none)) else (none)) = some r := by first | (rw [hji30] at H; exact H) | (simp only [hji30] at H ⊢; exact H)
                        have hji30_ : (if (t114.size : Int) < (((rd_T35 t103 x12_3).f0).size : Int) then (t114.size : Int) else (((rd_T35 t103 x12_3).f0).size : Int)) = ji30 := hji30
                        have hjm30 := hji30_
                        try simp only [Int.ofNat_lt] at hjm30
                        by_cases c31 : 0 ≤ (ji30)
                        · rw [if_pos c31] at H
                          have c31b0 := eq_true c31
                          have c31b1 : decide (0 ≤ (ji30)) = true := decide_eq_true c31
                          clear c31
                          by_cases c32 : (ji30) ≤ (t114.size : Int)
                          · rw [if_pos c32] at H
                            have c32b0 := eq_true c32
                            have c32b1 : decide ((ji30) ≤ (t114.size : Int)) = true := decide_eq_true c32
                            clear c32
                            by_cases c33 : (t114.extract 0 ((ji30) : Int).toNat).toList = ((rd_T35 t103 x12_3).f0).toList
                            · rw [if_pos c33] at H
                              have c33b0 : ((t114.extract 0 ((ji30) : Int).toNat).toList == ((rd_T35 t103 x12_3).f0).toList) = true := beq_iff_eq.mpr c33
                              have c33b1 : ((t114.extract 0 ((ji30) : Int).toNat).toList != ((rd_T35 t103 x12_3).f0).toList) = false := bne_eq_false_iff_eq.mpr c33
                              clear c33
                              by_cases c34 : (((rd_T35 t103 x12_3).f0).size : Int) > x11_22
                              · rw [if_pos c34] at H
                                exact absurd H (by simp)
                              · rw [if_neg c34] at H
                                have c34b0 : decide (x11_22 < (((rd_T35 t103 x12_3).f0).size : Int)) = false := decide_eq_false c34
                                clear c34
                                by_cases c35 : (((rd_T35 t103 x12_3).f0).size : Int) = x11_22
                                · rw [if_pos c35] at H
                                  have c35b0 : ((((rd_T35 t103 x12_3).f0).size : Int) == x11_22) = true := beq_iff_eq.mpr c35
                                  have c35b1 : ((((rd_T35 t103 x12_3).f0).size : Int) != x11_22) = false := bne_eq_false_iff_eq.mpr c35
                                  clear c35
                                  by_cases c36 : x12_3 < t111
                                  · rw [if_pos c36] at H
                                    exact absurd H (by simp)
                                  · rw [if_neg c36] at H
                                    have c36b0 : decide (x12_3 < t111) = false := decide_eq_false c36
                                    clear c36
                                    by_cases c37 : x12_3 = t111
                                    · rw [if_pos c37] at H
                                      have c37b0 : (x12_3 == t111) = true := beq_iff_eq.mpr c37
                                      have c37b1 : (x12_3 != t111) = false := bne_eq_false_iff_eq.mpr c37
                                      clear c37
                                      by_cases c38 : t112 = true
                                      · subst c38
                                        have H1 : (if ((t114.extract 0 ((ji30) : Int).toNat).toList = ((rd_T35 t103 x12_3).f0).toList) then (rlg.l0 k3 t103 t102 t111 true t114 t115 x11_22 (wrap64 (x12_3 + 1))) else (none)) = some r := by rw [if_pos rfl] at H; exact H
                                        clear H
                                        have H := H1
                                        clear H1
                                        by_cases c39 : ((t114.extract 0 ((ji30) : Int).toNat).toList = ((rd_T35 t103 x12_3).f0).toList)
                                        · rw [if_pos c39] at H
                                          have c39b0 : ((t114.extract 0 ((ji30) : Int).toNat).toList == ((rd_T35 t103 x12_3).f0).toList) = true := beq_iff_eq.mpr c39
                                          have c39b1 : ((t114.extract 0 ((ji30) : Int).toNat).toList != ((rd_T35 t103 x12_3).f0).toList) = false := bne_eq_false_iff_eq.mpr c39
                                          clear c39
                                          have H' := Aside0.mk H
                                          clear H
                                          have p118 : 0 ≤ (x12_3 : Int) := of_decide_eq_true (by first | (with_reducible assumption) | assumption)
                                          have q118 : x12_3 < (t103.length : Int) := of_decide_eq_true (by first | (with_reducible assumption) | assumption)
                                          obtain ⟨ad118, e118, hx118_0, hx118_1⟩ := at_T35 (Kd.R_reads' HO_0.out).2.2 x12_3 p118 q118
                                          cases e118
                                          replace p118 := eq_true p118
                                          replace q118 := eq_true q118
                                          have p119 : 0 ≤ (x12_3 : Int) := of_decide_eq_true (by first | (with_reducible assumption) | assumption)
                                          have q119 : x12_3 < (t103.length : Int) := of_decide_eq_true (by first | (with_reducible assumption) | assumption)
                                          obtain ⟨ad119, e119, hx119_0, hx119_1⟩ := at_T35 (Kd.R_reads' HO_0.out).2.2 x12_3 p119 q119
                                          obtain rfl : ad118 = ad119 := (by injection e119)
                                          replace p119 := eq_true p119
                                          replace q119 := eq_true q119
                                          go_wp2
                                          repeat (go_quiet (fail); try go_wp2)
                                          go_roundg k3
                                          case measure => have := HJ8.out; have := HJ22.out; have := HK3.out; omega
                                          case rel => exact ⟨(wrap64 (x12_3 + 1)), (by first | rfl | (simp; done) | (simp [*]; done)), H', ⟨by have := HJ8.out; have := HJ22.out; have := HK3.out; omega⟩, ⟨by (with_reducible repeat (first | apply Kd.R_alloc | apply Kd.R_drewN | apply Kd.R_drew)); exact HO_0.out⟩, ⟨by (with_reducible repeat (first | refine blk_drewN ?_ _ | refine blk_drew ?_ | refine blk_alloc ?_ _)); exact BK101.out⟩, ⟨by repeat (first | (with_reducible first | exact HB.out | apply bal | apply bdn | apply bd1 | refine below_set ?_ GE101.out) | exact HB.out)⟩⟩
                                        · rw [if_neg c39] at H
                                          exact absurd H (by simp)
                                      · replace c38 := Bool.eq_false_iff.mpr c38
                                        subst c38
                                        have H1 : (rlg.l0 k3 t103 t102 t111 false t114 t115 x11_22 (wrap64 (x12_3 + 1))) = some r := by rw [if_neg (show ¬ (false = true) by decide)] at H; exact H
                                        clear H
                                        have H := H1
                                        clear H1
                                        have H' := Aside0.mk H
                                        clear H
                                        have p118 : 0 ≤ (x12_3 : Int) := of_decide_eq_true (by first | (with_reducible assumption) | assumption)
                                        have q118 : x12_3 < (t103.length : Int) := of_decide_eq_true (by first | (with_reducible assumption) | assumption)
                                        obtain ⟨ad118, e118, hx118_0, hx118_1⟩ := at_T35 (Kd.R_reads' HO_0.out).2.2 x12_3 p118 q118
                                        cases e118
                                        replace p118 := eq_true p118
                                        replace q118 := eq_true q118
                                        have p119 : 0 ≤ (x12_3 : Int) := of_decide_eq_true (by first | (with_reducible assumption) | assumption)
                                        have q119 : x12_3 < (t103.length : Int) := of_decide_eq_true (by first | (with_reducible assumption) | assumption)
                                        obtain ⟨ad119, e119, hx119_0, hx119_1⟩ := at_T35 (Kd.R_reads' HO_0.out).2.2 x12_3 p119 q119
                                        obtain rfl : ad118 = ad119 := (by injection e119)
                                        replace p119 := eq_true p119
                                        replace q119 := eq_true q119
                                        go_wp2
                                        repeat (go_quiet (fail); try go_wp2)
                                        go_roundg k3
                                        case measure => have := HJ8.out; have := HJ22.out; have := HK3.out; omega
                                        case rel => exact ⟨(wrap64 (x12_3 + 1)), (by first | rfl | (simp; done) | (simp [*]; done)), H', ⟨by have := HJ8.out; have := HJ22.out; have := HK3.out; omega⟩, ⟨by (with_reducible repeat (first | apply Kd.R_alloc | apply Kd.R_drewN | apply Kd.R_drew)); exact HO_0.out⟩, ⟨by (with_reducible repeat (first | refine blk_drewN ?_ _ | refine blk_drew ?_ | refine blk_alloc ?_ _)); exact BK101.out⟩, ⟨by repeat (first | (with_reducible first | exact HB.out | apply bal | apply bdn | apply bd1 | refine below_set ?_ GE101.out) | exact HB.out)⟩⟩
                                    · rw [if_neg c37] at H
                                      have c37b0 : (x12_3 == t111) = false := beq_eq_false_iff_ne.mpr c37
                                      have c37b1 : (x12_3 != t111) = true := bne_iff_ne.mpr c37
                                      have H' := Aside0.mk H
                                      clear H
                                      have p118 : 0 ≤ (x12_3 : Int) := of_decide_eq_true (by first | (with_reducible assumption) | assumption)
                                      have q118 : x12_3 < (t103.length : Int) := of_decide_eq_true (by first | (with_reducible assumption) | assumption)
                                      obtain ⟨ad118, e118, hx118_0, hx118_1⟩ := at_T35 (Kd.R_reads' HO_0.out).2.2 x12_3 p118 q118
                                      cases e118
                                      replace p118 := eq_true p118
                                      replace q118 := eq_true q118
                                      have p119 : 0 ≤ (x12_3 : Int) := of_decide_eq_true (by first | (with_reducible assumption) | assumption)
                                      have q119 : x12_3 < (t103.length : Int) := of_decide_eq_true (by first | (with_reducible assumption) | assumption)
                                      obtain ⟨ad119, e119, hx119_0, hx119_1⟩ := at_T35 (Kd.R_reads' HO_0.out).2.2 x12_3 p119 q119
                                      obtain rfl : ad118 = ad119 := (by injection e119)
                                      replace p119 := eq_true p119
                                      replace q119 := eq_true q119
                                      go_wp2
                                      repeat (go_quiet (fail); try go_wp2)
                                      go_roundg k3
                                      case measure => have := HJ8.out; have := HJ22.out; have := HK3.out; omega
                                      case rel => exact ⟨(wrap64 (x12_3 + 1)), (by first | rfl | (simp; done) | (simp [*]; done)), H', ⟨by have := HJ8.out; have := HJ22.out; have := HK3.out; omega⟩, ⟨by (with_reducible repeat (first | apply Kd.R_alloc | apply Kd.R_drewN | apply Kd.R_drew)); exact HO_0.out⟩, ⟨by (with_reducible repeat (first | refine blk_drewN ?_ _ | refine blk_drew ?_ | refine blk_alloc ?_ _)); exact BK101.out⟩, ⟨by repeat (first | (with_reducible first | exact HB.out | apply bal | apply bdn | apply bd1 | refine below_set ?_ GE101.out) | exact HB.out)⟩⟩
                                · rw [if_neg c35] at H
                                  have c35b0 : ((((rd_T35 t103 x12_3).f0).size : Int) == x11_22) = false := beq_eq_false_iff_ne.mpr c35
                                  have c35b1 : ((((rd_T35 t103 x12_3).f0).size : Int) != x11_22) = true := bne_iff_ne.mpr c35
                                  by_cases c40 : x12_3 = t111
                                  · rw [if_pos c40] at H
                                    have c40b0 : (x12_3 == t111) = true := beq_iff_eq.mpr c40
                                    have c40b1 : (x12_3 != t111) = false := bne_eq_false_iff_eq.mpr c40
                                    clear c40
                                    by_cases c41 : t112 = true
                                    · subst c41
                                      have H1 : (if ((t114.extract 0 ((ji30) : Int).toNat).toList = ((rd_T35 t103 x12_3).f0).toList) then (rlg.l0 k3 t103 t102 t111 true t114 t115 x11_22 (wrap64 (x12_3 + 1))) else (none)) = some r := by rw [if_pos rfl] at H; exact H
                                      clear H
                                      have H := H1
                                      clear H1
                                      by_cases c42 : ((t114.extract 0 ((ji30) : Int).toNat).toList = ((rd_T35 t103 x12_3).f0).toList)
                                      · rw [if_pos c42] at H
                                        have c42b0 : ((t114.extract 0 ((ji30) : Int).toNat).toList == ((rd_T35 t103 x12_3).f0).toList) = true := beq_iff_eq.mpr c42
                                        have c42b1 : ((t114.extract 0 ((ji30) : Int).toNat).toList != ((rd_T35 t103 x12_3).f0).toList) = false := bne_eq_false_iff_eq.mpr c42
                                        clear c42
                                        have H' := Aside0.mk H
                                        clear H
                                        have p118 : 0 ≤ (x12_3 : Int) := of_decide_eq_true (by first | (with_reducible assumption) | assumption)
                                        have q118 : x12_3 < (t103.length : Int) := of_decide_eq_true (by first | (with_reducible assumption) | assumption)
                                        obtain ⟨ad118, e118, hx118_0, hx118_1⟩ := at_T35 (Kd.R_reads' HO_0.out).2.2 x12_3 p118 q118
                                        cases e118
                                        replace p118 := eq_true p118
                                        replace q118 := eq_true q118
                                        have p119 : 0 ≤ (x12_3 : Int) := of_decide_eq_true (by first | (with_reducible assumption) | assumption)
                                        have q119 : x12_3 < (t103.length : Int) := of_decide_eq_true (by first | (with_reducible assumption) | assumption)
                                        obtain ⟨ad119, e119, hx119_0, hx119_1⟩ := at_T35 (Kd.R_reads' HO_0.out).2.2 x12_3 p119 q119
                                        obtain rfl : ad118 = ad119 := (by injection e119)
                                        replace p119 := eq_true p119
                                        replace q119 := eq_true q119
                                        go_wp2
                                        repeat (go_quiet (fail); try go_wp2)
                                        go_roundg k3
                                        case measure => have := HJ8.out; have := HJ22.out; have := HK3.out; omega
                                        case rel => exact ⟨(wrap64 (x12_3 + 1)), (by first | rfl | (simp; done) | (simp [*]; done)), H', ⟨by have := HJ8.out; have := HJ22.out; have := HK3.out; omega⟩, ⟨by (with_reducible repeat (first | apply Kd.R_alloc | apply Kd.R_drewN | apply Kd.R_drew)); exact HO_0.out⟩, ⟨by (with_reducible repeat (first | refine blk_drewN ?_ _ | refine blk_drew ?_ | refine blk_alloc ?_ _)); exact BK101.out⟩, ⟨by repeat (first | (with_reducible first | exact HB.out | apply bal | apply bdn | apply bd1 | refine below_set ?_ GE101.out) | exact HB.out)⟩⟩
                                      · rw [if_neg c42] at H
                                        exact absurd H (by simp)
                                    · replace c41 := Bool.eq_false_iff.mpr c41
                                      subst c41
                                      have H1 : (rlg.l0 k3 t103 t102 t111 false t114 t115 x11_22 (wrap64 (x12_3 + 1))) = some r := by rw [if_neg (show ¬ (false = true) by decide)] at H; exact H
                                      clear H
                                      have H := H1
                                      clear H1
                                      have H' := Aside0.mk H
                                      clear H
                                      have p118 : 0 ≤ (x12_3 : Int) := of_decide_eq_true (by first | (with_reducible assumption) | assumption)
                                      have q118 : x12_3 < (t103.length : Int) := of_decide_eq_true (by first | (with_reducible assumption) | assumption)
                                      obtain ⟨ad118, e118, hx118_0, hx118_1⟩ := at_T35 (Kd.R_reads' HO_0.out).2.2 x12_3 p118 q118
                                      cases e118
                                      replace p118 := eq_true p118
                                      replace q118 := eq_true q118
                                      have p119 : 0 ≤ (x12_3 : Int) := of_decide_eq_true (by first | (with_reducible assumption) | assumption)
                                      have q119 : x12_3 < (t103.length : Int) := of_decide_eq_true (by first | (with_reducible assumption) | assumption)
                                      obtain ⟨ad119, e119, hx119_0, hx119_1⟩ := at_T35 (Kd.R_reads' HO_0.out).2.2 x12_3 p119 q119
                                      obtain rfl : ad118 = ad119 := (by injection e119)
                                      replace p119 := eq_true p119
                                      replace q119 := eq_true q119
                                      go_wp2
                                      repeat (go_quiet (fail); try go_wp2)
                                      go_roundg k3
                                      case measure => have := HJ8.out; have := HJ22.out; have := HK3.out; omega
                                      case rel => exact ⟨(wrap64 (x12_3 + 1)), (by first | rfl | (simp; done) | (simp [*]; done)), H', ⟨by have := HJ8.out; have := HJ22.out; have := HK3.out; omega⟩, ⟨by (with_reducible repeat (first | apply Kd.R_alloc | apply Kd.R_drewN | apply Kd.R_drew)); exact HO_0.out⟩, ⟨by (with_reducible repeat (first | refine blk_drewN ?_ _ | refine blk_drew ?_ | refine blk_alloc ?_ _)); exact BK101.out⟩, ⟨by repeat (first | (with_reducible first | exact HB.out | apply bal | apply bdn | apply bd1 | refine below_set ?_ GE101.out) | exact HB.out)⟩⟩
                                  · rw [if_neg c40] at H
                                    have c40b0 : (x12_3 == t111) = false := beq_eq_false_iff_ne.mpr c40
                                    have c40b1 : (x12_3 != t111) = true := bne_iff_ne.mpr c40
                                    have H' := Aside0.mk H
                                    clear H
                                    have p118 : 0 ≤ (x12_3 : Int) := of_decide_eq_true (by first | (with_reducible assumption) | assumption)
                                    have q118 : x12_3 < (t103.length : Int) := of_decide_eq_true (by first | (with_reducible assumption) | assumption)
                                    obtain ⟨ad118, e118, hx118_0, hx118_1⟩ := at_T35 (Kd.R_reads' HO_0.out).2.2 x12_3 p118 q118
                                    cases e118
                                    replace p118 := eq_true p118
                                    replace q118 := eq_true q118
                                    have p119 : 0 ≤ (x12_3 : Int) := of_decide_eq_true (by first | (with_reducible assumption) | assumption)
                                    have q119 : x12_3 < (t103.length : Int) := of_decide_eq_true (by first | (with_reducible assumption) | assumption)
                                    obtain ⟨ad119, e119, hx119_0, hx119_1⟩ := at_T35 (Kd.R_reads' HO_0.out).2.2 x12_3 p119 q119
                                    obtain rfl : ad118 = ad119 := (by injection e119)
                                    replace p119 := eq_true p119
                                    replace q119 := eq_true q119
                                    go_wp2
                                    repeat (go_quiet (fail); try go_wp2)
                                    go_roundg k3
                                    case measure => have := HJ8.out; have := HJ22.out; have := HK3.out; omega
                                    case rel => exact ⟨(wrap64 (x12_3 + 1)), (by first | rfl | (simp; done) | (simp [*]; done)), H', ⟨by have := HJ8.out; have := HJ22.out; have := HK3.out; omega⟩, ⟨by (with_reducible repeat (first | apply Kd.R_alloc | apply Kd.R_drewN | apply Kd.R_drew)); exact HO_0.out⟩, ⟨by (with_reducible repeat (first | refine blk_drewN ?_ _ | refine blk_drew ?_ | refine blk_alloc ?_ _)); exact BK101.out⟩, ⟨by repeat (first | (with_reducible first | exact HB.out | apply bal | apply bdn | apply bd1 | refine below_set ?_ GE101.out) | exact HB.out)⟩⟩
                            · rw [if_neg c33] at H
                              have c33b0 : ((t114.extract 0 ((ji30) : Int).toNat).toList == ((rd_T35 t103 x12_3).f0).toList) = false := beq_eq_false_iff_ne.mpr c33
                              have c33b1 : ((t114.extract 0 ((ji30) : Int).toNat).toList != ((rd_T35 t103 x12_3).f0).toList) = true := bne_iff_ne.mpr c33
                              by_cases c43 : x12_3 = t111
                              · rw [if_pos c43] at H
                                have c43b0 : (x12_3 == t111) = true := beq_iff_eq.mpr c43
                                have c43b1 : (x12_3 != t111) = false := bne_eq_false_iff_eq.mpr c43
                                clear c43
                                by_cases c44 : t112 = true
                                · subst c44
                                  have H1 : (if ((t114.extract 0 ((ji30) : Int).toNat).toList = ((rd_T35 t103 x12_3).f0).toList) then (rlg.l0 k3 t103 t102 t111 true t114 t115 x11_22 (wrap64 (x12_3 + 1))) else (none)) = some r := by rw [if_pos rfl] at H; exact H
                                  clear H
                                  have H := H1
                                  clear H1
                                  by_cases c45 : ((t114.extract 0 ((ji30) : Int).toNat).toList = ((rd_T35 t103 x12_3).f0).toList)
                                  · rw [if_pos c45] at H
                                    have c45b0 : ((t114.extract 0 ((ji30) : Int).toNat).toList == ((rd_T35 t103 x12_3).f0).toList) = true := beq_iff_eq.mpr c45
                                    have c45b1 : ((t114.extract 0 ((ji30) : Int).toNat).toList != ((rd_T35 t103 x12_3).f0).toList) = false := bne_eq_false_iff_eq.mpr c45
                                    clear c45
                                    exact absurd (c33b0.symm.trans c45b0) (by decide)
                                  · rw [if_neg c45] at H
                                    exact absurd H (by simp)
                                · replace c44 := Bool.eq_false_iff.mpr c44
                                  subst c44
                                  have H1 : (rlg.l0 k3 t103 t102 t111 false t114 t115 x11_22 (wrap64 (x12_3 + 1))) = some r := by rw [if_neg (show ¬ (false = true) by decide)] at H; exact H
                                  clear H
                                  have H := H1
                                  clear H1
                                  have H' := Aside0.mk H
                                  clear H
                                  have p118 : 0 ≤ (x12_3 : Int) := of_decide_eq_true (by first | (with_reducible assumption) | assumption)
                                  have q118 : x12_3 < (t103.length : Int) := of_decide_eq_true (by first | (with_reducible assumption) | assumption)
                                  obtain ⟨ad118, e118, hx118_0, hx118_1⟩ := at_T35 (Kd.R_reads' HO_0.out).2.2 x12_3 p118 q118
                                  cases e118
                                  replace p118 := eq_true p118
                                  replace q118 := eq_true q118
                                  have p119 : 0 ≤ (x12_3 : Int) := of_decide_eq_true (by first | (with_reducible assumption) | assumption)
                                  have q119 : x12_3 < (t103.length : Int) := of_decide_eq_true (by first | (with_reducible assumption) | assumption)
                                  obtain ⟨ad119, e119, hx119_0, hx119_1⟩ := at_T35 (Kd.R_reads' HO_0.out).2.2 x12_3 p119 q119
                                  obtain rfl : ad118 = ad119 := (by injection e119)
                                  replace p119 := eq_true p119
                                  replace q119 := eq_true q119
                                  go_wp2
                                  repeat (go_quiet (fail); try go_wp2)
                                  go_roundg k3
                                  case measure => have := HJ8.out; have := HJ22.out; have := HK3.out; omega
                                  case rel => exact ⟨(wrap64 (x12_3 + 1)), (by first | rfl | (simp; done) | (simp [*]; done)), H', ⟨by have := HJ8.out; have := HJ22.out; have := HK3.out; omega⟩, ⟨by (with_reducible repeat (first | apply Kd.R_alloc | apply Kd.R_drewN | apply Kd.R_drew)); exact HO_0.out⟩, ⟨by (with_reducible repeat (first | refine blk_drewN ?_ _ | refine blk_drew ?_ | refine blk_alloc ?_ _)); exact BK101.out⟩, ⟨by repeat (first | (with_reducible first | exact HB.out | apply bal | apply bdn | apply bd1 | refine below_set ?_ GE101.out) | exact HB.out)⟩⟩
                              · rw [if_neg c43] at H
                                have c43b0 : (x12_3 == t111) = false := beq_eq_false_iff_ne.mpr c43
                                have c43b1 : (x12_3 != t111) = true := bne_iff_ne.mpr c43
                                have H' := Aside0.mk H
                                clear H
                                have p118 : 0 ≤ (x12_3 : Int) := of_decide_eq_true (by first | (with_reducible assumption) | assumption)
                                have q118 : x12_3 < (t103.length : Int) := of_decide_eq_true (by first | (with_reducible assumption) | assumption)
                                obtain ⟨ad118, e118, hx118_0, hx118_1⟩ := at_T35 (Kd.R_reads' HO_0.out).2.2 x12_3 p118 q118
                                cases e118
                                replace p118 := eq_true p118
                                replace q118 := eq_true q118
                                have p119 : 0 ≤ (x12_3 : Int) := of_decide_eq_true (by first | (with_reducible assumption) | assumption)
                                have q119 : x12_3 < (t103.length : Int) := of_decide_eq_true (by first | (with_reducible assumption) | assumption)
                                obtain ⟨ad119, e119, hx119_0, hx119_1⟩ := at_T35 (Kd.R_reads' HO_0.out).2.2 x12_3 p119 q119
                                obtain rfl : ad118 = ad119 := (by injection e119)
                                replace p119 := eq_true p119
                                replace q119 := eq_true q119
                                go_wp2
                                repeat (go_quiet (fail); try go_wp2)
                                go_roundg k3
                                case measure => have := HJ8.out; have := HJ22.out; have := HK3.out; omega
                                case rel => exact ⟨(wrap64 (x12_3 + 1)), (by first | rfl | (simp; done) | (simp [*]; done)), H', ⟨by have := HJ8.out; have := HJ22.out; have := HK3.out; omega⟩, ⟨by (with_reducible repeat (first | apply Kd.R_alloc | apply Kd.R_drewN | apply Kd.R_drew)); exact HO_0.out⟩, ⟨by (with_reducible repeat (first | refine blk_drewN ?_ _ | refine blk_drew ?_ | refine blk_alloc ?_ _)); exact BK101.out⟩, ⟨by repeat (first | (with_reducible first | exact HB.out | apply bal | apply bdn | apply bd1 | refine below_set ?_ GE101.out) | exact HB.out)⟩⟩
                          · rw [if_neg c32] at H
                            exact absurd H (by simp)
                        · rw [if_neg c31] at H
                          exact absurd H (by simp)
                      · rw [if_neg c29] at H
                        have c29b0 : decide ((((rd_T35 t103 x12_3).f0).size : Int) ≤ (t114.size : Int)) = false := decide_eq_false c29
                        have c29b1 : decide (((rd_T35 t103 x12_3).f0).size ≤ t114.size) = false := decide_eq_false (fun h => c29 (Int.ofNat_le.mpr h))
                        clear c29
                        by_cases c46 : x12_3 = t111
                        · rw [if_pos c46] at H
                          have c46b0 : (x12_3 == t111) = true := beq_iff_eq.mpr c46
                          have c46b1 : (x12_3 != t111) = false := bne_eq_false_iff_eq.mpr c46
                          clear c46
                          by_cases c47 : t112 = true
                          · subst c47
                            have H1 : (none) = some r := by rw [if_pos rfl] at H; exact H
                            clear H
                            have H := H1
                            clear H1
                            exact absurd H (by simp)
                          · replace c47 := Bool.eq_false_iff.mpr c47
                            subst c47
                            have H1 : (rlg.l0 k3 t103 t102 t111 false t114 t115 x11_22 (wrap64 (x12_3 + 1))) = some r := by rw [if_neg (show ¬ (false = true) by decide)] at H; exact H
                            clear H
                            have H := H1
                            clear H1
                            have H' := Aside0.mk H
                            clear H
                            have p118 : 0 ≤ (x12_3 : Int) := of_decide_eq_true (by first | (with_reducible assumption) | assumption)
                            have q118 : x12_3 < (t103.length : Int) := of_decide_eq_true (by first | (with_reducible assumption) | assumption)
                            obtain ⟨ad118, e118, hx118_0, hx118_1⟩ := at_T35 (Kd.R_reads' HO_0.out).2.2 x12_3 p118 q118
                            cases e118
                            replace p118 := eq_true p118
                            replace q118 := eq_true q118
                            go_wp2
                            repeat (go_quiet (fail); try go_wp2)
                            go_roundg k3
                            case measure => have := HJ8.out; have := HJ22.out; have := HK3.out; omega
                            case rel => exact ⟨(wrap64 (x12_3 + 1)), (by first | rfl | (simp; done) | (simp [*]; done)), H', ⟨by have := HJ8.out; have := HJ22.out; have := HK3.out; omega⟩, ⟨by (with_reducible repeat (first | apply Kd.R_alloc | apply Kd.R_drewN | apply Kd.R_drew)); exact HO_0.out⟩, ⟨by (with_reducible repeat (first | refine blk_drewN ?_ _ | refine blk_drew ?_ | refine blk_alloc ?_ _)); exact BK101.out⟩, ⟨by repeat (first | (with_reducible first | exact HB.out | apply bal | apply bdn | apply bd1 | refine below_set ?_ GE101.out) | exact HB.out)⟩⟩
                        · rw [if_neg c46] at H
                          have c46b0 : (x12_3 == t111) = false := beq_eq_false_iff_ne.mpr c46
                          have c46b1 : (x12_3 != t111) = true := bne_iff_ne.mpr c46
                          have H' := Aside0.mk H
                          clear H
                          have p118 : 0 ≤ (x12_3 : Int) := of_decide_eq_true (by first | (with_reducible assumption) | assumption)
                          have q118 : x12_3 < (t103.length : Int) := of_decide_eq_true (by first | (with_reducible assumption) | assumption)
                          obtain ⟨ad118, e118, hx118_0, hx118_1⟩ := at_T35 (Kd.R_reads' HO_0.out).2.2 x12_3 p118 q118
                          cases e118
                          replace p118 := eq_true p118
                          replace q118 := eq_true q118
                          go_wp2
                          repeat (go_quiet (fail); try go_wp2)
                          go_roundg k3
                          case measure => have := HJ8.out; have := HJ22.out; have := HK3.out; omega
                          case rel => exact ⟨(wrap64 (x12_3 + 1)), (by first | rfl | (simp; done) | (simp [*]; done)), H', ⟨by have := HJ8.out; have := HJ22.out; have := HK3.out; omega⟩, ⟨by (with_reducible repeat (first | apply Kd.R_alloc | apply Kd.R_drewN | apply Kd.R_drew)); exact HO_0.out⟩, ⟨by (with_reducible repeat (first | refine blk_drewN ?_ _ | refine blk_drew ?_ | refine blk_alloc ?_ _)); exact BK101.out⟩, ⟨by repeat (first | (with_reducible first | exact HB.out | apply bal | apply bdn | apply bd1 | refine below_set ?_ GE101.out) | exact HB.out)⟩⟩
                    · rw [if_neg c28] at H
                      exact absurd H (by simp)
                  · rw [if_neg c27] at H
                    have c27b0 : decide (x12_3 < (t103.length : Int)) = false := decide_eq_false c27
                    clear c27
                    by_cases c48 : t102 = true
                    · subst c48
                      have H1 : (some (t115 == 0)) = some r := by rw [if_pos rfl] at H; exact H
                      clear H
                      have H := H1
                      clear H1
                      obtain rfl := Option.some.inj H
                      go_wp2
                      repeat (go_quiet (fail); try go_wp2)
                      all_goals (first | (go_ret; exact ⟨by first | rfl | (simp [errW_none, errW_some] <;> rfl) | (simp [*, errW_none, errW_some] <;> rfl) | (simp_all; done) | fail, by repeat (first | (with_reducible first | exact HB.out | apply bal | apply bdn | apply bd1 | refine below_set ?_ GE101.out) | exact HB.out)⟩) | (exfalso; simp_all; done) | (exfalso; simp only [isEmpty_eq, isEmpty_ne] at *; simp_all; done) | (exfalso; exact isEmpty_clash (by assumption) (by assumption)) | (exfalso; exact isEmpty_clash' (by assumption) (by assumption)) | (exfalso; exact isEmpty_clash2 (by assumption) (by assumption)) | (exfalso; simp only [decide_eq_true_eq, decide_eq_false_iff_not] at *; omega))
                    · replace c48 := Bool.eq_false_iff.mpr c48
                      subst c48
                      have H1 : (none) = some r := by rw [if_neg (show ¬ (false = true) by decide)] at H; exact H
                      clear H
                      have H := H1
                      clear H1
                      exact absurd H (by simp)
  · rw [if_neg c8] at H
    have c8b0 : (t113 == 0) = false := beq_eq_false_iff_ne.mpr c8
    have c8b1 : (t113 != 0) = true := bne_iff_ne.mpr c8
    by_cases c49 : t102 = true
    · subst c49
      have H1 : (if t112 = true then (none) else (if t111 = 0 then ((route_Right.f t103).bind fun t116 => (if t116 = true then (some (t115 != 0)) else (some true))) else (none))) = some r := by rw [if_pos rfl] at H; exact H
      clear H
      have H := H1
      clear H1
      by_cases c50 : t112 = true
      · subst c50
        have H1 : (none) = some r := by rw [if_pos rfl] at H; exact H
        clear H
        have H := H1
        clear H1
        exact absurd H (by simp)
      · replace c50 := Bool.eq_false_iff.mpr c50
        subst c50
        have H1 : (if t111 = 0 then ((route_Right.f t103).bind fun t116 => (if t116 = true then (some (t115 != 0)) else (some true))) else (none)) = some r := by rw [if_neg (show ¬ (false = true) by decide)] at H; exact H
        clear H
        have H := H1
        clear H1
        by_cases c51 : t111 = 0
        · rw [if_pos c51] at H
          have c51b0 : (t111 == 0) = true := beq_iff_eq.mpr c51
          have c51b1 : (t111 != 0) = false := bne_eq_false_iff_eq.mpr c51
          clear c51
          replace H := Option.bind_eq_some_iff.mp H
          obtain ⟨t116, A520, H⟩ := H
          replace H : (if t116 = true then (some (t115 != 0)) else (some true)) = some r := H
          have A52 := Aside0.mk A520
          clear A520
          by_cases c53 : t116 = true
          · subst c53
            have H1 : (some (t115 != 0)) = some r := by rw [if_pos rfl] at H; exact H
            clear H
            have H := H1
            clear H1
            obtain rfl := Option.some.inj H
            go_enter Tryz.func9, Tryz.ntmps9
            go_wp2_with (first | ((with_reducible refine gate_dst (N := 3) rfl ?_); (try (refine gate_guard (by rfl) ?_; dsimp only)); refine box_event ?hg (N := 3) ?hd (cs := #[.int .i64 a1_0, .string a1_1, .string a1_2, .int .i64 a1_3, .int .i64 a1_4]) (t := 37) ?hr ?_; (case hd => rfl); (case hg => rfl); (case hr => first | (go_simp; done) | (go_simp; rfl) | (go_simp; simp only [isEmpty_ne, isEmpty_eq]; done) | (go_simp; simp only [isEmpty_ne, isEmpty_eq]; rfl)); intro gb101 hg w54 hbox hb; have n0_ := Aside0.mk (below_step (by repeat (first | (with_reducible first | exact HB.out | apply bal | apply bdn | apply bd1) | exact HB.out)) hb); have n1_ := Aside0.mk (hbox); have n2_ := Aside0.mk ((by rw [hg]; exact (below_size (by repeat (first | (with_reducible first | exact HB.out | apply bal | apply bdn | apply bd1) | exact HB.out))) : w.heap.size ≤ gb101)); have n3_ := Aside0.mk ((by rw [hg]; exact (below_size (by repeat (first | (with_reducible first | exact HB.out | apply bal | apply bdn | apply bd1) | exact HB.out))) : w.heap.size ≤ gb101)); clear HB; have HB := n0_; have BK101 := n1_; have GW101 := n2_; have GE101 := n3_; clear n0_ n1_ n2_ n3_; clear hb hbox hg) | (go_at_call 10; (with_reducible refine (postriderlaw16_shown.calls  true _ ?side1 A3.out).mono ?_); (case side1 => exact LaidR.below HLD.out (by repeat (first | (with_reducible first | exact HB.out | apply bal | apply bdn | apply bd1 | refine below_set ?_ GE101.out) | exact HB.out))); rintro e w55 ⟨rfl, hb⟩; have n0_ := Aside0.mk (blk_below (g := gb101) (o := .cells #[.int .i64 a1_0, .string a1_1, .string a1_2, .int .i64 a1_3, .int .i64 a1_4] 37 (0, 0)) (by (with_reducible repeat (first | refine blk_drewN ?_ _ | refine blk_drew ?_ | refine blk_alloc ?_ _)); exact BK101.out) hb); have n1_ := Aside0.mk (below_step (by repeat (first | (with_reducible first | exact HB.out | apply bal | apply bdn | apply bd1 | refine below_set ?_ GE101.out) | exact HB.out)) hb); clear BK101; clear HB; have BK101 := n0_; have HB := n1_; clear n0_ n1_; (try clear hb); (try clear hb2); (try clear hk); (try clear hi)) | (go_at_call 17; (with_reducible refine (postriderlaw16_Cut.calls k _ _ l0 t103 _ ?side1 ?side2 A4.out).mono ?_); (case side1 => repeat (first | exact (Kd.C_below HR0.out HB.out) | (with_reducible refine Kd.C_alloc ?_ _) | (with_reducible refine Kd.C_drewN ?_ _) | (with_reducible refine Kd.C_drew ?_))); (case side2 => exact HC0.out); rintro e w56 ⟨v104, rfl, ho0, hb⟩; have n0_ := Aside0.mk (Kd.R_lower ho0 (below_size (by repeat (first | (with_reducible first | exact HB.out | apply bal | apply bdn | apply bd1 | refine below_set ?_ GE101.out) | exact HB.out)))); have n1_ := Aside0.mk (blk_below (g := gb101) (o := .cells #[.int .i64 a1_0, .string a1_1, .string a1_2, .int .i64 a1_3, .int .i64 a1_4] 37 (0, 0)) (by (with_reducible repeat (first | refine blk_drewN ?_ _ | refine blk_drew ?_ | refine blk_alloc ?_ _)); exact BK101.out) hb); have n2_ := Aside0.mk (below_step (by repeat (first | (with_reducible first | exact HB.out | apply bal | apply bdn | apply bd1 | refine below_set ?_ GE101.out) | exact HB.out)) hb); clear BK101; clear HB; have HO105 := n0_; have BK101 := n1_; have HB := n2_; clear n0_ n1_ n2_; (try clear hb); (try clear hb2); (try clear hk); (try clear hi); (try clear ho0); have hcz57_0 : w56.cell? ⟨gb101, 0, none⟩ = some (.int .i64 a1_0) := (blk_cell BK101.out 0).trans rfl; have hcz57_1 : w56.cell? ⟨gb101, 1, none⟩ = some (.string a1_1) := (blk_cell BK101.out 1).trans rfl; have hcz57_2 : w56.cell? ⟨gb101, 2, none⟩ = some (.string a1_2) := (blk_cell BK101.out 2).trans rfl; have hcz57_3 : w56.cell? ⟨gb101, 3, none⟩ = some (.int .i64 a1_3) := (blk_cell BK101.out 3).trans rfl; have hcz57_4 : w56.cell? ⟨gb101, 4, none⟩ = some (.int .i64 a1_4) := (blk_cell BK101.out 4).trans rfl; have hfz57_0 := bfz BK101.out 0; have hfz57_1 := bfz BK101.out 1; have hfz57_2 := bfz BK101.out 2; have hfz57_3 := bfz BK101.out 3; have hfz57_4 := bfz BK101.out 4) | (go_at_call 18; (with_reducible refine (postriderlaw06_Cut.calls a1_0 a1_1 a1_2 a1_3 a1_4 t106 t107 t108 t109 t110 _ A5.out).mono ?_); rintro e w58 ⟨rfl, hb⟩; have n0_ := Aside0.mk (Kd.R_below (by (with_reducible repeat (first | apply Kd.R_alloc | apply Kd.R_drewN | apply Kd.R_drew)); exact HO105.out) hb); have n1_ := Aside0.mk (blk_below (g := gb101) (o := .cells #[.int .i64 a1_0, .string a1_1, .string a1_2, .int .i64 a1_3, .int .i64 a1_4] 37 (0, 0)) (by (with_reducible repeat (first | refine blk_drewN ?_ _ | refine blk_drew ?_ | refine blk_alloc ?_ _)); exact BK101.out) hb); have n2_ := Aside0.mk (below_step (by repeat (first | (with_reducible first | exact HB.out | apply bal | apply bdn | apply bd1 | refine below_set ?_ GE101.out) | exact HB.out)) hb); clear HO105; clear BK101; clear HB; have HO105 := n0_; have BK101 := n1_; have HB := n2_; clear n0_ n1_ n2_; (try clear hb); (try clear hb2); (try clear hk); (try clear hi); have hcz59_0 : w58.cell? ⟨gb101, 0, none⟩ = some (.int .i64 a1_0) := (blk_cell BK101.out 0).trans rfl; have hcz59_1 : w58.cell? ⟨gb101, 1, none⟩ = some (.string a1_1) := (blk_cell BK101.out 1).trans rfl; have hcz59_2 : w58.cell? ⟨gb101, 2, none⟩ = some (.string a1_2) := (blk_cell BK101.out 2).trans rfl; have hcz59_3 : w58.cell? ⟨gb101, 3, none⟩ = some (.int .i64 a1_3) := (blk_cell BK101.out 3).trans rfl; have hcz59_4 : w58.cell? ⟨gb101, 4, none⟩ = some (.int .i64 a1_4) := (blk_cell BK101.out 4).trans rfl; have hfz59_0 := bfz BK101.out 0; have hfz59_1 := bfz BK101.out 1; have hfz59_2 := bfz BK101.out 2; have hfz59_3 := bfz BK101.out 3; have hfz59_4 := bfz BK101.out 4; obtain ⟨Ao60, co60, eo60⟩ := Kd.R_slice HO105.out; subst eo60) | (go_at_call 19; (with_reducible refine (route_Find.calls _ _ t103 t106 t107 t108 t109 t110 t111 false t113 _ ?side1 ?side2 ?side3 A6.out).mono ?_); (case side1 => refine (Kd.R_reads' (e := 35) (base := w.heap.size) (ok := fun k_ => True) (n := t103.length) (c := co60) ?_).2.2; exact (by (with_reducible repeat (first | apply Kd.R_alloc | apply Kd.R_drewN | apply Kd.R_drew)); exact (Kd.R_mono (Kd.R_far (p := ⟨gb101, 4, none⟩) (Kd.R_far (p := ⟨gb101, 3, none⟩) (Kd.R_far (p := ⟨gb101, 2, none⟩) (Kd.R_far (p := ⟨gb101, 1, none⟩) (Kd.R_far (p := ⟨gb101, 0, none⟩) (Kd.R_types HO105.out BK101.out (by decide)) (fun _ hk => hk.2) (.int .i64 t106)) (fun _ hk => hk.2) (.string t107)) (fun _ hk => hk.2) (.string t108)) (fun _ hk => hk.2) (.int .i64 t109)) (fun _ hk => hk.2) (.int .i64 t110)) (fun _ h_ => h_.1)))); (case side2 => exact (Kd.R_reads' HO105.out).2.1); (case side3 => exact LaidR.below HLD.out (by repeat (first | (with_reducible first | exact HB.out | apply bal | apply bdn | apply bd1 | refine below_set ?_ GE101.out) | exact HB.out))); rintro e w61 ⟨rfl, hb⟩; have n0_ := Aside0.mk (Kd.R_below (by (with_reducible repeat (first | apply Kd.R_alloc | apply Kd.R_drewN | apply Kd.R_drew)); exact (Kd.R_mono (Kd.R_far (p := ⟨gb101, 4, none⟩) (Kd.R_far (p := ⟨gb101, 3, none⟩) (Kd.R_far (p := ⟨gb101, 2, none⟩) (Kd.R_far (p := ⟨gb101, 1, none⟩) (Kd.R_far (p := ⟨gb101, 0, none⟩) (Kd.R_types HO105.out BK101.out (by decide)) (fun _ hk => hk.2) (.int .i64 t106)) (fun _ hk => hk.2) (.string t107)) (fun _ hk => hk.2) (.string t108)) (fun _ hk => hk.2) (.int .i64 t109)) (fun _ hk => hk.2) (.int .i64 t110)) (fun _ h_ => h_.1))) hb); have n1_ := Aside0.mk (blk_below (g := gb101) (o := .cells #[.int .i64 t106, .string t107, .string t108, .int .i64 t109, .int .i64 t110] 37 (0, 0)) (by (with_reducible repeat (first | refine blk_drewN ?_ _ | refine blk_drew ?_ | refine blk_alloc ?_ _)); refine blk_put (cs := #[.int .i64 t106, .string t107, .string t108, .int .i64 t109, .int .i64 a1_4]) ?_ 4 _ rfl; (with_reducible repeat (first | refine blk_drewN ?_ _ | refine blk_drew ?_ | refine blk_alloc ?_ _)); refine blk_put (cs := #[.int .i64 t106, .string t107, .string t108, .int .i64 a1_3, .int .i64 a1_4]) ?_ 3 _ rfl; (with_reducible repeat (first | refine blk_drewN ?_ _ | refine blk_drew ?_ | refine blk_alloc ?_ _)); refine blk_put (cs := #[.int .i64 t106, .string t107, .string a1_2, .int .i64 a1_3, .int .i64 a1_4]) ?_ 2 _ rfl; (with_reducible repeat (first | refine blk_drewN ?_ _ | refine blk_drew ?_ | refine blk_alloc ?_ _)); refine blk_put (cs := #[.int .i64 t106, .string a1_1, .string a1_2, .int .i64 a1_3, .int .i64 a1_4]) ?_ 1 _ rfl; (with_reducible repeat (first | refine blk_drewN ?_ _ | refine blk_drew ?_ | refine blk_alloc ?_ _)); refine blk_put (cs := #[.int .i64 a1_0, .string a1_1, .string a1_2, .int .i64 a1_3, .int .i64 a1_4]) ?_ 0 _ rfl; (with_reducible repeat (first | refine blk_drewN ?_ _ | refine blk_drew ?_ | refine blk_alloc ?_ _)); exact BK101.out) hb); have n2_ := Aside0.mk (below_step (by repeat (first | (with_reducible first | exact HB.out | apply bal | apply bdn | apply bd1 | refine below_set ?_ GE101.out) | exact HB.out)) hb); clear HO105; clear BK101; clear HB; have HO105 := n0_; have BK101 := n1_; have HB := n2_; clear n0_ n1_ n2_; (try clear hb); (try clear hb2); (try clear hk); (try clear hi); have hcz62_0 : w61.cell? ⟨gb101, 0, none⟩ = some (.int .i64 t106) := (blk_cell BK101.out 0).trans rfl; have hcz62_1 : w61.cell? ⟨gb101, 1, none⟩ = some (.string t107) := (blk_cell BK101.out 1).trans rfl; have hcz62_2 : w61.cell? ⟨gb101, 2, none⟩ = some (.string t108) := (blk_cell BK101.out 2).trans rfl; have hcz62_3 : w61.cell? ⟨gb101, 3, none⟩ = some (.int .i64 t109) := (blk_cell BK101.out 3).trans rfl; have hcz62_4 : w61.cell? ⟨gb101, 4, none⟩ = some (.int .i64 t110) := (blk_cell BK101.out 4).trans rfl; have hfz62_0 := bfz BK101.out 0; have hfz62_1 := bfz BK101.out 1; have hfz62_2 := bfz BK101.out 2; have hfz62_3 := bfz BK101.out 3; have hfz62_4 := bfz BK101.out 4) | (go_at_call 21; (with_reducible refine (eid_PrintR.calls t106 t107 t108 t109 t110 t114 t115 _ ?side1 A7.out).mono ?_); (case side1 => exact LaidR.below HLD.out (by repeat (first | (with_reducible first | exact HB.out | apply bal | apply bdn | apply bd1 | refine below_set ?_ GE101.out) | exact HB.out))); rintro e w63 ⟨rfl, hb⟩; have n0_ := Aside0.mk (Kd.R_below (by (with_reducible repeat (first | apply Kd.R_alloc | apply Kd.R_drewN | apply Kd.R_drew)); exact HO105.out) hb); have n1_ := Aside0.mk (blk_below (g := gb101) (o := .cells #[.int .i64 t106, .string t107, .string t108, .int .i64 t109, .int .i64 t110] 37 (0, 0)) (by (with_reducible repeat (first | refine blk_drewN ?_ _ | refine blk_drew ?_ | refine blk_alloc ?_ _)); exact BK101.out) hb); have n2_ := Aside0.mk (below_step (by repeat (first | (with_reducible first | exact HB.out | apply bal | apply bdn | apply bd1 | refine below_set ?_ GE101.out) | exact HB.out)) hb); clear HO105; clear BK101; clear HB; have HO105 := n0_; have BK101 := n1_; have HB := n2_; clear n0_ n1_ n2_; (try clear hb); (try clear hb2); (try clear hk); (try clear hi)) | (go_at_call 25; (with_reducible refine (route_Right.calls _ _ t103 true _ ?side1 ?side2 A52.out).mono ?_); (case side1 => repeat (first | exact (Kd.R_reads' HO105.out).2.2 | (with_reducible refine Kd.C_alloc ?_ _) | (with_reducible refine Kd.C_drewN ?_ _) | (with_reducible refine Kd.C_drew ?_))); (case side2 => exact (Kd.R_reads' HO105.out).2.1); rintro e w64 ⟨rfl, hb⟩; have n0_ := Aside0.mk (Kd.R_below (by (with_reducible repeat (first | apply Kd.R_alloc | apply Kd.R_drewN | apply Kd.R_drew)); exact HO105.out) hb); have n1_ := Aside0.mk (blk_below (g := gb101) (o := .cells #[.int .i64 t106, .string t107, .string t108, .int .i64 t109, .int .i64 t110] 37 (0, 0)) (by (with_reducible repeat (first | refine blk_drewN ?_ _ | refine blk_drew ?_ | refine blk_alloc ?_ _)); exact BK101.out) hb); have n2_ := Aside0.mk (below_step (by repeat (first | (with_reducible first | exact HB.out | apply bal | apply bdn | apply bd1 | refine below_set ?_ GE101.out) | exact HB.out)) hb); clear HO105; clear BK101; clear HB; have HO105 := n0_; have BK101 := n1_; have HB := n2_; clear n0_ n1_ n2_; (try clear hb); (try clear hb2); (try clear hk); (try clear hi)))
            repeat (go_quiet (first | ((with_reducible refine gate_dst (N := 3) rfl ?_); (try (refine gate_guard (by rfl) ?_; dsimp only)); refine box_event ?hg (N := 3) ?hd (cs := #[.int .i64 a1_0, .string a1_1, .string a1_2, .int .i64 a1_3, .int .i64 a1_4]) (t := 37) ?hr ?_; (case hd => rfl); (case hg => rfl); (case hr => first | (go_simp; done) | (go_simp; rfl) | (go_simp; simp only [isEmpty_ne, isEmpty_eq]; done) | (go_simp; simp only [isEmpty_ne, isEmpty_eq]; rfl)); intro gb101 hg w54 hbox hb; have n0_ := Aside0.mk (below_step (by repeat (first | (with_reducible first | exact HB.out | apply bal | apply bdn | apply bd1) | exact HB.out)) hb); have n1_ := Aside0.mk (hbox); have n2_ := Aside0.mk ((by rw [hg]; exact (below_size (by repeat (first | (with_reducible first | exact HB.out | apply bal | apply bdn | apply bd1) | exact HB.out))) : w.heap.size ≤ gb101)); have n3_ := Aside0.mk ((by rw [hg]; exact (below_size (by repeat (first | (with_reducible first | exact HB.out | apply bal | apply bdn | apply bd1) | exact HB.out))) : w.heap.size ≤ gb101)); clear HB; have HB := n0_; have BK101 := n1_; have GW101 := n2_; have GE101 := n3_; clear n0_ n1_ n2_ n3_; clear hb hbox hg) | (go_at_call 10; (with_reducible refine (postriderlaw16_shown.calls  true _ ?side1 A3.out).mono ?_); (case side1 => exact LaidR.below HLD.out (by repeat (first | (with_reducible first | exact HB.out | apply bal | apply bdn | apply bd1 | refine below_set ?_ GE101.out) | exact HB.out))); rintro e w55 ⟨rfl, hb⟩; have n0_ := Aside0.mk (blk_below (g := gb101) (o := .cells #[.int .i64 a1_0, .string a1_1, .string a1_2, .int .i64 a1_3, .int .i64 a1_4] 37 (0, 0)) (by (with_reducible repeat (first | refine blk_drewN ?_ _ | refine blk_drew ?_ | refine blk_alloc ?_ _)); exact BK101.out) hb); have n1_ := Aside0.mk (below_step (by repeat (first | (with_reducible first | exact HB.out | apply bal | apply bdn | apply bd1 | refine below_set ?_ GE101.out) | exact HB.out)) hb); clear BK101; clear HB; have BK101 := n0_; have HB := n1_; clear n0_ n1_; (try clear hb); (try clear hb2); (try clear hk); (try clear hi)) | (go_at_call 17; (with_reducible refine (postriderlaw16_Cut.calls k _ _ l0 t103 _ ?side1 ?side2 A4.out).mono ?_); (case side1 => repeat (first | exact (Kd.C_below HR0.out HB.out) | (with_reducible refine Kd.C_alloc ?_ _) | (with_reducible refine Kd.C_drewN ?_ _) | (with_reducible refine Kd.C_drew ?_))); (case side2 => exact HC0.out); rintro e w56 ⟨v104, rfl, ho0, hb⟩; have n0_ := Aside0.mk (Kd.R_lower ho0 (below_size (by repeat (first | (with_reducible first | exact HB.out | apply bal | apply bdn | apply bd1 | refine below_set ?_ GE101.out) | exact HB.out)))); have n1_ := Aside0.mk (blk_below (g := gb101) (o := .cells #[.int .i64 a1_0, .string a1_1, .string a1_2, .int .i64 a1_3, .int .i64 a1_4] 37 (0, 0)) (by (with_reducible repeat (first | refine blk_drewN ?_ _ | refine blk_drew ?_ | refine blk_alloc ?_ _)); exact BK101.out) hb); have n2_ := Aside0.mk (below_step (by repeat (first | (with_reducible first | exact HB.out | apply bal | apply bdn | apply bd1 | refine below_set ?_ GE101.out) | exact HB.out)) hb); clear BK101; clear HB; have HO105 := n0_; have BK101 := n1_; have HB := n2_; clear n0_ n1_ n2_; (try clear hb); (try clear hb2); (try clear hk); (try clear hi); (try clear ho0); have hcz57_0 : w56.cell? ⟨gb101, 0, none⟩ = some (.int .i64 a1_0) := (blk_cell BK101.out 0).trans rfl; have hcz57_1 : w56.cell? ⟨gb101, 1, none⟩ = some (.string a1_1) := (blk_cell BK101.out 1).trans rfl; have hcz57_2 : w56.cell? ⟨gb101, 2, none⟩ = some (.string a1_2) := (blk_cell BK101.out 2).trans rfl; have hcz57_3 : w56.cell? ⟨gb101, 3, none⟩ = some (.int .i64 a1_3) := (blk_cell BK101.out 3).trans rfl; have hcz57_4 : w56.cell? ⟨gb101, 4, none⟩ = some (.int .i64 a1_4) := (blk_cell BK101.out 4).trans rfl; have hfz57_0 := bfz BK101.out 0; have hfz57_1 := bfz BK101.out 1; have hfz57_2 := bfz BK101.out 2; have hfz57_3 := bfz BK101.out 3; have hfz57_4 := bfz BK101.out 4) | (go_at_call 18; (with_reducible refine (postriderlaw06_Cut.calls a1_0 a1_1 a1_2 a1_3 a1_4 t106 t107 t108 t109 t110 _ A5.out).mono ?_); rintro e w58 ⟨rfl, hb⟩; have n0_ := Aside0.mk (Kd.R_below (by (with_reducible repeat (first | apply Kd.R_alloc | apply Kd.R_drewN | apply Kd.R_drew)); exact HO105.out) hb); have n1_ := Aside0.mk (blk_below (g := gb101) (o := .cells #[.int .i64 a1_0, .string a1_1, .string a1_2, .int .i64 a1_3, .int .i64 a1_4] 37 (0, 0)) (by (with_reducible repeat (first | refine blk_drewN ?_ _ | refine blk_drew ?_ | refine blk_alloc ?_ _)); exact BK101.out) hb); have n2_ := Aside0.mk (below_step (by repeat (first | (with_reducible first | exact HB.out | apply bal | apply bdn | apply bd1 | refine below_set ?_ GE101.out) | exact HB.out)) hb); clear HO105; clear BK101; clear HB; have HO105 := n0_; have BK101 := n1_; have HB := n2_; clear n0_ n1_ n2_; (try clear hb); (try clear hb2); (try clear hk); (try clear hi); have hcz59_0 : w58.cell? ⟨gb101, 0, none⟩ = some (.int .i64 a1_0) := (blk_cell BK101.out 0).trans rfl; have hcz59_1 : w58.cell? ⟨gb101, 1, none⟩ = some (.string a1_1) := (blk_cell BK101.out 1).trans rfl; have hcz59_2 : w58.cell? ⟨gb101, 2, none⟩ = some (.string a1_2) := (blk_cell BK101.out 2).trans rfl; have hcz59_3 : w58.cell? ⟨gb101, 3, none⟩ = some (.int .i64 a1_3) := (blk_cell BK101.out 3).trans rfl; have hcz59_4 : w58.cell? ⟨gb101, 4, none⟩ = some (.int .i64 a1_4) := (blk_cell BK101.out 4).trans rfl; have hfz59_0 := bfz BK101.out 0; have hfz59_1 := bfz BK101.out 1; have hfz59_2 := bfz BK101.out 2; have hfz59_3 := bfz BK101.out 3; have hfz59_4 := bfz BK101.out 4; obtain ⟨Ao60, co60, eo60⟩ := Kd.R_slice HO105.out; subst eo60) | (go_at_call 19; (with_reducible refine (route_Find.calls _ _ t103 t106 t107 t108 t109 t110 t111 false t113 _ ?side1 ?side2 ?side3 A6.out).mono ?_); (case side1 => refine (Kd.R_reads' (e := 35) (base := w.heap.size) (ok := fun k_ => True) (n := t103.length) (c := co60) ?_).2.2; exact (by (with_reducible repeat (first | apply Kd.R_alloc | apply Kd.R_drewN | apply Kd.R_drew)); exact (Kd.R_mono (Kd.R_far (p := ⟨gb101, 4, none⟩) (Kd.R_far (p := ⟨gb101, 3, none⟩) (Kd.R_far (p := ⟨gb101, 2, none⟩) (Kd.R_far (p := ⟨gb101, 1, none⟩) (Kd.R_far (p := ⟨gb101, 0, none⟩) (Kd.R_types HO105.out BK101.out (by decide)) (fun _ hk => hk.2) (.int .i64 t106)) (fun _ hk => hk.2) (.string t107)) (fun _ hk => hk.2) (.string t108)) (fun _ hk => hk.2) (.int .i64 t109)) (fun _ hk => hk.2) (.int .i64 t110)) (fun _ h_ => h_.1)))); (case side2 => exact (Kd.R_reads' HO105.out).2.1); (case side3 => exact LaidR.below HLD.out (by repeat (first | (with_reducible first | exact HB.out | apply bal | apply bdn | apply bd1 | refine below_set ?_ GE101.out) | exact HB.out))); rintro e w61 ⟨rfl, hb⟩; have n0_ := Aside0.mk (Kd.R_below (by (with_reducible repeat (first | apply Kd.R_alloc | apply Kd.R_drewN | apply Kd.R_drew)); exact (Kd.R_mono (Kd.R_far (p := ⟨gb101, 4, none⟩) (Kd.R_far (p := ⟨gb101, 3, none⟩) (Kd.R_far (p := ⟨gb101, 2, none⟩) (Kd.R_far (p := ⟨gb101, 1, none⟩) (Kd.R_far (p := ⟨gb101, 0, none⟩) (Kd.R_types HO105.out BK101.out (by decide)) (fun _ hk => hk.2) (.int .i64 t106)) (fun _ hk => hk.2) (.string t107)) (fun _ hk => hk.2) (.string t108)) (fun _ hk => hk.2) (.int .i64 t109)) (fun _ hk => hk.2) (.int .i64 t110)) (fun _ h_ => h_.1))) hb); have n1_ := Aside0.mk (blk_below (g := gb101) (o := .cells #[.int .i64 t106, .string t107, .string t108, .int .i64 t109, .int .i64 t110] 37 (0, 0)) (by (with_reducible repeat (first | refine blk_drewN ?_ _ | refine blk_drew ?_ | refine blk_alloc ?_ _)); refine blk_put (cs := #[.int .i64 t106, .string t107, .string t108, .int .i64 t109, .int .i64 a1_4]) ?_ 4 _ rfl; (with_reducible repeat (first | refine blk_drewN ?_ _ | refine blk_drew ?_ | refine blk_alloc ?_ _)); refine blk_put (cs := #[.int .i64 t106, .string t107, .string t108, .int .i64 a1_3, .int .i64 a1_4]) ?_ 3 _ rfl; (with_reducible repeat (first | refine blk_drewN ?_ _ | refine blk_drew ?_ | refine blk_alloc ?_ _)); refine blk_put (cs := #[.int .i64 t106, .string t107, .string a1_2, .int .i64 a1_3, .int .i64 a1_4]) ?_ 2 _ rfl; (with_reducible repeat (first | refine blk_drewN ?_ _ | refine blk_drew ?_ | refine blk_alloc ?_ _)); refine blk_put (cs := #[.int .i64 t106, .string a1_1, .string a1_2, .int .i64 a1_3, .int .i64 a1_4]) ?_ 1 _ rfl; (with_reducible repeat (first | refine blk_drewN ?_ _ | refine blk_drew ?_ | refine blk_alloc ?_ _)); refine blk_put (cs := #[.int .i64 a1_0, .string a1_1, .string a1_2, .int .i64 a1_3, .int .i64 a1_4]) ?_ 0 _ rfl; (with_reducible repeat (first | refine blk_drewN ?_ _ | refine blk_drew ?_ | refine blk_alloc ?_ _)); exact BK101.out) hb); have n2_ := Aside0.mk (below_step (by repeat (first | (with_reducible first | exact HB.out | apply bal | apply bdn | apply bd1 | refine below_set ?_ GE101.out) | exact HB.out)) hb); clear HO105; clear BK101; clear HB; have HO105 := n0_; have BK101 := n1_; have HB := n2_; clear n0_ n1_ n2_; (try clear hb); (try clear hb2); (try clear hk); (try clear hi); have hcz62_0 : w61.cell? ⟨gb101, 0, none⟩ = some (.int .i64 t106) := (blk_cell BK101.out 0).trans rfl; have hcz62_1 : w61.cell? ⟨gb101, 1, none⟩ = some (.string t107) := (blk_cell BK101.out 1).trans rfl; have hcz62_2 : w61.cell? ⟨gb101, 2, none⟩ = some (.string t108) := (blk_cell BK101.out 2).trans rfl; have hcz62_3 : w61.cell? ⟨gb101, 3, none⟩ = some (.int .i64 t109) := (blk_cell BK101.out 3).trans rfl; have hcz62_4 : w61.cell? ⟨gb101, 4, none⟩ = some (.int .i64 t110) := (blk_cell BK101.out 4).trans rfl; have hfz62_0 := bfz BK101.out 0; have hfz62_1 := bfz BK101.out 1; have hfz62_2 := bfz BK101.out 2; have hfz62_3 := bfz BK101.out 3; have hfz62_4 := bfz BK101.out 4) | (go_at_call 21; (with_reducible refine (eid_PrintR.calls t106 t107 t108 t109 t110 t114 t115 _ ?side1 A7.out).mono ?_); (case side1 => exact LaidR.below HLD.out (by repeat (first | (with_reducible first | exact HB.out | apply bal | apply bdn | apply bd1 | refine below_set ?_ GE101.out) | exact HB.out))); rintro e w63 ⟨rfl, hb⟩; have n0_ := Aside0.mk (Kd.R_below (by (with_reducible repeat (first | apply Kd.R_alloc | apply Kd.R_drewN | apply Kd.R_drew)); exact HO105.out) hb); have n1_ := Aside0.mk (blk_below (g := gb101) (o := .cells #[.int .i64 t106, .string t107, .string t108, .int .i64 t109, .int .i64 t110] 37 (0, 0)) (by (with_reducible repeat (first | refine blk_drewN ?_ _ | refine blk_drew ?_ | refine blk_alloc ?_ _)); exact BK101.out) hb); have n2_ := Aside0.mk (below_step (by repeat (first | (with_reducible first | exact HB.out | apply bal | apply bdn | apply bd1 | refine below_set ?_ GE101.out) | exact HB.out)) hb); clear HO105; clear BK101; clear HB; have HO105 := n0_; have BK101 := n1_; have HB := n2_; clear n0_ n1_ n2_; (try clear hb); (try clear hb2); (try clear hk); (try clear hi)) | (go_at_call 25; (with_reducible refine (route_Right.calls _ _ t103 true _ ?side1 ?side2 A52.out).mono ?_); (case side1 => repeat (first | exact (Kd.R_reads' HO105.out).2.2 | (with_reducible refine Kd.C_alloc ?_ _) | (with_reducible refine Kd.C_drewN ?_ _) | (with_reducible refine Kd.C_drew ?_))); (case side2 => exact (Kd.R_reads' HO105.out).2.1); rintro e w64 ⟨rfl, hb⟩; have n0_ := Aside0.mk (Kd.R_below (by (with_reducible repeat (first | apply Kd.R_alloc | apply Kd.R_drewN | apply Kd.R_drew)); exact HO105.out) hb); have n1_ := Aside0.mk (blk_below (g := gb101) (o := .cells #[.int .i64 t106, .string t107, .string t108, .int .i64 t109, .int .i64 t110] 37 (0, 0)) (by (with_reducible repeat (first | refine blk_drewN ?_ _ | refine blk_drew ?_ | refine blk_alloc ?_ _)); exact BK101.out) hb); have n2_ := Aside0.mk (below_step (by repeat (first | (with_reducible first | exact HB.out | apply bal | apply bdn | apply bd1 | refine below_set ?_ GE101.out) | exact HB.out)) hb); clear HO105; clear BK101; clear HB; have HO105 := n0_; have BK101 := n1_; have HB := n2_; clear n0_ n1_ n2_; (try clear hb); (try clear hb2); (try clear hk); (try clear hi))); try go_wp2_with (first | ((with_reducible refine gate_dst (N := 3) rfl ?_); (try (refine gate_guard (by rfl) ?_; dsimp only)); refine box_event ?hg (N := 3) ?hd (cs := #[.int .i64 a1_0, .string a1_1, .string a1_2, .int .i64 a1_3, .int .i64 a1_4]) (t := 37) ?hr ?_; (case hd => rfl); (case hg => rfl); (case hr => first | (go_simp; done) | (go_simp; rfl) | (go_simp; simp only [isEmpty_ne, isEmpty_eq]; done) | (go_simp; simp only [isEmpty_ne, isEmpty_eq]; rfl)); intro gb101 hg w54 hbox hb; have n0_ := Aside0.mk (below_step (by repeat (first | (with_reducible first | exact HB.out | apply bal | apply bdn | apply bd1) | exact HB.out)) hb); have n1_ := Aside0.mk (hbox); have n2_ := Aside0.mk ((by rw [hg]; exact (below_size (by repeat (first | (with_reducible first | exact HB.out | apply bal | apply bdn | apply bd1) | exact HB.out))) : w.heap.size ≤ gb101)); have n3_ := Aside0.mk ((by rw [hg]; exact (below_size (by repeat (first | (with_reducible first | exact HB.out | apply bal | apply bdn | apply bd1) | exact HB.out))) : w.heap.size ≤ gb101)); clear HB; have HB := n0_; have BK101 := n1_; have GW101 := n2_; have GE101 := n3_; clear n0_ n1_ n2_ n3_; clear hb hbox hg) | (go_at_call 10; (with_reducible refine (postriderlaw16_shown.calls  true _ ?side1 A3.out).mono ?_); (case side1 => exact LaidR.below HLD.out (by repeat (first | (with_reducible first | exact HB.out | apply bal | apply bdn | apply bd1 | refine below_set ?_ GE101.out) | exact HB.out))); rintro e w55 ⟨rfl, hb⟩; have n0_ := Aside0.mk (blk_below (g := gb101) (o := .cells #[.int .i64 a1_0, .string a1_1, .string a1_2, .int .i64 a1_3, .int .i64 a1_4] 37 (0, 0)) (by (with_reducible repeat (first | refine blk_drewN ?_ _ | refine blk_drew ?_ | refine blk_alloc ?_ _)); exact BK101.out) hb); have n1_ := Aside0.mk (below_step (by repeat (first | (with_reducible first | exact HB.out | apply bal | apply bdn | apply bd1 | refine below_set ?_ GE101.out) | exact HB.out)) hb); clear BK101; clear HB; have BK101 := n0_; have HB := n1_; clear n0_ n1_; (try clear hb); (try clear hb2); (try clear hk); (try clear hi)) | (go_at_call 17; (with_reducible refine (postriderlaw16_Cut.calls k _ _ l0 t103 _ ?side1 ?side2 A4.out).mono ?_); (case side1 => repeat (first | exact (Kd.C_below HR0.out HB.out) | (with_reducible refine Kd.C_alloc ?_ _) | (with_reducible refine Kd.C_drewN ?_ _) | (with_reducible refine Kd.C_drew ?_))); (case side2 => exact HC0.out); rintro e w56 ⟨v104, rfl, ho0, hb⟩; have n0_ := Aside0.mk (Kd.R_lower ho0 (below_size (by repeat (first | (with_reducible first | exact HB.out | apply bal | apply bdn | apply bd1 | refine below_set ?_ GE101.out) | exact HB.out)))); have n1_ := Aside0.mk (blk_below (g := gb101) (o := .cells #[.int .i64 a1_0, .string a1_1, .string a1_2, .int .i64 a1_3, .int .i64 a1_4] 37 (0, 0)) (by (with_reducible repeat (first | refine blk_drewN ?_ _ | refine blk_drew ?_ | refine blk_alloc ?_ _)); exact BK101.out) hb); have n2_ := Aside0.mk (below_step (by repeat (first | (with_reducible first | exact HB.out | apply bal | apply bdn | apply bd1 | refine below_set ?_ GE101.out) | exact HB.out)) hb); clear BK101; clear HB; have HO105 := n0_; have BK101 := n1_; have HB := n2_; clear n0_ n1_ n2_; (try clear hb); (try clear hb2); (try clear hk); (try clear hi); (try clear ho0); have hcz57_0 : w56.cell? ⟨gb101, 0, none⟩ = some (.int .i64 a1_0) := (blk_cell BK101.out 0).trans rfl; have hcz57_1 : w56.cell? ⟨gb101, 1, none⟩ = some (.string a1_1) := (blk_cell BK101.out 1).trans rfl; have hcz57_2 : w56.cell? ⟨gb101, 2, none⟩ = some (.string a1_2) := (blk_cell BK101.out 2).trans rfl; have hcz57_3 : w56.cell? ⟨gb101, 3, none⟩ = some (.int .i64 a1_3) := (blk_cell BK101.out 3).trans rfl; have hcz57_4 : w56.cell? ⟨gb101, 4, none⟩ = some (.int .i64 a1_4) := (blk_cell BK101.out 4).trans rfl; have hfz57_0 := bfz BK101.out 0; have hfz57_1 := bfz BK101.out 1; have hfz57_2 := bfz BK101.out 2; have hfz57_3 := bfz BK101.out 3; have hfz57_4 := bfz BK101.out 4) | (go_at_call 18; (with_reducible refine (postriderlaw06_Cut.calls a1_0 a1_1 a1_2 a1_3 a1_4 t106 t107 t108 t109 t110 _ A5.out).mono ?_); rintro e w58 ⟨rfl, hb⟩; have n0_ := Aside0.mk (Kd.R_below (by (with_reducible repeat (first | apply Kd.R_alloc | apply Kd.R_drewN | apply Kd.R_drew)); exact HO105.out) hb); have n1_ := Aside0.mk (blk_below (g := gb101) (o := .cells #[.int .i64 a1_0, .string a1_1, .string a1_2, .int .i64 a1_3, .int .i64 a1_4] 37 (0, 0)) (by (with_reducible repeat (first | refine blk_drewN ?_ _ | refine blk_drew ?_ | refine blk_alloc ?_ _)); exact BK101.out) hb); have n2_ := Aside0.mk (below_step (by repeat (first | (with_reducible first | exact HB.out | apply bal | apply bdn | apply bd1 | refine below_set ?_ GE101.out) | exact HB.out)) hb); clear HO105; clear BK101; clear HB; have HO105 := n0_; have BK101 := n1_; have HB := n2_; clear n0_ n1_ n2_; (try clear hb); (try clear hb2); (try clear hk); (try clear hi); have hcz59_0 : w58.cell? ⟨gb101, 0, none⟩ = some (.int .i64 a1_0) := (blk_cell BK101.out 0).trans rfl; have hcz59_1 : w58.cell? ⟨gb101, 1, none⟩ = some (.string a1_1) := (blk_cell BK101.out 1).trans rfl; have hcz59_2 : w58.cell? ⟨gb101, 2, none⟩ = some (.string a1_2) := (blk_cell BK101.out 2).trans rfl; have hcz59_3 : w58.cell? ⟨gb101, 3, none⟩ = some (.int .i64 a1_3) := (blk_cell BK101.out 3).trans rfl; have hcz59_4 : w58.cell? ⟨gb101, 4, none⟩ = some (.int .i64 a1_4) := (blk_cell BK101.out 4).trans rfl; have hfz59_0 := bfz BK101.out 0; have hfz59_1 := bfz BK101.out 1; have hfz59_2 := bfz BK101.out 2; have hfz59_3 := bfz BK101.out 3; have hfz59_4 := bfz BK101.out 4; obtain ⟨Ao60, co60, eo60⟩ := Kd.R_slice HO105.out; subst eo60) | (go_at_call 19; (with_reducible refine (route_Find.calls _ _ t103 t106 t107 t108 t109 t110 t111 false t113 _ ?side1 ?side2 ?side3 A6.out).mono ?_); (case side1 => refine (Kd.R_reads' (e := 35) (base := w.heap.size) (ok := fun k_ => True) (n := t103.length) (c := co60) ?_).2.2; exact (by (with_reducible repeat (first | apply Kd.R_alloc | apply Kd.R_drewN | apply Kd.R_drew)); exact (Kd.R_mono (Kd.R_far (p := ⟨gb101, 4, none⟩) (Kd.R_far (p := ⟨gb101, 3, none⟩) (Kd.R_far (p := ⟨gb101, 2, none⟩) (Kd.R_far (p := ⟨gb101, 1, none⟩) (Kd.R_far (p := ⟨gb101, 0, none⟩) (Kd.R_types HO105.out BK101.out (by decide)) (fun _ hk => hk.2) (.int .i64 t106)) (fun _ hk => hk.2) (.string t107)) (fun _ hk => hk.2) (.string t108)) (fun _ hk => hk.2) (.int .i64 t109)) (fun _ hk => hk.2) (.int .i64 t110)) (fun _ h_ => h_.1)))); (case side2 => exact (Kd.R_reads' HO105.out).2.1); (case side3 => exact LaidR.below HLD.out (by repeat (first | (with_reducible first | exact HB.out | apply bal | apply bdn | apply bd1 | refine below_set ?_ GE101.out) | exact HB.out))); rintro e w61 ⟨rfl, hb⟩; have n0_ := Aside0.mk (Kd.R_below (by (with_reducible repeat (first | apply Kd.R_alloc | apply Kd.R_drewN | apply Kd.R_drew)); exact (Kd.R_mono (Kd.R_far (p := ⟨gb101, 4, none⟩) (Kd.R_far (p := ⟨gb101, 3, none⟩) (Kd.R_far (p := ⟨gb101, 2, none⟩) (Kd.R_far (p := ⟨gb101, 1, none⟩) (Kd.R_far (p := ⟨gb101, 0, none⟩) (Kd.R_types HO105.out BK101.out (by decide)) (fun _ hk => hk.2) (.int .i64 t106)) (fun _ hk => hk.2) (.string t107)) (fun _ hk => hk.2) (.string t108)) (fun _ hk => hk.2) (.int .i64 t109)) (fun _ hk => hk.2) (.int .i64 t110)) (fun _ h_ => h_.1))) hb); have n1_ := Aside0.mk (blk_below (g := gb101) (o := .cells #[.int .i64 t106, .string t107, .string t108, .int .i64 t109, .int .i64 t110] 37 (0, 0)) (by (with_reducible repeat (first | refine blk_drewN ?_ _ | refine blk_drew ?_ | refine blk_alloc ?_ _)); refine blk_put (cs := #[.int .i64 t106, .string t107, .string t108, .int .i64 t109, .int .i64 a1_4]) ?_ 4 _ rfl; (with_reducible repeat (first | refine blk_drewN ?_ _ | refine blk_drew ?_ | refine blk_alloc ?_ _)); refine blk_put (cs := #[.int .i64 t106, .string t107, .string t108, .int .i64 a1_3, .int .i64 a1_4]) ?_ 3 _ rfl; (with_reducible repeat (first | refine blk_drewN ?_ _ | refine blk_drew ?_ | refine blk_alloc ?_ _)); refine blk_put (cs := #[.int .i64 t106, .string t107, .string a1_2, .int .i64 a1_3, .int .i64 a1_4]) ?_ 2 _ rfl; (with_reducible repeat (first | refine blk_drewN ?_ _ | refine blk_drew ?_ | refine blk_alloc ?_ _)); refine blk_put (cs := #[.int .i64 t106, .string a1_1, .string a1_2, .int .i64 a1_3, .int .i64 a1_4]) ?_ 1 _ rfl; (with_reducible repeat (first | refine blk_drewN ?_ _ | refine blk_drew ?_ | refine blk_alloc ?_ _)); refine blk_put (cs := #[.int .i64 a1_0, .string a1_1, .string a1_2, .int .i64 a1_3, .int .i64 a1_4]) ?_ 0 _ rfl; (with_reducible repeat (first | refine blk_drewN ?_ _ | refine blk_drew ?_ | refine blk_alloc ?_ _)); exact BK101.out) hb); have n2_ := Aside0.mk (below_step (by repeat (first | (with_reducible first | exact HB.out | apply bal | apply bdn | apply bd1 | refine below_set ?_ GE101.out) | exact HB.out)) hb); clear HO105; clear BK101; clear HB; have HO105 := n0_; have BK101 := n1_; have HB := n2_; clear n0_ n1_ n2_; (try clear hb); (try clear hb2); (try clear hk); (try clear hi); have hcz62_0 : w61.cell? ⟨gb101, 0, none⟩ = some (.int .i64 t106) := (blk_cell BK101.out 0).trans rfl; have hcz62_1 : w61.cell? ⟨gb101, 1, none⟩ = some (.string t107) := (blk_cell BK101.out 1).trans rfl; have hcz62_2 : w61.cell? ⟨gb101, 2, none⟩ = some (.string t108) := (blk_cell BK101.out 2).trans rfl; have hcz62_3 : w61.cell? ⟨gb101, 3, none⟩ = some (.int .i64 t109) := (blk_cell BK101.out 3).trans rfl; have hcz62_4 : w61.cell? ⟨gb101, 4, none⟩ = some (.int .i64 t110) := (blk_cell BK101.out 4).trans rfl; have hfz62_0 := bfz BK101.out 0; have hfz62_1 := bfz BK101.out 1; have hfz62_2 := bfz BK101.out 2; have hfz62_3 := bfz BK101.out 3; have hfz62_4 := bfz BK101.out 4) | (go_at_call 21; (with_reducible refine (eid_PrintR.calls t106 t107 t108 t109 t110 t114 t115 _ ?side1 A7.out).mono ?_); (case side1 => exact LaidR.below HLD.out (by repeat (first | (with_reducible first | exact HB.out | apply bal | apply bdn | apply bd1 | refine below_set ?_ GE101.out) | exact HB.out))); rintro e w63 ⟨rfl, hb⟩; have n0_ := Aside0.mk (Kd.R_below (by (with_reducible repeat (first | apply Kd.R_alloc | apply Kd.R_drewN | apply Kd.R_drew)); exact HO105.out) hb); have n1_ := Aside0.mk (blk_below (g := gb101) (o := .cells #[.int .i64 t106, .string t107, .string t108, .int .i64 t109, .int .i64 t110] 37 (0, 0)) (by (with_reducible repeat (first | refine blk_drewN ?_ _ | refine blk_drew ?_ | refine blk_alloc ?_ _)); exact BK101.out) hb); have n2_ := Aside0.mk (below_step (by repeat (first | (with_reducible first | exact HB.out | apply bal | apply bdn | apply bd1 | refine below_set ?_ GE101.out) | exact HB.out)) hb); clear HO105; clear BK101; clear HB; have HO105 := n0_; have BK101 := n1_; have HB := n2_; clear n0_ n1_ n2_; (try clear hb); (try clear hb2); (try clear hk); (try clear hi)) | (go_at_call 25; (with_reducible refine (route_Right.calls _ _ t103 true _ ?side1 ?side2 A52.out).mono ?_); (case side1 => repeat (first | exact (Kd.R_reads' HO105.out).2.2 | (with_reducible refine Kd.C_alloc ?_ _) | (with_reducible refine Kd.C_drewN ?_ _) | (with_reducible refine Kd.C_drew ?_))); (case side2 => exact (Kd.R_reads' HO105.out).2.1); rintro e w64 ⟨rfl, hb⟩; have n0_ := Aside0.mk (Kd.R_below (by (with_reducible repeat (first | apply Kd.R_alloc | apply Kd.R_drewN | apply Kd.R_drew)); exact HO105.out) hb); have n1_ := Aside0.mk (blk_below (g := gb101) (o := .cells #[.int .i64 t106, .string t107, .string t108, .int .i64 t109, .int .i64 t110] 37 (0, 0)) (by (with_reducible repeat (first | refine blk_drewN ?_ _ | refine blk_drew ?_ | refine blk_alloc ?_ _)); exact BK101.out) hb); have n2_ := Aside0.mk (below_step (by repeat (first | (with_reducible first | exact HB.out | apply bal | apply bdn | apply bd1 | refine below_set ?_ GE101.out) | exact HB.out)) hb); clear HO105; clear BK101; clear HB; have HO105 := n0_; have BK101 := n1_; have HB := n2_; clear n0_ n1_ n2_; (try clear hb); (try clear hb2); (try clear hk); (try clear hi))))
            all_goals (first | (go_ret; exact ⟨by first | rfl | (simp [errW_none, errW_some] <;> rfl) | (simp [*, errW_none, errW_some] <;> rfl) | (simp_all; done) | fail, by repeat (first | (with_reducible first | exact HB.out | apply bal | apply bdn | apply bd1 | refine below_set ?_ GE101.out) | exact HB.out)⟩) | (exfalso; simp_all; done) | (exfalso; simp only [isEmpty_eq, isEmpty_ne] at *; simp_all; done) | (exfalso; exact isEmpty_clash (by assumption) (by assumption)) | (exfalso; exact isEmpty_clash' (by assumption) (by assumption)) | (exfalso; exact isEmpty_clash2 (by assumption) (by assumption)) | (exfalso; simp only [decide_eq_true_eq, decide_eq_false_iff_not] at *; omega))
          · replace c53 := Bool.eq_false_iff.mpr c53
            subst c53
            have H1 : (some true) = some r := by rw [if_neg (show ¬ (false = true) by decide)] at H; exact H
            clear H
            have H := H1
            clear H1
            obtain rfl := Option.some.inj H
            go_enter Tryz.func9, Tryz.ntmps9
            go_wp2_with (first | ((with_reducible refine gate_dst (N := 3) rfl ?_); (try (refine gate_guard (by rfl) ?_; dsimp only)); refine box_event ?hg (N := 3) ?hd (cs := #[.int .i64 a1_0, .string a1_1, .string a1_2, .int .i64 a1_3, .int .i64 a1_4]) (t := 37) ?hr ?_; (case hd => rfl); (case hg => rfl); (case hr => first | (go_simp; done) | (go_simp; rfl) | (go_simp; simp only [isEmpty_ne, isEmpty_eq]; done) | (go_simp; simp only [isEmpty_ne, isEmpty_eq]; rfl)); intro gb101 hg w65 hbox hb; have n0_ := Aside0.mk (below_step (by repeat (first | (with_reducible first | exact HB.out | apply bal | apply bdn | apply bd1) | exact HB.out)) hb); have n1_ := Aside0.mk (hbox); have n2_ := Aside0.mk ((by rw [hg]; exact (below_size (by repeat (first | (with_reducible first | exact HB.out | apply bal | apply bdn | apply bd1) | exact HB.out))) : w.heap.size ≤ gb101)); have n3_ := Aside0.mk ((by rw [hg]; exact (below_size (by repeat (first | (with_reducible first | exact HB.out | apply bal | apply bdn | apply bd1) | exact HB.out))) : w.heap.size ≤ gb101)); clear HB; have HB := n0_; have BK101 := n1_; have GW101 := n2_; have GE101 := n3_; clear n0_ n1_ n2_ n3_; clear hb hbox hg) | (go_at_call 10; (with_reducible refine (postriderlaw16_shown.calls  true _ ?side1 A3.out).mono ?_); (case side1 => exact LaidR.below HLD.out (by repeat (first | (with_reducible first | exact HB.out | apply bal | apply bdn | apply bd1 | refine below_set ?_ GE101.out) | exact HB.out))); rintro e w66 ⟨rfl, hb⟩; have n0_ := Aside0.mk (blk_below (g := gb101) (o := .cells #[.int .i64 a1_0, .string a1_1, .string a1_2, .int .i64 a1_3, .int .i64 a1_4] 37 (0, 0)) (by (with_reducible repeat (first | refine blk_drewN ?_ _ | refine blk_drew ?_ | refine blk_alloc ?_ _)); exact BK101.out) hb); have n1_ := Aside0.mk (below_step (by repeat (first | (with_reducible first | exact HB.out | apply bal | apply bdn | apply bd1 | refine below_set ?_ GE101.out) | exact HB.out)) hb); clear BK101; clear HB; have BK101 := n0_; have HB := n1_; clear n0_ n1_; (try clear hb); (try clear hb2); (try clear hk); (try clear hi)) | (go_at_call 17; (with_reducible refine (postriderlaw16_Cut.calls k _ _ l0 t103 _ ?side1 ?side2 A4.out).mono ?_); (case side1 => repeat (first | exact (Kd.C_below HR0.out HB.out) | (with_reducible refine Kd.C_alloc ?_ _) | (with_reducible refine Kd.C_drewN ?_ _) | (with_reducible refine Kd.C_drew ?_))); (case side2 => exact HC0.out); rintro e w67 ⟨v104, rfl, ho0, hb⟩; have n0_ := Aside0.mk (Kd.R_lower ho0 (below_size (by repeat (first | (with_reducible first | exact HB.out | apply bal | apply bdn | apply bd1 | refine below_set ?_ GE101.out) | exact HB.out)))); have n1_ := Aside0.mk (blk_below (g := gb101) (o := .cells #[.int .i64 a1_0, .string a1_1, .string a1_2, .int .i64 a1_3, .int .i64 a1_4] 37 (0, 0)) (by (with_reducible repeat (first | refine blk_drewN ?_ _ | refine blk_drew ?_ | refine blk_alloc ?_ _)); exact BK101.out) hb); have n2_ := Aside0.mk (below_step (by repeat (first | (with_reducible first | exact HB.out | apply bal | apply bdn | apply bd1 | refine below_set ?_ GE101.out) | exact HB.out)) hb); clear BK101; clear HB; have HO105 := n0_; have BK101 := n1_; have HB := n2_; clear n0_ n1_ n2_; (try clear hb); (try clear hb2); (try clear hk); (try clear hi); (try clear ho0); have hcz68_0 : w67.cell? ⟨gb101, 0, none⟩ = some (.int .i64 a1_0) := (blk_cell BK101.out 0).trans rfl; have hcz68_1 : w67.cell? ⟨gb101, 1, none⟩ = some (.string a1_1) := (blk_cell BK101.out 1).trans rfl; have hcz68_2 : w67.cell? ⟨gb101, 2, none⟩ = some (.string a1_2) := (blk_cell BK101.out 2).trans rfl; have hcz68_3 : w67.cell? ⟨gb101, 3, none⟩ = some (.int .i64 a1_3) := (blk_cell BK101.out 3).trans rfl; have hcz68_4 : w67.cell? ⟨gb101, 4, none⟩ = some (.int .i64 a1_4) := (blk_cell BK101.out 4).trans rfl; have hfz68_0 := bfz BK101.out 0; have hfz68_1 := bfz BK101.out 1; have hfz68_2 := bfz BK101.out 2; have hfz68_3 := bfz BK101.out 3; have hfz68_4 := bfz BK101.out 4) | (go_at_call 18; (with_reducible refine (postriderlaw06_Cut.calls a1_0 a1_1 a1_2 a1_3 a1_4 t106 t107 t108 t109 t110 _ A5.out).mono ?_); rintro e w69 ⟨rfl, hb⟩; have n0_ := Aside0.mk (Kd.R_below (by (with_reducible repeat (first | apply Kd.R_alloc | apply Kd.R_drewN | apply Kd.R_drew)); exact HO105.out) hb); have n1_ := Aside0.mk (blk_below (g := gb101) (o := .cells #[.int .i64 a1_0, .string a1_1, .string a1_2, .int .i64 a1_3, .int .i64 a1_4] 37 (0, 0)) (by (with_reducible repeat (first | refine blk_drewN ?_ _ | refine blk_drew ?_ | refine blk_alloc ?_ _)); exact BK101.out) hb); have n2_ := Aside0.mk (below_step (by repeat (first | (with_reducible first | exact HB.out | apply bal | apply bdn | apply bd1 | refine below_set ?_ GE101.out) | exact HB.out)) hb); clear HO105; clear BK101; clear HB; have HO105 := n0_; have BK101 := n1_; have HB := n2_; clear n0_ n1_ n2_; (try clear hb); (try clear hb2); (try clear hk); (try clear hi); have hcz70_0 : w69.cell? ⟨gb101, 0, none⟩ = some (.int .i64 a1_0) := (blk_cell BK101.out 0).trans rfl; have hcz70_1 : w69.cell? ⟨gb101, 1, none⟩ = some (.string a1_1) := (blk_cell BK101.out 1).trans rfl; have hcz70_2 : w69.cell? ⟨gb101, 2, none⟩ = some (.string a1_2) := (blk_cell BK101.out 2).trans rfl; have hcz70_3 : w69.cell? ⟨gb101, 3, none⟩ = some (.int .i64 a1_3) := (blk_cell BK101.out 3).trans rfl; have hcz70_4 : w69.cell? ⟨gb101, 4, none⟩ = some (.int .i64 a1_4) := (blk_cell BK101.out 4).trans rfl; have hfz70_0 := bfz BK101.out 0; have hfz70_1 := bfz BK101.out 1; have hfz70_2 := bfz BK101.out 2; have hfz70_3 := bfz BK101.out 3; have hfz70_4 := bfz BK101.out 4; obtain ⟨Ao71, co71, eo71⟩ := Kd.R_slice HO105.out; subst eo71) | (go_at_call 19; (with_reducible refine (route_Find.calls _ _ t103 t106 t107 t108 t109 t110 t111 false t113 _ ?side1 ?side2 ?side3 A6.out).mono ?_); (case side1 => refine (Kd.R_reads' (e := 35) (base := w.heap.size) (ok := fun k_ => True) (n := t103.length) (c := co71) ?_).2.2; exact (by (with_reducible repeat (first | apply Kd.R_alloc | apply Kd.R_drewN | apply Kd.R_drew)); exact (Kd.R_mono (Kd.R_far (p := ⟨gb101, 4, none⟩) (Kd.R_far (p := ⟨gb101, 3, none⟩) (Kd.R_far (p := ⟨gb101, 2, none⟩) (Kd.R_far (p := ⟨gb101, 1, none⟩) (Kd.R_far (p := ⟨gb101, 0, none⟩) (Kd.R_types HO105.out BK101.out (by decide)) (fun _ hk => hk.2) (.int .i64 t106)) (fun _ hk => hk.2) (.string t107)) (fun _ hk => hk.2) (.string t108)) (fun _ hk => hk.2) (.int .i64 t109)) (fun _ hk => hk.2) (.int .i64 t110)) (fun _ h_ => h_.1)))); (case side2 => exact (Kd.R_reads' HO105.out).2.1); (case side3 => exact LaidR.below HLD.out (by repeat (first | (with_reducible first | exact HB.out | apply bal | apply bdn | apply bd1 | refine below_set ?_ GE101.out) | exact HB.out))); rintro e w72 ⟨rfl, hb⟩; have n0_ := Aside0.mk (Kd.R_below (by (with_reducible repeat (first | apply Kd.R_alloc | apply Kd.R_drewN | apply Kd.R_drew)); exact (Kd.R_mono (Kd.R_far (p := ⟨gb101, 4, none⟩) (Kd.R_far (p := ⟨gb101, 3, none⟩) (Kd.R_far (p := ⟨gb101, 2, none⟩) (Kd.R_far (p := ⟨gb101, 1, none⟩) (Kd.R_far (p := ⟨gb101, 0, none⟩) (Kd.R_types HO105.out BK101.out (by decide)) (fun _ hk => hk.2) (.int .i64 t106)) (fun _ hk => hk.2) (.string t107)) (fun _ hk => hk.2) (.string t108)) (fun _ hk => hk.2) (.int .i64 t109)) (fun _ hk => hk.2) (.int .i64 t110)) (fun _ h_ => h_.1))) hb); have n1_ := Aside0.mk (blk_below (g := gb101) (o := .cells #[.int .i64 t106, .string t107, .string t108, .int .i64 t109, .int .i64 t110] 37 (0, 0)) (by (with_reducible repeat (first | refine blk_drewN ?_ _ | refine blk_drew ?_ | refine blk_alloc ?_ _)); refine blk_put (cs := #[.int .i64 t106, .string t107, .string t108, .int .i64 t109, .int .i64 a1_4]) ?_ 4 _ rfl; (with_reducible repeat (first | refine blk_drewN ?_ _ | refine blk_drew ?_ | refine blk_alloc ?_ _)); refine blk_put (cs := #[.int .i64 t106, .string t107, .string t108, .int .i64 a1_3, .int .i64 a1_4]) ?_ 3 _ rfl; (with_reducible repeat (first | refine blk_drewN ?_ _ | refine blk_drew ?_ | refine blk_alloc ?_ _)); refine blk_put (cs := #[.int .i64 t106, .string t107, .string a1_2, .int .i64 a1_3, .int .i64 a1_4]) ?_ 2 _ rfl; (with_reducible repeat (first | refine blk_drewN ?_ _ | refine blk_drew ?_ | refine blk_alloc ?_ _)); refine blk_put (cs := #[.int .i64 t106, .string a1_1, .string a1_2, .int .i64 a1_3, .int .i64 a1_4]) ?_ 1 _ rfl; (with_reducible repeat (first | refine blk_drewN ?_ _ | refine blk_drew ?_ | refine blk_alloc ?_ _)); refine blk_put (cs := #[.int .i64 a1_0, .string a1_1, .string a1_2, .int .i64 a1_3, .int .i64 a1_4]) ?_ 0 _ rfl; (with_reducible repeat (first | refine blk_drewN ?_ _ | refine blk_drew ?_ | refine blk_alloc ?_ _)); exact BK101.out) hb); have n2_ := Aside0.mk (below_step (by repeat (first | (with_reducible first | exact HB.out | apply bal | apply bdn | apply bd1 | refine below_set ?_ GE101.out) | exact HB.out)) hb); clear HO105; clear BK101; clear HB; have HO105 := n0_; have BK101 := n1_; have HB := n2_; clear n0_ n1_ n2_; (try clear hb); (try clear hb2); (try clear hk); (try clear hi); have hcz73_0 : w72.cell? ⟨gb101, 0, none⟩ = some (.int .i64 t106) := (blk_cell BK101.out 0).trans rfl; have hcz73_1 : w72.cell? ⟨gb101, 1, none⟩ = some (.string t107) := (blk_cell BK101.out 1).trans rfl; have hcz73_2 : w72.cell? ⟨gb101, 2, none⟩ = some (.string t108) := (blk_cell BK101.out 2).trans rfl; have hcz73_3 : w72.cell? ⟨gb101, 3, none⟩ = some (.int .i64 t109) := (blk_cell BK101.out 3).trans rfl; have hcz73_4 : w72.cell? ⟨gb101, 4, none⟩ = some (.int .i64 t110) := (blk_cell BK101.out 4).trans rfl; have hfz73_0 := bfz BK101.out 0; have hfz73_1 := bfz BK101.out 1; have hfz73_2 := bfz BK101.out 2; have hfz73_3 := bfz BK101.out 3; have hfz73_4 := bfz BK101.out 4) | (go_at_call 21; (with_reducible refine (eid_PrintR.calls t106 t107 t108 t109 t110 t114 t115 _ ?side1 A7.out).mono ?_); (case side1 => exact LaidR.below HLD.out (by repeat (first | (with_reducible first | exact HB.out | apply bal | apply bdn | apply bd1 | refine below_set ?_ GE101.out) | exact HB.out))); rintro e w74 ⟨rfl, hb⟩; have n0_ := Aside0.mk (Kd.R_below (by (with_reducible repeat (first | apply Kd.R_alloc | apply Kd.R_drewN | apply Kd.R_drew)); exact HO105.out) hb); have n1_ := Aside0.mk (blk_below (g := gb101) (o := .cells #[.int .i64 t106, .string t107, .string t108, .int .i64 t109, .int .i64 t110] 37 (0, 0)) (by (with_reducible repeat (first | refine blk_drewN ?_ _ | refine blk_drew ?_ | refine blk_alloc ?_ _)); exact BK101.out) hb); have n2_ := Aside0.mk (below_step (by repeat (first | (with_reducible first | exact HB.out | apply bal | apply bdn | apply bd1 | refine below_set ?_ GE101.out) | exact HB.out)) hb); clear HO105; clear BK101; clear HB; have HO105 := n0_; have BK101 := n1_; have HB := n2_; clear n0_ n1_ n2_; (try clear hb); (try clear hb2); (try clear hk); (try clear hi)) | (go_at_call 25; (with_reducible refine (route_Right.calls _ _ t103 false _ ?side1 ?side2 A52.out).mono ?_); (case side1 => repeat (first | exact (Kd.R_reads' HO105.out).2.2 | (with_reducible refine Kd.C_alloc ?_ _) | (with_reducible refine Kd.C_drewN ?_ _) | (with_reducible refine Kd.C_drew ?_))); (case side2 => exact (Kd.R_reads' HO105.out).2.1); rintro e w75 ⟨rfl, hb⟩; have n0_ := Aside0.mk (Kd.R_below (by (with_reducible repeat (first | apply Kd.R_alloc | apply Kd.R_drewN | apply Kd.R_drew)); exact HO105.out) hb); have n1_ := Aside0.mk (blk_below (g := gb101) (o := .cells #[.int .i64 t106, .string t107, .string t108, .int .i64 t109, .int .i64 t110] 37 (0, 0)) (by (with_reducible repeat (first | refine blk_drewN ?_ _ | refine blk_drew ?_ | refine blk_alloc ?_ _)); exact BK101.out) hb); have n2_ := Aside0.mk (below_step (by repeat (first | (with_reducible first | exact HB.out | apply bal | apply bdn | apply bd1 | refine below_set ?_ GE101.out) | exact HB.out)) hb); clear HO105; clear BK101; clear HB; have HO105 := n0_; have BK101 := n1_; have HB := n2_; clear n0_ n1_ n2_; (try clear hb); (try clear hb2); (try clear hk); (try clear hi)))
            repeat (go_quiet (first | ((with_reducible refine gate_dst (N := 3) rfl ?_); (try (refine gate_guard (by rfl) ?_; dsimp only)); refine box_event ?hg (N := 3) ?hd (cs := #[.int .i64 a1_0, .string a1_1, .string a1_2, .int .i64 a1_3, .int .i64 a1_4]) (t := 37) ?hr ?_; (case hd => rfl); (case hg => rfl); (case hr => first | (go_simp; done) | (go_simp; rfl) | (go_simp; simp only [isEmpty_ne, isEmpty_eq]; done) | (go_simp; simp only [isEmpty_ne, isEmpty_eq]; rfl)); intro gb101 hg w65 hbox hb; have n0_ := Aside0.mk (below_step (by repeat (first | (with_reducible first | exact HB.out | apply bal | apply bdn | apply bd1) | exact HB.out)) hb); have n1_ := Aside0.mk (hbox); have n2_ := Aside0.mk ((by rw [hg]; exact (below_size (by repeat (first | (with_reducible first | exact HB.out | apply bal | apply bdn | apply bd1) | exact HB.out))) : w.heap.size ≤ gb101)); have n3_ := Aside0.mk ((by rw [hg]; exact (below_size (by repeat (first | (with_reducible first | exact HB.out | apply bal | apply bdn | apply bd1) | exact HB.out))) : w.heap.size ≤ gb101)); clear HB; have HB := n0_; have BK101 := n1_; have GW101 := n2_; have GE101 := n3_; clear n0_ n1_ n2_ n3_; clear hb hbox hg) | (go_at_call 10; (with_reducible refine (postriderlaw16_shown.calls  true _ ?side1 A3.out).mono ?_); (case side1 => exact LaidR.below HLD.out (by repeat (first | (with_reducible first | exact HB.out | apply bal | apply bdn | apply bd1 | refine below_set ?_ GE101.out) | exact HB.out))); rintro e w66 ⟨rfl, hb⟩; have n0_ := Aside0.mk (blk_below (g := gb101) (o := .cells #[.int .i64 a1_0, .string a1_1, .string a1_2, .int .i64 a1_3, .int .i64 a1_4] 37 (0, 0)) (by (with_reducible repeat (first | refine blk_drewN ?_ _ | refine blk_drew ?_ | refine blk_alloc ?_ _)); exact BK101.out) hb); have n1_ := Aside0.mk (below_step (by repeat (first | (with_reducible first | exact HB.out | apply bal | apply bdn | apply bd1 | refine below_set ?_ GE101.out) | exact HB.out)) hb); clear BK101; clear HB; have BK101 := n0_; have HB := n1_; clear n0_ n1_; (try clear hb); (try clear hb2); (try clear hk); (try clear hi)) | (go_at_call 17; (with_reducible refine (postriderlaw16_Cut.calls k _ _ l0 t103 _ ?side1 ?side2 A4.out).mono ?_); (case side1 => repeat (first | exact (Kd.C_below HR0.out HB.out) | (with_reducible refine Kd.C_alloc ?_ _) | (with_reducible refine Kd.C_drewN ?_ _) | (with_reducible refine Kd.C_drew ?_))); (case side2 => exact HC0.out); rintro e w67 ⟨v104, rfl, ho0, hb⟩; have n0_ := Aside0.mk (Kd.R_lower ho0 (below_size (by repeat (first | (with_reducible first | exact HB.out | apply bal | apply bdn | apply bd1 | refine below_set ?_ GE101.out) | exact HB.out)))); have n1_ := Aside0.mk (blk_below (g := gb101) (o := .cells #[.int .i64 a1_0, .string a1_1, .string a1_2, .int .i64 a1_3, .int .i64 a1_4] 37 (0, 0)) (by (with_reducible repeat (first | refine blk_drewN ?_ _ | refine blk_drew ?_ | refine blk_alloc ?_ _)); exact BK101.out) hb); have n2_ := Aside0.mk (below_step (by repeat (first | (with_reducible first | exact HB.out | apply bal | apply bdn | apply bd1 | refine below_set ?_ GE101.out) | exact HB.out)) hb); clear BK101; clear HB; have HO105 := n0_; have BK101 := n1_; have HB := n2_; clear n0_ n1_ n2_; (try clear hb); (try clear hb2); (try clear hk); (try clear hi); (try clear ho0); have hcz68_0 : w67.cell? ⟨gb101, 0, none⟩ = some (.int .i64 a1_0) := (blk_cell BK101.out 0).trans rfl; have hcz68_1 : w67.cell? ⟨gb101, 1, none⟩ = some (.string a1_1) := (blk_cell BK101.out 1).trans rfl; have hcz68_2 : w67.cell? ⟨gb101, 2, none⟩ = some (.string a1_2) := (blk_cell BK101.out 2).trans rfl; have hcz68_3 : w67.cell? ⟨gb101, 3, none⟩ = some (.int .i64 a1_3) := (blk_cell BK101.out 3).trans rfl; have hcz68_4 : w67.cell? ⟨gb101, 4, none⟩ = some (.int .i64 a1_4) := (blk_cell BK101.out 4).trans rfl; have hfz68_0 := bfz BK101.out 0; have hfz68_1 := bfz BK101.out 1; have hfz68_2 := bfz BK101.out 2; have hfz68_3 := bfz BK101.out 3; have hfz68_4 := bfz BK101.out 4) | (go_at_call 18; (with_reducible refine (postriderlaw06_Cut.calls a1_0 a1_1 a1_2 a1_3 a1_4 t106 t107 t108 t109 t110 _ A5.out).mono ?_); rintro e w69 ⟨rfl, hb⟩; have n0_ := Aside0.mk (Kd.R_below (by (with_reducible repeat (first | apply Kd.R_alloc | apply Kd.R_drewN | apply Kd.R_drew)); exact HO105.out) hb); have n1_ := Aside0.mk (blk_below (g := gb101) (o := .cells #[.int .i64 a1_0, .string a1_1, .string a1_2, .int .i64 a1_3, .int .i64 a1_4] 37 (0, 0)) (by (with_reducible repeat (first | refine blk_drewN ?_ _ | refine blk_drew ?_ | refine blk_alloc ?_ _)); exact BK101.out) hb); have n2_ := Aside0.mk (below_step (by repeat (first | (with_reducible first | exact HB.out | apply bal | apply bdn | apply bd1 | refine below_set ?_ GE101.out) | exact HB.out)) hb); clear HO105; clear BK101; clear HB; have HO105 := n0_; have BK101 := n1_; have HB := n2_; clear n0_ n1_ n2_; (try clear hb); (try clear hb2); (try clear hk); (try clear hi); have hcz70_0 : w69.cell? ⟨gb101, 0, none⟩ = some (.int .i64 a1_0) := (blk_cell BK101.out 0).trans rfl; have hcz70_1 : w69.cell? ⟨gb101, 1, none⟩ = some (.string a1_1) := (blk_cell BK101.out 1).trans rfl; have hcz70_2 : w69.cell? ⟨gb101, 2, none⟩ = some (.string a1_2) := (blk_cell BK101.out 2).trans rfl; have hcz70_3 : w69.cell? ⟨gb101, 3, none⟩ = some (.int .i64 a1_3) := (blk_cell BK101.out 3).trans rfl; have hcz70_4 : w69.cell? ⟨gb101, 4, none⟩ = some (.int .i64 a1_4) := (blk_cell BK101.out 4).trans rfl; have hfz70_0 := bfz BK101.out 0; have hfz70_1 := bfz BK101.out 1; have hfz70_2 := bfz BK101.out 2; have hfz70_3 := bfz BK101.out 3; have hfz70_4 := bfz BK101.out 4; obtain ⟨Ao71, co71, eo71⟩ := Kd.R_slice HO105.out; subst eo71) | (go_at_call 19; (with_reducible refine (route_Find.calls _ _ t103 t106 t107 t108 t109 t110 t111 false t113 _ ?side1 ?side2 ?side3 A6.out).mono ?_); (case side1 => refine (Kd.R_reads' (e := 35) (base := w.heap.size) (ok := fun k_ => True) (n := t103.length) (c := co71) ?_).2.2; exact (by (with_reducible repeat (first | apply Kd.R_alloc | apply Kd.R_drewN | apply Kd.R_drew)); exact (Kd.R_mono (Kd.R_far (p := ⟨gb101, 4, none⟩) (Kd.R_far (p := ⟨gb101, 3, none⟩) (Kd.R_far (p := ⟨gb101, 2, none⟩) (Kd.R_far (p := ⟨gb101, 1, none⟩) (Kd.R_far (p := ⟨gb101, 0, none⟩) (Kd.R_types HO105.out BK101.out (by decide)) (fun _ hk => hk.2) (.int .i64 t106)) (fun _ hk => hk.2) (.string t107)) (fun _ hk => hk.2) (.string t108)) (fun _ hk => hk.2) (.int .i64 t109)) (fun _ hk => hk.2) (.int .i64 t110)) (fun _ h_ => h_.1)))); (case side2 => exact (Kd.R_reads' HO105.out).2.1); (case side3 => exact LaidR.below HLD.out (by repeat (first | (with_reducible first | exact HB.out | apply bal | apply bdn | apply bd1 | refine below_set ?_ GE101.out) | exact HB.out))); rintro e w72 ⟨rfl, hb⟩; have n0_ := Aside0.mk (Kd.R_below (by (with_reducible repeat (first | apply Kd.R_alloc | apply Kd.R_drewN | apply Kd.R_drew)); exact (Kd.R_mono (Kd.R_far (p := ⟨gb101, 4, none⟩) (Kd.R_far (p := ⟨gb101, 3, none⟩) (Kd.R_far (p := ⟨gb101, 2, none⟩) (Kd.R_far (p := ⟨gb101, 1, none⟩) (Kd.R_far (p := ⟨gb101, 0, none⟩) (Kd.R_types HO105.out BK101.out (by decide)) (fun _ hk => hk.2) (.int .i64 t106)) (fun _ hk => hk.2) (.string t107)) (fun _ hk => hk.2) (.string t108)) (fun _ hk => hk.2) (.int .i64 t109)) (fun _ hk => hk.2) (.int .i64 t110)) (fun _ h_ => h_.1))) hb); have n1_ := Aside0.mk (blk_below (g := gb101) (o := .cells #[.int .i64 t106, .string t107, .string t108, .int .i64 t109, .int .i64 t110] 37 (0, 0)) (by (with_reducible repeat (first | refine blk_drewN ?_ _ | refine blk_drew ?_ | refine blk_alloc ?_ _)); refine blk_put (cs := #[.int .i64 t106, .string t107, .string t108, .int .i64 t109, .int .i64 a1_4]) ?_ 4 _ rfl; (with_reducible repeat (first | refine blk_drewN ?_ _ | refine blk_drew ?_ | refine blk_alloc ?_ _)); refine blk_put (cs := #[.int .i64 t106, .string t107, .string t108, .int .i64 a1_3, .int .i64 a1_4]) ?_ 3 _ rfl; (with_reducible repeat (first | refine blk_drewN ?_ _ | refine blk_drew ?_ | refine blk_alloc ?_ _)); refine blk_put (cs := #[.int .i64 t106, .string t107, .string a1_2, .int .i64 a1_3, .int .i64 a1_4]) ?_ 2 _ rfl; (with_reducible repeat (first | refine blk_drewN ?_ _ | refine blk_drew ?_ | refine blk_alloc ?_ _)); refine blk_put (cs := #[.int .i64 t106, .string a1_1, .string a1_2, .int .i64 a1_3, .int .i64 a1_4]) ?_ 1 _ rfl; (with_reducible repeat (first | refine blk_drewN ?_ _ | refine blk_drew ?_ | refine blk_alloc ?_ _)); refine blk_put (cs := #[.int .i64 a1_0, .string a1_1, .string a1_2, .int .i64 a1_3, .int .i64 a1_4]) ?_ 0 _ rfl; (with_reducible repeat (first | refine blk_drewN ?_ _ | refine blk_drew ?_ | refine blk_alloc ?_ _)); exact BK101.out) hb); have n2_ := Aside0.mk (below_step (by repeat (first | (with_reducible first | exact HB.out | apply bal | apply bdn | apply bd1 | refine below_set ?_ GE101.out) | exact HB.out)) hb); clear HO105; clear BK101; clear HB; have HO105 := n0_; have BK101 := n1_; have HB := n2_; clear n0_ n1_ n2_; (try clear hb); (try clear hb2); (try clear hk); (try clear hi); have hcz73_0 : w72.cell? ⟨gb101, 0, none⟩ = some (.int .i64 t106) := (blk_cell BK101.out 0).trans rfl; have hcz73_1 : w72.cell? ⟨gb101, 1, none⟩ = some (.string t107) := (blk_cell BK101.out 1).trans rfl; have hcz73_2 : w72.cell? ⟨gb101, 2, none⟩ = some (.string t108) := (blk_cell BK101.out 2).trans rfl; have hcz73_3 : w72.cell? ⟨gb101, 3, none⟩ = some (.int .i64 t109) := (blk_cell BK101.out 3).trans rfl; have hcz73_4 : w72.cell? ⟨gb101, 4, none⟩ = some (.int .i64 t110) := (blk_cell BK101.out 4).trans rfl; have hfz73_0 := bfz BK101.out 0; have hfz73_1 := bfz BK101.out 1; have hfz73_2 := bfz BK101.out 2; have hfz73_3 := bfz BK101.out 3; have hfz73_4 := bfz BK101.out 4) | (go_at_call 21; (with_reducible refine (eid_PrintR.calls t106 t107 t108 t109 t110 t114 t115 _ ?side1 A7.out).mono ?_); (case side1 => exact LaidR.below HLD.out (by repeat (first | (with_reducible first | exact HB.out | apply bal | apply bdn | apply bd1 | refine below_set ?_ GE101.out) | exact HB.out))); rintro e w74 ⟨rfl, hb⟩; have n0_ := Aside0.mk (Kd.R_below (by (with_reducible repeat (first | apply Kd.R_alloc | apply Kd.R_drewN | apply Kd.R_drew)); exact HO105.out) hb); have n1_ := Aside0.mk (blk_below (g := gb101) (o := .cells #[.int .i64 t106, .string t107, .string t108, .int .i64 t109, .int .i64 t110] 37 (0, 0)) (by (with_reducible repeat (first | refine blk_drewN ?_ _ | refine blk_drew ?_ | refine blk_alloc ?_ _)); exact BK101.out) hb); have n2_ := Aside0.mk (below_step (by repeat (first | (with_reducible first | exact HB.out | apply bal | apply bdn | apply bd1 | refine below_set ?_ GE101.out) | exact HB.out)) hb); clear HO105; clear BK101; clear HB; have HO105 := n0_; have BK101 := n1_; have HB := n2_; clear n0_ n1_ n2_; (try clear hb); (try clear hb2); (try clear hk); (try clear hi)) | (go_at_call 25; (with_reducible refine (route_Right.calls _ _ t103 false _ ?side1 ?side2 A52.out).mono ?_); (case side1 => repeat (first | exact (Kd.R_reads' HO105.out).2.2 | (with_reducible refine Kd.C_alloc ?_ _) | (with_reducible refine Kd.C_drewN ?_ _) | (with_reducible refine Kd.C_drew ?_))); (case side2 => exact (Kd.R_reads' HO105.out).2.1); rintro e w75 ⟨rfl, hb⟩; have n0_ := Aside0.mk (Kd.R_below (by (with_reducible repeat (first | apply Kd.R_alloc | apply Kd.R_drewN | apply Kd.R_drew)); exact HO105.out) hb); have n1_ := Aside0.mk (blk_below (g := gb101) (o := .cells #[.int .i64 t106, .string t107, .string t108, .int .i64 t109, .int .i64 t110] 37 (0, 0)) (by (with_reducible repeat (first | refine blk_drewN ?_ _ | refine blk_drew ?_ | refine blk_alloc ?_ _)); exact BK101.out) hb); have n2_ := Aside0.mk (below_step (by repeat (first | (with_reducible first | exact HB.out | apply bal | apply bdn | apply bd1 | refine below_set ?_ GE101.out) | exact HB.out)) hb); clear HO105; clear BK101; clear HB; have HO105 := n0_; have BK101 := n1_; have HB := n2_; clear n0_ n1_ n2_; (try clear hb); (try clear hb2); (try clear hk); (try clear hi))); try go_wp2_with (first | ((with_reducible refine gate_dst (N := 3) rfl ?_); (try (refine gate_guard (by rfl) ?_; dsimp only)); refine box_event ?hg (N := 3) ?hd (cs := #[.int .i64 a1_0, .string a1_1, .string a1_2, .int .i64 a1_3, .int .i64 a1_4]) (t := 37) ?hr ?_; (case hd => rfl); (case hg => rfl); (case hr => first | (go_simp; done) | (go_simp; rfl) | (go_simp; simp only [isEmpty_ne, isEmpty_eq]; done) | (go_simp; simp only [isEmpty_ne, isEmpty_eq]; rfl)); intro gb101 hg w65 hbox hb; have n0_ := Aside0.mk (below_step (by repeat (first | (with_reducible first | exact HB.out | apply bal | apply bdn | apply bd1) | exact HB.out)) hb); have n1_ := Aside0.mk (hbox); have n2_ := Aside0.mk ((by rw [hg]; exact (below_size (by repeat (first | (with_reducible first | exact HB.out | apply bal | apply bdn | apply bd1) | exact HB.out))) : w.heap.size ≤ gb101)); have n3_ := Aside0.mk ((by rw [hg]; exact (below_size (by repeat (first | (with_reducible first | exact HB.out | apply bal | apply bdn | apply bd1) | exact HB.out))) : w.heap.size ≤ gb101)); clear HB; have HB := n0_; have BK101 := n1_; have GW101 := n2_; have GE101 := n3_; clear n0_ n1_ n2_ n3_; clear hb hbox hg) | (go_at_call 10; (with_reducible refine (postriderlaw16_shown.calls  true _ ?side1 A3.out).mono ?_); (case side1 => exact LaidR.below HLD.out (by repeat (first | (with_reducible first | exact HB.out | apply bal | apply bdn | apply bd1 | refine below_set ?_ GE101.out) | exact HB.out))); rintro e w66 ⟨rfl, hb⟩; have n0_ := Aside0.mk (blk_below (g := gb101) (o := .cells #[.int .i64 a1_0, .string a1_1, .string a1_2, .int .i64 a1_3, .int .i64 a1_4] 37 (0, 0)) (by (with_reducible repeat (first | refine blk_drewN ?_ _ | refine blk_drew ?_ | refine blk_alloc ?_ _)); exact BK101.out) hb); have n1_ := Aside0.mk (below_step (by repeat (first | (with_reducible first | exact HB.out | apply bal | apply bdn | apply bd1 | refine below_set ?_ GE101.out) | exact HB.out)) hb); clear BK101; clear HB; have BK101 := n0_; have HB := n1_; clear n0_ n1_; (try clear hb); (try clear hb2); (try clear hk); (try clear hi)) | (go_at_call 17; (with_reducible refine (postriderlaw16_Cut.calls k _ _ l0 t103 _ ?side1 ?side2 A4.out).mono ?_); (case side1 => repeat (first | exact (Kd.C_below HR0.out HB.out) | (with_reducible refine Kd.C_alloc ?_ _) | (with_reducible refine Kd.C_drewN ?_ _) | (with_reducible refine Kd.C_drew ?_))); (case side2 => exact HC0.out); rintro e w67 ⟨v104, rfl, ho0, hb⟩; have n0_ := Aside0.mk (Kd.R_lower ho0 (below_size (by repeat (first | (with_reducible first | exact HB.out | apply bal | apply bdn | apply bd1 | refine below_set ?_ GE101.out) | exact HB.out)))); have n1_ := Aside0.mk (blk_below (g := gb101) (o := .cells #[.int .i64 a1_0, .string a1_1, .string a1_2, .int .i64 a1_3, .int .i64 a1_4] 37 (0, 0)) (by (with_reducible repeat (first | refine blk_drewN ?_ _ | refine blk_drew ?_ | refine blk_alloc ?_ _)); exact BK101.out) hb); have n2_ := Aside0.mk (below_step (by repeat (first | (with_reducible first | exact HB.out | apply bal | apply bdn | apply bd1 | refine below_set ?_ GE101.out) | exact HB.out)) hb); clear BK101; clear HB; have HO105 := n0_; have BK101 := n1_; have HB := n2_; clear n0_ n1_ n2_; (try clear hb); (try clear hb2); (try clear hk); (try clear hi); (try clear ho0); have hcz68_0 : w67.cell? ⟨gb101, 0, none⟩ = some (.int .i64 a1_0) := (blk_cell BK101.out 0).trans rfl; have hcz68_1 : w67.cell? ⟨gb101, 1, none⟩ = some (.string a1_1) := (blk_cell BK101.out 1).trans rfl; have hcz68_2 : w67.cell? ⟨gb101, 2, none⟩ = some (.string a1_2) := (blk_cell BK101.out 2).trans rfl; have hcz68_3 : w67.cell? ⟨gb101, 3, none⟩ = some (.int .i64 a1_3) := (blk_cell BK101.out 3).trans rfl; have hcz68_4 : w67.cell? ⟨gb101, 4, none⟩ = some (.int .i64 a1_4) := (blk_cell BK101.out 4).trans rfl; have hfz68_0 := bfz BK101.out 0; have hfz68_1 := bfz BK101.out 1; have hfz68_2 := bfz BK101.out 2; have hfz68_3 := bfz BK101.out 3; have hfz68_4 := bfz BK101.out 4) | (go_at_call 18; (with_reducible refine (postriderlaw06_Cut.calls a1_0 a1_1 a1_2 a1_3 a1_4 t106 t107 t108 t109 t110 _ A5.out).mono ?_); rintro e w69 ⟨rfl, hb⟩; have n0_ := Aside0.mk (Kd.R_below (by (with_reducible repeat (first | apply Kd.R_alloc | apply Kd.R_drewN | apply Kd.R_drew)); exact HO105.out) hb); have n1_ := Aside0.mk (blk_below (g := gb101) (o := .cells #[.int .i64 a1_0, .string a1_1, .string a1_2, .int .i64 a1_3, .int .i64 a1_4] 37 (0, 0)) (by (with_reducible repeat (first | refine blk_drewN ?_ _ | refine blk_drew ?_ | refine blk_alloc ?_ _)); exact BK101.out) hb); have n2_ := Aside0.mk (below_step (by repeat (first | (with_reducible first | exact HB.out | apply bal | apply bdn | apply bd1 | refine below_set ?_ GE101.out) | exact HB.out)) hb); clear HO105; clear BK101; clear HB; have HO105 := n0_; have BK101 := n1_; have HB := n2_; clear n0_ n1_ n2_; (try clear hb); (try clear hb2); (try clear hk); (try clear hi); have hcz70_0 : w69.cell? ⟨gb101, 0, none⟩ = some (.int .i64 a1_0) := (blk_cell BK101.out 0).trans rfl; have hcz70_1 : w69.cell? ⟨gb101, 1, none⟩ = some (.string a1_1) := (blk_cell BK101.out 1).trans rfl; have hcz70_2 : w69.cell? ⟨gb101, 2, none⟩ = some (.string a1_2) := (blk_cell BK101.out 2).trans rfl; have hcz70_3 : w69.cell? ⟨gb101, 3, none⟩ = some (.int .i64 a1_3) := (blk_cell BK101.out 3).trans rfl; have hcz70_4 : w69.cell? ⟨gb101, 4, none⟩ = some (.int .i64 a1_4) := (blk_cell BK101.out 4).trans rfl; have hfz70_0 := bfz BK101.out 0; have hfz70_1 := bfz BK101.out 1; have hfz70_2 := bfz BK101.out 2; have hfz70_3 := bfz BK101.out 3; have hfz70_4 := bfz BK101.out 4; obtain ⟨Ao71, co71, eo71⟩ := Kd.R_slice HO105.out; subst eo71) | (go_at_call 19; (with_reducible refine (route_Find.calls _ _ t103 t106 t107 t108 t109 t110 t111 false t113 _ ?side1 ?side2 ?side3 A6.out).mono ?_); (case side1 => refine (Kd.R_reads' (e := 35) (base := w.heap.size) (ok := fun k_ => True) (n := t103.length) (c := co71) ?_).2.2; exact (by (with_reducible repeat (first | apply Kd.R_alloc | apply Kd.R_drewN | apply Kd.R_drew)); exact (Kd.R_mono (Kd.R_far (p := ⟨gb101, 4, none⟩) (Kd.R_far (p := ⟨gb101, 3, none⟩) (Kd.R_far (p := ⟨gb101, 2, none⟩) (Kd.R_far (p := ⟨gb101, 1, none⟩) (Kd.R_far (p := ⟨gb101, 0, none⟩) (Kd.R_types HO105.out BK101.out (by decide)) (fun _ hk => hk.2) (.int .i64 t106)) (fun _ hk => hk.2) (.string t107)) (fun _ hk => hk.2) (.string t108)) (fun _ hk => hk.2) (.int .i64 t109)) (fun _ hk => hk.2) (.int .i64 t110)) (fun _ h_ => h_.1)))); (case side2 => exact (Kd.R_reads' HO105.out).2.1); (case side3 => exact LaidR.below HLD.out (by repeat (first | (with_reducible first | exact HB.out | apply bal | apply bdn | apply bd1 | refine below_set ?_ GE101.out) | exact HB.out))); rintro e w72 ⟨rfl, hb⟩; have n0_ := Aside0.mk (Kd.R_below (by (with_reducible repeat (first | apply Kd.R_alloc | apply Kd.R_drewN | apply Kd.R_drew)); exact (Kd.R_mono (Kd.R_far (p := ⟨gb101, 4, none⟩) (Kd.R_far (p := ⟨gb101, 3, none⟩) (Kd.R_far (p := ⟨gb101, 2, none⟩) (Kd.R_far (p := ⟨gb101, 1, none⟩) (Kd.R_far (p := ⟨gb101, 0, none⟩) (Kd.R_types HO105.out BK101.out (by decide)) (fun _ hk => hk.2) (.int .i64 t106)) (fun _ hk => hk.2) (.string t107)) (fun _ hk => hk.2) (.string t108)) (fun _ hk => hk.2) (.int .i64 t109)) (fun _ hk => hk.2) (.int .i64 t110)) (fun _ h_ => h_.1))) hb); have n1_ := Aside0.mk (blk_below (g := gb101) (o := .cells #[.int .i64 t106, .string t107, .string t108, .int .i64 t109, .int .i64 t110] 37 (0, 0)) (by (with_reducible repeat (first | refine blk_drewN ?_ _ | refine blk_drew ?_ | refine blk_alloc ?_ _)); refine blk_put (cs := #[.int .i64 t106, .string t107, .string t108, .int .i64 t109, .int .i64 a1_4]) ?_ 4 _ rfl; (with_reducible repeat (first | refine blk_drewN ?_ _ | refine blk_drew ?_ | refine blk_alloc ?_ _)); refine blk_put (cs := #[.int .i64 t106, .string t107, .string t108, .int .i64 a1_3, .int .i64 a1_4]) ?_ 3 _ rfl; (with_reducible repeat (first | refine blk_drewN ?_ _ | refine blk_drew ?_ | refine blk_alloc ?_ _)); refine blk_put (cs := #[.int .i64 t106, .string t107, .string a1_2, .int .i64 a1_3, .int .i64 a1_4]) ?_ 2 _ rfl; (with_reducible repeat (first | refine blk_drewN ?_ _ | refine blk_drew ?_ | refine blk_alloc ?_ _)); refine blk_put (cs := #[.int .i64 t106, .string a1_1, .string a1_2, .int .i64 a1_3, .int .i64 a1_4]) ?_ 1 _ rfl; (with_reducible repeat (first | refine blk_drewN ?_ _ | refine blk_drew ?_ | refine blk_alloc ?_ _)); refine blk_put (cs := #[.int .i64 a1_0, .string a1_1, .string a1_2, .int .i64 a1_3, .int .i64 a1_4]) ?_ 0 _ rfl; (with_reducible repeat (first | refine blk_drewN ?_ _ | refine blk_drew ?_ | refine blk_alloc ?_ _)); exact BK101.out) hb); have n2_ := Aside0.mk (below_step (by repeat (first | (with_reducible first | exact HB.out | apply bal | apply bdn | apply bd1 | refine below_set ?_ GE101.out) | exact HB.out)) hb); clear HO105; clear BK101; clear HB; have HO105 := n0_; have BK101 := n1_; have HB := n2_; clear n0_ n1_ n2_; (try clear hb); (try clear hb2); (try clear hk); (try clear hi); have hcz73_0 : w72.cell? ⟨gb101, 0, none⟩ = some (.int .i64 t106) := (blk_cell BK101.out 0).trans rfl; have hcz73_1 : w72.cell? ⟨gb101, 1, none⟩ = some (.string t107) := (blk_cell BK101.out 1).trans rfl; have hcz73_2 : w72.cell? ⟨gb101, 2, none⟩ = some (.string t108) := (blk_cell BK101.out 2).trans rfl; have hcz73_3 : w72.cell? ⟨gb101, 3, none⟩ = some (.int .i64 t109) := (blk_cell BK101.out 3).trans rfl; have hcz73_4 : w72.cell? ⟨gb101, 4, none⟩ = some (.int .i64 t110) := (blk_cell BK101.out 4).trans rfl; have hfz73_0 := bfz BK101.out 0; have hfz73_1 := bfz BK101.out 1; have hfz73_2 := bfz BK101.out 2; have hfz73_3 := bfz BK101.out 3; have hfz73_4 := bfz BK101.out 4) | (go_at_call 21; (with_reducible refine (eid_PrintR.calls t106 t107 t108 t109 t110 t114 t115 _ ?side1 A7.out).mono ?_); (case side1 => exact LaidR.below HLD.out (by repeat (first | (with_reducible first | exact HB.out | apply bal | apply bdn | apply bd1 | refine below_set ?_ GE101.out) | exact HB.out))); rintro e w74 ⟨rfl, hb⟩; have n0_ := Aside0.mk (Kd.R_below (by (with_reducible repeat (first | apply Kd.R_alloc | apply Kd.R_drewN | apply Kd.R_drew)); exact HO105.out) hb); have n1_ := Aside0.mk (blk_below (g := gb101) (o := .cells #[.int .i64 t106, .string t107, .string t108, .int .i64 t109, .int .i64 t110] 37 (0, 0)) (by (with_reducible repeat (first | refine blk_drewN ?_ _ | refine blk_drew ?_ | refine blk_alloc ?_ _)); exact BK101.out) hb); have n2_ := Aside0.mk (below_step (by repeat (first | (with_reducible first | exact HB.out | apply bal | apply bdn | apply bd1 | refine below_set ?_ GE101.out) | exact HB.out)) hb); clear HO105; clear BK101; clear HB; have HO105 := n0_; have BK101 := n1_; have HB := n2_; clear n0_ n1_ n2_; (try clear hb); (try clear hb2); (try clear hk); (try clear hi)) | (go_at_call 25; (with_reducible refine (route_Right.calls _ _ t103 false _ ?side1 ?side2 A52.out).mono ?_); (case side1 => repeat (first | exact (Kd.R_reads' HO105.out).2.2 | (with_reducible refine Kd.C_alloc ?_ _) | (with_reducible refine Kd.C_drewN ?_ _) | (with_reducible refine Kd.C_drew ?_))); (case side2 => exact (Kd.R_reads' HO105.out).2.1); rintro e w75 ⟨rfl, hb⟩; have n0_ := Aside0.mk (Kd.R_below (by (with_reducible repeat (first | apply Kd.R_alloc | apply Kd.R_drewN | apply Kd.R_drew)); exact HO105.out) hb); have n1_ := Aside0.mk (blk_below (g := gb101) (o := .cells #[.int .i64 t106, .string t107, .string t108, .int .i64 t109, .int .i64 t110] 37 (0, 0)) (by (with_reducible repeat (first | refine blk_drewN ?_ _ | refine blk_drew ?_ | refine blk_alloc ?_ _)); exact BK101.out) hb); have n2_ := Aside0.mk (below_step (by repeat (first | (with_reducible first | exact HB.out | apply bal | apply bdn | apply bd1 | refine below_set ?_ GE101.out) | exact HB.out)) hb); clear HO105; clear BK101; clear HB; have HO105 := n0_; have BK101 := n1_; have HB := n2_; clear n0_ n1_ n2_; (try clear hb); (try clear hb2); (try clear hk); (try clear hi))))
            all_goals (first | (go_ret; exact ⟨by first | rfl | (simp [errW_none, errW_some] <;> rfl) | (simp [*, errW_none, errW_some] <;> rfl) | (simp_all; done) | fail, by repeat (first | (with_reducible first | exact HB.out | apply bal | apply bdn | apply bd1 | refine below_set ?_ GE101.out) | exact HB.out)⟩) | (exfalso; simp_all; done) | (exfalso; simp only [isEmpty_eq, isEmpty_ne] at *; simp_all; done) | (exfalso; exact isEmpty_clash (by assumption) (by assumption)) | (exfalso; exact isEmpty_clash' (by assumption) (by assumption)) | (exfalso; exact isEmpty_clash2 (by assumption) (by assumption)) | (exfalso; simp only [decide_eq_true_eq, decide_eq_false_iff_not] at *; omega))
        · rw [if_neg c51] at H
          exact absurd H (by simp)
    · replace c49 := Bool.eq_false_iff.mpr c49
      subst c49
      have H1 : (none) = some r := by rw [if_neg (show ¬ (false = true) by decide)] at H; exact H
      clear H
      have H := H1
      clear H1
      exact absurd H (by simp)
end Go.Proofs.YtaknknfcikdjiaaGreatDoor.RTRouteLongest
end
section
namespace Go.Proofs.YtaknknfcikdjiaaGreatDoor.Hand
open Go.RowKit Go.Proofs.YtaknknfcikdjiaaGreatDoorW Go.Proofs.YtaknknfcikdjiaaGreatDoorW.PrintWords Go.Proofs.YtaknknfcikdjiaaGreatDoor.SA Go.Proofs.YtaknknfcikdjiaaGreatDoor.RK Go.Proofs.YtaknknfcikdjiaaGreatDoor.RF Go.Proofs.YtaknknfcikdjiaaGreatDoor.RTRouteLongest
structure Best (l : List Rt) (s : ByteArray) (at_ : Int) (ok : Bool) (n : Int) : Prop where
  none_ : ok = false → n = -1 ∧ ∀ i : Nat, i < l.length → (rd_T35 l (i : Int)).f0.data.toList.isPrefixOf s.data.toList = false
  here : ok = true → 0 ≤ at_ ∧ at_ < (l.length : Int) ∧ n = ((rd_T35 l at_).f0.size : Int) ∧ (rd_T35 l at_).f0.data.toList.isPrefixOf s.data.toList = true
  best : ok = true → ∀ i : Nat, i < l.length → (rd_T35 l (i : Int)).f0.data.toList.isPrefixOf s.data.toList = true → ((rd_T35 l (i : Int)).f0.size : Int) < n ∨ ((rd_T35 l (i : Int)).f0.size : Int) = n ∧ at_ ≤ (i : Int)
theorem longest_from (l : List Rt) (s : ByteArray) (at_ : Int) (ok : Bool) (n : Int) (hl : l.length ≤ 22) (hB : Best l s at_ ok n) :
    ∀ (d k i : Nat), l.length - i = d → i ≤ l.length → d < k → rlg.l0 k l true at_ ok s 0 n (i : Int) = some true := by
  intro d
  induction d with
  | zero =>
    intro k i hd hi hk
    obtain ⟨k, rfl⟩ : ∃ m, k = m + 1 := ⟨k - 1, by omega⟩
    simp only [rlg.l0]
    rw [if_neg (by omega)]
    simp
  | succ d ih =>
    intro k i hd hi hk
    obtain ⟨k, rfl⟩ : ∃ m, k = m + 1 := ⟨k - 1, by omega⟩
    have hlt : i < l.length := by omega
    have h' := ih k (i + 1) (by omega) (by omega) (by omega)
    simp only [rlg.l0]
    rw [if_pos (by omega), if_pos (by omega), wrap_up i (by omega), h']
    by_cases c3 : ((rd_T35 l (i : Int)).f0.size : Int) ≤ (s.size : Int)
    · obtain ⟨q1, q2⟩ := mn_ok _ _ c3
      have hbg := begins_is s _ c3
      rw [if_pos c3, if_pos q1, if_pos q2]
      cases hm : (rd_T35 l (i : Int)).f0.data.toList.isPrefixOf s.data.toList with
      | true =>
        rw [hm] at hbg
        have he := beq_iff_eq.1 hbg
        rw [if_pos he]
        cases ok with
        | false =>
          have := (hB.none_ rfl).2 i hlt
          rw [hm] at this
          cases this
        | true =>
          have hb := hB.best rfl i hlt hm
          rw [if_neg (by omega)]
          repeat' split
          all_goals first | rfl | (exfalso; omega) | (exfalso; simp_all; done)
      | false =>
        rw [hm] at hbg
        have he : ¬ _ := beq_eq_false_iff_ne.1 hbg
        rw [if_neg he]
        cases ok with
        | false =>
          repeat' split
          all_goals first | rfl | (exfalso; omega) | (exfalso; simp_all; done)
        | true =>
          have hh := hB.here rfl
          have hne : ¬ (i : Int) = at_ := fun e => by
            rw [← e, hm] at hh
            cases hh.2.2.2
          repeat' split
          all_goals first | rfl | (exfalso; omega) | (exfalso; simp_all; done)
    · have hm := begins_not s _ c3
      rw [if_neg c3]
      cases ok with
      | false =>
        repeat' split
        all_goals first | rfl | (exfalso; omega) | (exfalso; simp_all; done)
      | true =>
        have hh := hB.here rfl
        have hne : ¬ (i : Int) = at_ := fun e => by
          rw [← e, hm] at hh
          cases hh.2.2.2
        repeat' split
        all_goals first | rfl | (exfalso; omega) | (exfalso; simp_all; done)
theorem best_of (l : List Rt) (s : ByteArray) (hr : rightRt l = true) :
    Best l s (match allP s.data.toList (pfx l) with | [] => 0 | a :: _ => a) (match allP s.data.toList (pfx l) with | [] => false | _ :: _ => true) (match allP s.data.toList (pfx l) with | [] => -1 | a :: _ => ((rd_T35 l a).f0.size : Int)) := by
  have hso := allP_sorted s.data.toList (pfx l) 61 (right_sizes2 hr)
  have hm : ∀ a, a ∈ allP s.data.toList (pfx l) ↔ 0 ≤ a ∧ a < (l.length : Int) ∧ (rd_T35 l a).f0.data.toList.isPrefixOf s.data.toList = true := fun a => place_is
  generalize allP s.data.toList (pfx l) = all at *
  cases all with
  | nil =>
    refine ⟨fun _ => ⟨rfl, fun i hi => ?_⟩, fun h => (by cases h), fun h => (by cases h)⟩
    cases hq : (rd_T35 l (i : Int)).f0.data.toList.isPrefixOf s.data.toList with
    | false => rfl
    | true =>
      have := (hm (i : Int)).2 ⟨by omega, by omega, hq⟩
      cases this
  | cons a r =>
    have ha := (hm a).1 (List.mem_cons_self ..)
    refine ⟨fun h => (by cases h), fun _ => ⟨ha.1, ha.2.1, rfl, ha.2.2⟩, fun _ i hi hq => ?_⟩
    have hi2 := (hm (i : Int)).2 ⟨by omega, by omega, hq⟩
    rcases List.mem_cons.1 hi2 with e | hi2
    · right
      simp only [e]
      exact ⟨trivial, Int.le_refl _⟩
    · have hp := (List.pairwise_cons.1 hso).1 _ hi2
      rw [len_is ha.1 ha.2.1, len_is (a := (i : Int)) (by omega) (by omega)] at hp
      simp only
      rcases hp with hp | ⟨hp, hp2⟩
      · left; omega
      · right; omega
theorem routeLongest_true (l0 : List Rt) (n : Int) (a1 a2 : ByteArray) (a3 a4 : Int) : rlg.f 200 l0 n a1 a2 a3 a4 = some true := by
  obtain ⟨b1, b2, hc, h1, h2⟩ := Cut_is n a1 a2 a3 a4
  have hl := cutR_len l0
  unfold rlg.f
  rw [shown_true, CutR_is l0 200 (by decide), hc]
  simp only [Option.bind_some]
  rw [Find_is _ n b1 b2 a3 a4 h1 h2, PrintR_is n b1 b2 a3 a4 h1 h2]
  simp only [Option.bind_some]
  generalize cutR l0 = l at *
  rcases all_cases l n b1 b2 a3 a4 with ⟨h, hr⟩ | ⟨h, hr, hn, hp⟩ | ⟨s, hr, hn, hp, h⟩
  · have hf : findT l n b1 b2 a3 a4 = (0, false, 160) := by unfold findT; rw [h]
    rw [hf]
    simp [route_Right.f, hr]
  · have hf : findT l n b1 b2 a3 a4 = (0, false, 60) := by unfold findT; rw [h]
    rw [hf, hp]
    simp [route_Right.f, hr]
  · have hB := best_of l s hr
    have hm : ∀ a, a ∈ allP s.data.toList (pfx l) ↔ 0 ≤ a ∧ a < (l.length : Int) ∧ (rd_T35 l a).f0.data.toList.isPrefixOf s.data.toList = true := fun a => place_is
    rw [hp]
    cases hA : allP s.data.toList (pfx l) with
    | nil =>
      have hf : findT l n b1 b2 a3 a4 = (0, false, 0) := by unfold findT; rw [h, hA]
      rw [hA] at hB
      rw [hf]
      have := longest_from l s 0 false (-1) hl hB l.length 198 0 rfl (Nat.zero_le _) (by omega)
      simpa [rlg.j0, rlg.j1] using this
    | cons a r =>
      have hf : findT l n b1 b2 a3 a4 = (a, true, 0) := by unfold findT; rw [h, hA]
      have ha := (hm a).1 (by rw [hA]; exact List.mem_cons_self ..)
      rw [hA] at hB
      rw [hf]
      have := longest_from l s a true _ hl hB l.length 198 0 rfl (Nat.zero_le _) (by omega)
      simp only [if_true]
      rw [if_neg (by omega), decide_eq_false (show ¬ (a ≥ (l.length : Int)) by omega)]
      simp only [rlg.j0, rlg.j1]
      rw [if_neg (by decide), if_pos trivial, if_pos ha.1, if_pos ha.2.1]
      exact this
end Go.Proofs.YtaknknfcikdjiaaGreatDoor.Hand
end

import Derived.Test.YtaknknfcikdjiaaGreatDoorZRouteSorted2
section
namespace Go.Proofs.YtaknknfcikdjiaaGreatDoor.Hand
open Go.RowKit Go.Proofs.YtaknknfcikdjiaaGreatDoorW Go.Proofs.YtaknknfcikdjiaaGreatDoorW.PrintWords Go.Proofs.YtaknknfcikdjiaaGreatDoor.SA Go.Proofs.YtaknknfcikdjiaaGreatDoor.RK Go.Proofs.YtaknknfcikdjiaaGreatDoor.RF
theorem shown_true : postriderlaw16_shown.f = some true := by decide +kernel
theorem wrap_up (i : Nat) (h : i ≤ 1000000) : wrap64 ((i : Int) + 1) = ((i + 1 : Nat) : Int) := by unfold wrap64; omega
def cutRt (x : Rt) : Rt := ⟨x.f0.extract 0 (mn x.f0.size 61).toNat, x.f1⟩
def cutR (l : List Rt) : List Rt := (l.take 22).map cutRt
theorem rd_Rt {l : List Rt} {i : Nat} (h : i < l.length) : rd_T35 l (i : Int) = l[i] := by
  unfold rd_T35
  rw [Int.toNat_natCast, List.getD_eq_getElem?_getD, List.getElem?_eq_getElem h]
  rfl
theorem cutR_from (l : List Rt) : ∀ (d k i : Nat) (acc : List Rt), (l.take 22).length - i = d → i ≤ (l.take 22).length → d < k → acc.length = i → postriderlaw16_Cut.l0 k l acc (i : Int) = some (acc ++ ((l.take 22).drop i).map cutRt) := by
  intro d
  induction d with
  | zero =>
    intro k i acc hd hi hk ha
    obtain ⟨k, rfl⟩ : ∃ m, k = m + 1 := ⟨k - 1, by omega⟩
    rw [List.drop_eq_nil_of_le (by omega), List.map_nil, List.append_nil]
    simp only [postriderlaw16_Cut.l0]
    rw [List.length_take] at hd hi
    by_cases h : (i : Int) < (l.length : Int)
    · rw [if_pos h, if_neg (by omega)]
    · rw [if_neg h]
  | succ d ih =>
    intro k i acc hd hi hk ha
    obtain ⟨k, rfl⟩ : ∃ m, k = m + 1 := ⟨k - 1, by omega⟩
    have hlt : i < (l.take 22).length := by omega
    have hl : i < l.length ∧ i < 22 := by rw [List.length_take] at hlt; omega
    simp only [postriderlaw16_Cut.l0]
    rw [rd_Rt hl.1]
    obtain ⟨h1, h2, h3⟩ := mn_len (l[i]'hl.1).f0.size 61 (by decide)
    rw [if_pos (by omega), if_pos (by omega), if_pos (by omega), if_pos h1, if_pos h2, if_pos (by omega), wrap_up i (by omega), ih k (i + 1) _ (by omega) (by omega) (by omega) (by simp [ha])]
    rw [List.append_assoc]
    congr 1
    rw [List.drop_eq_getElem_cons hlt, List.map_cons]
    have e : (l.take 22)[i] = l[i]'hl.1 := List.getElem_take
    rw [e]
    rfl
theorem CutR_is (l : List Rt) (k : Nat) (hk : 30 ≤ k) : postriderlaw16_Cut.f k l = some (cutR l) := by
  unfold postriderlaw16_Cut.f
  have := cutR_from l _ k 0 [] rfl (Nat.zero_le _) (by rw [List.length_take]; omega) rfl
  simpa [cutR] using this
theorem cutR_len (l : List Rt) : (cutR l).length ≤ 22 := by
  unfold cutR
  rw [List.length_map, List.length_take]
  omega
theorem All_is (l : List Rt) (n : Int) (a1 a2 : ByteArray) (a3 a4 : Int) (h1 : a1.size ≤ 21) (h2 : a2.size ≤ 21) : route_All.f l n a1 a2 a3 a4 = some (allT l n a1 a2 a3 a4) := by
  unfold route_All.f
  rw [if_pos ⟨Nat.le_trans h1 (by decide), Nat.le_trans h2 (by decide)⟩]
theorem PrintR_is (n : Int) (a1 a2 : ByteArray) (a3 a4 : Int) (h1 : a1.size ≤ 21) (h2 : a2.size ≤ 21) : eid_PrintR.f n a1 a2 a3 a4 = some (printT n a1 a2 a3 a4) := by
  unfold eid_PrintR.f
  rw [if_pos ⟨Nat.le_trans h1 (by decide), Nat.le_trans h2 (by decide)⟩]
theorem all_cases (l : List Rt) (n : Int) (a1 a2 : ByteArray) (a3 a4 : Int) :
    (allT l n a1 a2 a3 a4 = ([], 160) ∧ rightRt l = false) ∨ (allT l n a1 a2 a3 a4 = ([], 60) ∧ rightRt l = true ∧ rightS n a1 a2 a3 a4 = false ∧ printT n a1 a2 a3 a4 = (⟨#[]⟩, 60)) ∨
      ∃ s, rightRt l = true ∧ rightS n a1 a2 a3 a4 = true ∧ printT n a1 a2 a3 a4 = (s, 0) ∧ allT l n a1 a2 a3 a4 = (allP s.data.toList (pfx l), 0) := by
  unfold allT printT
  cases hr : rightRt l with
  | false => exact .inl ⟨rfl, rfl⟩
  | true =>
    refine .inr ?_
    cases hn : rightS n a1 a2 a3 a4 with
    | false => exact .inl ⟨rfl, rfl, rfl, rfl⟩
    | true => exact .inr ⟨_, rfl, rfl, rfl, rfl⟩
theorem right_sizes2 {l : List Rt} (h : rightRt l = true) : ∀ p ∈ pfx l, p.size < 61 := fun p hp => by
  unfold rightRt at h
  simp only [Bool.and_eq_true, Bool.not_eq_true'] at h
  obtain ⟨x, hx, rfl⟩ := List.mem_map.1 hp
  have := (List.any_eq_false.1 h.2) x hx
  unfold otherRt at this
  simp at this
  omega
theorem ba_len (a : ByteArray) : a.data.toList.length = a.size := Array.length_toList ..
theorem begins_is (s p : ByteArray) (h : (p.size : Int) ≤ (s.size : Int)) : ((s.extract 0 (mn (p.size : Int) (s.size : Int)).toNat).toList == p.toList) = p.data.toList.isPrefixOf s.data.toList := by
  have e : (mn (p.size : Int) (s.size : Int)).toNat = p.size := by unfold mn; split <;> omega
  rw [e, ByteArray.toList_eq, ByteArray.toList_eq, ByteArray.data_extract, Array.toList_extract, List.extract_eq_take_drop, List.drop_zero, Nat.sub_zero]
  rw [Bool.eq_iff_iff, beq_iff_eq, List.isPrefixOf_iff_prefix, List.prefix_iff_eq_take, ba_len]
  exact eq_comm
theorem begins_not (s p : ByteArray) (h : ¬ (p.size : Int) ≤ (s.size : Int)) : p.data.toList.isPrefixOf s.data.toList = false := by
  rw [Bool.eq_false_iff]
  intro hp
  have := (List.isPrefixOf_iff_prefix.1 hp).length_le
  rw [ba_len, ba_len] at this
  omega
theorem mn_ok (p s : Nat) (h : (p : Int) ≤ (s : Int)) : 0 ≤ mn (p : Int) (s : Int) ∧ mn (p : Int) (s : Int) ≤ (s : Int) := by unfold mn; split <;> omega
theorem place_is {l : List Rt} {s : ByteArray} {a : Int} : a ∈ allP s.data.toList (pfx l) ↔ 0 ≤ a ∧ a < (l.length : Int) ∧ (rd_T35 l a).f0.data.toList.isPrefixOf s.data.toList = true := by
  rw [allP_mem]
  constructor
  · rintro ⟨k, p, rfl, h1, h2⟩
    rw [List.getElem?_map, Option.map_eq_some_iff] at h1
    obtain ⟨x, h3, rfl⟩ := h1
    obtain ⟨hk, rfl⟩ := List.getElem?_eq_some_iff.1 h3
    rw [rd_Rt hk]
    exact ⟨by omega, by omega, h2⟩
  · rintro ⟨h0, h1, h2⟩
    have e : a = ((a.toNat : Nat) : Int) := by omega
    have hk : a.toNat < l.length := by omega
    rw [e, rd_Rt hk] at h2
    exact ⟨a.toNat, _, e, by rw [List.getElem?_map, List.getElem?_eq_getElem hk]; rfl, h2⟩
theorem len_is {l : List Rt} {a : Int} (h0 : 0 ≤ a) (h1 : a < (l.length : Int)) : lenAt (pfx l) a = ((rd_T35 l a).f0.size : Int) := by
  have e : a = ((a.toNat : Nat) : Int) := by omega
  have hk : a.toNat < l.length := by omega
  unfold lenAt
  conv => rhs; rw [e, rd_Rt hk]
  rw [List.getD_eq_getElem?_getD, List.getElem?_map, List.getElem?_eq_getElem hk]
  rfl
end Go.Proofs.YtaknknfcikdjiaaGreatDoor.Hand
end
section
namespace Go.Proofs.YtaknknfcikdjiaaGreatDoor.RF
open Go.Proofs.YtaknknfcikdjiaaGreatDoor.Hand
open Go.Proofs.YtaknknfcikdjiaaGreatDoor.SA
open Go.Proofs.YtaknknfcikdjiaaGreatDoor.RK
open Go.RowKit Go.Proofs.YtaknknfcikdjiaaGreatDoorW.PrintWords Go.Proofs.YtaknknfcikdjiaaGreatDoorW.PrintLast Go.Proofs.YtaknknfcikdjiaaGreatDoorW.PrintMore
attribute [local go_sem] max2_int min2_int max_two min_two max_three min_three max_four min_four
set_option linter.unusedVariables false
set_option linter.unusedSimpArgs false
mutual
def postriderlaw16_RouteSorted.l0 : Nat → List (S35) → Int → Bool → List Int → ByteArray → Int → Bool → Int → Option (Bool)
  | 0, _, _, _, _, _, _, _, _ => none
  | k + 1, x0, x2, x7, x8, x10, x11, x12, x13 => if x13 < (x8.length : Int) then (if 0 ≤ x13 then (if (rd x8 x13) < 0 then (postriderlaw16_RouteSorted.j1 k x0 x2 x7 x8 x10 x11 x12 x13 true) else (postriderlaw16_RouteSorted.j1 k x0 x2 x7 x8 x10 x11 x12 x13 (decide ((rd x8 x13) ≥ (x0.length : Int))))) else (none)) else (if x2 < 0 then (if x7 = true then (if x11 = 0 then (some (!x12)) else (some false)) else (some false)) else (if x2 ≥ (x0.length : Int) then (if x7 = true then (if x11 = 0 then (some (!x12)) else (some false)) else (some false)) else (if 0 ≤ x2 then (if x2 < (x0.length : Int) then (if x7 = true then (if x11 = 0 then (if (((rd_T35 x0 x2).f0).size : Int) ≤ (x10.size : Int) then (if 0 ≤ (mn (((rd_T35 x0 x2).f0).size : Int) (x10.size : Int)) then (if (mn (((rd_T35 x0 x2).f0).size : Int) (x10.size : Int)) ≤ (x10.size : Int) then (some (x12 == ((x10.extract 0 ((mn (((rd_T35 x0 x2).f0).size : Int) (x10.size : Int)) : Int).toNat).toList == ((rd_T35 x0 x2).f0).toList))) else (none)) else (none)) else (some (x12 == false))) else (some false)) else (some false)) else (none)) else (none))))
def postriderlaw16_RouteSorted.j1 : Nat → List (S35) → Int → Bool → List Int → ByteArray → Int → Bool → Int → Bool → Option (Bool)
  | 0, _, _, _, _, _, _, _, _, _ => none
  | k + 1, x0, x2, x7, x8, x10, x11, x12, x13, x60 => if x60 = true then (some false) else (if x12 = true then (postriderlaw16_RouteSorted.j2 k x0 x2 x7 x8 x10 x11 true x13) else (if 0 ≤ x13 then (if x13 < (x8.length : Int) then (postriderlaw16_RouteSorted.j2 k x0 x2 x7 x8 x10 x11 ((rd x8 x13) == x2) x13) else (none)) else (none)))
def postriderlaw16_RouteSorted.j2 : Nat → List (S35) → Int → Bool → List Int → ByteArray → Int → Bool → Int → Option (Bool)
  | 0, _, _, _, _, _, _, _, _ => none
  | k + 1, x0, x2, x7, x8, x10, x11, x12, x13 => if x13 > 0 then (if 0 ≤ (wrap64 (x13 - 1)) then (if (wrap64 (x13 - 1)) < (x8.length : Int) then (if 0 ≤ (rd x8 (wrap64 (x13 - 1))) then (if (rd x8 (wrap64 (x13 - 1))) < (x0.length : Int) then (if 0 ≤ x13 then (if x13 < (x8.length : Int) then (if 0 ≤ (rd x8 x13) then (if (rd x8 x13) < (x0.length : Int) then (if (((rd_T35 x0 (rd x8 (wrap64 (x13 - 1)))).f0).size : Int) < (((rd_T35 x0 (rd x8 x13)).f0).size : Int) then (some false) else (if (((rd_T35 x0 (rd x8 (wrap64 (x13 - 1)))).f0).size : Int) = (((rd_T35 x0 (rd x8 x13)).f0).size : Int) then (if (rd x8 (wrap64 (x13 - 1))) ≥ (rd x8 x13) then (some false) else (postriderlaw16_RouteSorted.l0 k x0 x2 x7 x8 x10 x11 x12 (wrap64 (x13 + 1)))) else (postriderlaw16_RouteSorted.l0 k x0 x2 x7 x8 x10 x11 x12 (wrap64 (x13 + 1))))) else (none)) else (none)) else (none)) else (none)) else (none)) else (none)) else (none)) else (none)) else (postriderlaw16_RouteSorted.l0 k x0 x2 x7 x8 x10 x11 x12 (wrap64 (x13 + 1)))
end
def postriderlaw16_RouteSorted.f (k : Nat) (l0 : List (S35)) (a1_0 : Int) (a1_1 : ByteArray) (a1_2 : ByteArray) (a1_3 : Int) (a1_4 : Int) (a2 : Int) : Option (Bool) := (postriderlaw16_shown.f).bind fun t205 => ((postriderlaw16_Cut.f k l0).bind fun t206 => ((postriderlaw06_Cut.f a1_0 a1_1 a1_2 a1_3 a1_4).bind fun bt209 => ((route_All.f t206 bt209.1 bt209.2.1 bt209.2.2.1 bt209.2.2.2.1 bt209.2.2.2.2).bind fun bt214 => ((eid_PrintR.f bt209.1 bt209.2.1 bt209.2.2.1 bt209.2.2.2.1 bt209.2.2.2.2).bind fun bt218 => (if bt214.2 = 0 then (postriderlaw16_RouteSorted.l0 k t206 a2 t205 bt214.1 bt218.1 bt218.2 false 0) else (if t205 = true then (some ((bt214.1.length : Int) == 0)) else (some false)))))))
theorem postriderlaw16_RouteSorted.mono_l : ∀ k, (∀ y0 y1 y2 y3 y4 y5 y6 y7, LeO (postriderlaw16_RouteSorted.l0 k y0 y1 y2 y3 y4 y5 y6 y7) (postriderlaw16_RouteSorted.l0 (k + 1) y0 y1 y2 y3 y4 y5 y6 y7)) ∧ (∀ y0 y1 y2 y3 y4 y5 y6 y7 y8, LeO (postriderlaw16_RouteSorted.j1 k y0 y1 y2 y3 y4 y5 y6 y7 y8) (postriderlaw16_RouteSorted.j1 (k + 1) y0 y1 y2 y3 y4 y5 y6 y7 y8)) ∧ (∀ y0 y1 y2 y3 y4 y5 y6 y7, LeO (postriderlaw16_RouteSorted.j2 k y0 y1 y2 y3 y4 y5 y6 y7) (postriderlaw16_RouteSorted.j2 (k + 1) y0 y1 y2 y3 y4 y5 y6 y7))
  | 0 => ⟨fun _ _ _ _ _ _ _ _ r h => by simp [postriderlaw16_RouteSorted.l0] at h, fun _ _ _ _ _ _ _ _ _ r h => by simp [postriderlaw16_RouteSorted.j1] at h, fun _ _ _ _ _ _ _ _ r h => by simp [postriderlaw16_RouteSorted.j2] at h⟩
  | k + 1 => by
    obtain ⟨ih0, ih1, ih2⟩ := postriderlaw16_RouteSorted.mono_l k
    refine ⟨?_, ?_, ?_⟩
    · intro y0 y1 y2 y3 y4 y5 y6 y7
      unfold postriderlaw16_RouteSorted.l0
      repeat' first
      | (with_reducible exact ih0 _ _ _ _ _ _ _ _)
      | (with_reducible exact ih1 _ _ _ _ _ _ _ _ _)
      | (with_reducible exact ih2 _ _ _ _ _ _ _ _)
      | (with_reducible exact postriderlaw16_Cut.mono _ _)
      | (with_reducible exact LeO.refl _)
      | (with_reducible exact LeO.none _)
      | (with_reducible refine LeO.ite ?_ ?_)
      | (with_reducible refine LeO.bind ?_ (fun _ => ?_))
      | exact ih0 _ _ _ _ _ _ _ _
      | exact ih1 _ _ _ _ _ _ _ _ _
      | exact ih2 _ _ _ _ _ _ _ _
      | exact postriderlaw16_Cut.mono _ _
      | exact LeO.none _
      | refine LeO.ite ?_ ?_
      | refine LeO.bind ?_ (fun _ => ?_)
    · intro y0 y1 y2 y3 y4 y5 y6 y7 y8
      unfold postriderlaw16_RouteSorted.j1
      repeat' first
      | (with_reducible exact ih0 _ _ _ _ _ _ _ _)
      | (with_reducible exact ih1 _ _ _ _ _ _ _ _ _)
      | (with_reducible exact ih2 _ _ _ _ _ _ _ _)
      | (with_reducible exact postriderlaw16_Cut.mono _ _)
      | (with_reducible exact LeO.refl _)
      | (with_reducible exact LeO.none _)
      | (with_reducible refine LeO.ite ?_ ?_)
      | (with_reducible refine LeO.bind ?_ (fun _ => ?_))
      | exact ih0 _ _ _ _ _ _ _ _
      | exact ih1 _ _ _ _ _ _ _ _ _
      | exact ih2 _ _ _ _ _ _ _ _
      | exact postriderlaw16_Cut.mono _ _
      | exact LeO.none _
      | refine LeO.ite ?_ ?_
      | refine LeO.bind ?_ (fun _ => ?_)
    · intro y0 y1 y2 y3 y4 y5 y6 y7
      unfold postriderlaw16_RouteSorted.j2
      repeat' first
      | (with_reducible exact ih0 _ _ _ _ _ _ _ _)
      | (with_reducible exact ih1 _ _ _ _ _ _ _ _ _)
      | (with_reducible exact ih2 _ _ _ _ _ _ _ _)
      | (with_reducible exact postriderlaw16_Cut.mono _ _)
      | (with_reducible exact LeO.refl _)
      | (with_reducible exact LeO.none _)
      | (with_reducible refine LeO.ite ?_ ?_)
      | (with_reducible refine LeO.bind ?_ (fun _ => ?_))
      | exact ih0 _ _ _ _ _ _ _ _
      | exact ih1 _ _ _ _ _ _ _ _ _
      | exact ih2 _ _ _ _ _ _ _ _
      | exact postriderlaw16_Cut.mono _ _
      | exact LeO.none _
      | refine LeO.ite ?_ ?_
      | refine LeO.bind ?_ (fun _ => ?_)
theorem postriderlaw16_RouteSorted.mono : ∀ a0 a1 a2 a3 a4 a5 a6 k, LeO (postriderlaw16_RouteSorted.f k a0 a1 a2 a3 a4 a5 a6) (postriderlaw16_RouteSorted.f (k + 1) a0 a1 a2 a3 a4 a5 a6) := by
  intro a0 a1 a2 a3 a4 a5 a6 k
  obtain ⟨ih0, ih1, ih2⟩ := postriderlaw16_RouteSorted.mono_l k
  unfold postriderlaw16_RouteSorted.f
  repeat' first
      | (with_reducible exact ih0 _ _ _ _ _ _ _ _)
      | (with_reducible exact ih1 _ _ _ _ _ _ _ _ _)
      | (with_reducible exact ih2 _ _ _ _ _ _ _ _)
      | (with_reducible exact postriderlaw16_Cut.mono _ _)
      | (with_reducible exact LeO.refl _)
      | (with_reducible exact LeO.none _)
      | (with_reducible refine LeO.ite ?_ ?_)
      | (with_reducible refine LeO.bind ?_ (fun _ => ?_))
      | exact ih0 _ _ _ _ _ _ _ _
      | exact ih1 _ _ _ _ _ _ _ _ _
      | exact ih2 _ _ _ _ _ _ _ _
      | exact postriderlaw16_Cut.mono _ _
      | exact LeO.none _
      | refine LeO.ite ?_ ?_
      | refine LeO.bind ?_ (fun _ => ?_)
set_option maxHeartbeats 8000000 in
set_option maxRecDepth 100000 in
theorem postriderlaw16_RouteSorted.calls (k : Nat) (A0 : Option Addr) (c0 : Nat) (l0 : List (S35)) (a1_0 : Int) (a1_1 : ByteArray) (a1_2 : ByteArray) (a1_3 : Int) (a1_4 : Int) (a2 : Int) (r : Bool) (w : World) (hr0 : Kd.C k35 w A0 l0.length l0) (hc0 : l0.length ≤ c0) (hLd : LaidR w) (h : postriderlaw16_RouteSorted.f k l0 a1_0 a1_1 a1_2 a1_3 a1_4 a2 = some r) :
    Calls Tryz.prog 6 #[.slice A0 l0.length c0, .agg #[.int .i64 a1_0, .string a1_1, .string a1_2, .int .i64 a1_3, .int .i64 a1_4], .int .i64 a2] w fun e w' => e = .returned (.bool r) ∧ Below w.heap.size w w' := by
  have hu37 := Tryz.underlying37
  have HLD := Aside0.mk hLd
  clear hLd
  have HR0 := Aside0.mk hr0
  have HC0 := Aside0.mk hc0
  clear hr0 hc0
  have HB := Aside0.mk (Below.refl w.heap.size w)
  have H : ((postriderlaw16_shown.f).bind fun t205 => ((postriderlaw16_Cut.f k l0).bind fun t206 => ((postriderlaw06_Cut.f a1_0 a1_1 a1_2 a1_3 a1_4).bind fun bt209 => ((route_All.f t206 bt209.1 bt209.2.1 bt209.2.2.1 bt209.2.2.2.1 bt209.2.2.2.2).bind fun bt214 => ((eid_PrintR.f bt209.1 bt209.2.1 bt209.2.2.1 bt209.2.2.2.1 bt209.2.2.2.2).bind fun bt218 => (if bt214.2 = 0 then (postriderlaw16_RouteSorted.l0 k t206 a2 t205 bt214.1 bt218.1 bt218.2 false 0) else (if t205 = true then (some ((bt214.1.length : Int) == 0)) else (some false)))))))) = some r := h
  clear h
  replace H := Option.bind_eq_some_iff.mp H
  obtain ⟨t205, A40, H⟩ := H
  replace H : ((postriderlaw16_Cut.f k l0).bind fun t206 => ((postriderlaw06_Cut.f a1_0 a1_1 a1_2 a1_3 a1_4).bind fun bt209 => ((route_All.f t206 bt209.1 bt209.2.1 bt209.2.2.1 bt209.2.2.2.1 bt209.2.2.2.2).bind fun bt214 => ((eid_PrintR.f bt209.1 bt209.2.1 bt209.2.2.1 bt209.2.2.2.1 bt209.2.2.2.2).bind fun bt218 => (if bt214.2 = 0 then (postriderlaw16_RouteSorted.l0 k t206 a2 t205 bt214.1 bt218.1 bt218.2 false 0) else (if t205 = true then (some ((bt214.1.length : Int) == 0)) else (some false))))))) = some r := H
  have A4 := Aside0.mk A40
  clear A40
  replace H := Option.bind_eq_some_iff.mp H
  obtain ⟨t206, A50, H⟩ := H
  replace H : ((postriderlaw06_Cut.f a1_0 a1_1 a1_2 a1_3 a1_4).bind fun bt209 => ((route_All.f t206 bt209.1 bt209.2.1 bt209.2.2.1 bt209.2.2.2.1 bt209.2.2.2.2).bind fun bt214 => ((eid_PrintR.f bt209.1 bt209.2.1 bt209.2.2.1 bt209.2.2.2.1 bt209.2.2.2.2).bind fun bt218 => (if bt214.2 = 0 then (postriderlaw16_RouteSorted.l0 k t206 a2 t205 bt214.1 bt218.1 bt218.2 false 0) else (if t205 = true then (some ((bt214.1.length : Int) == 0)) else (some false)))))) = some r := H
  have A5 := Aside0.mk A50
  clear A50
  replace H := Option.bind_eq_some_iff.mp H
  obtain ⟨⟨t209, t210, t211, t212, t213⟩, A60, H⟩ := H
  replace H : ((route_All.f t206 t209 t210 t211 t212 t213).bind fun bt214 => ((eid_PrintR.f t209 t210 t211 t212 t213).bind fun bt218 => (if bt214.2 = 0 then (postriderlaw16_RouteSorted.l0 k t206 a2 t205 bt214.1 bt218.1 bt218.2 false 0) else (if t205 = true then (some ((bt214.1.length : Int) == 0)) else (some false))))) = some r := H
  have A6 := Aside0.mk A60
  clear A60
  replace H := Option.bind_eq_some_iff.mp H
  obtain ⟨⟨t214, t217⟩, A70, H⟩ := H
  replace H : ((eid_PrintR.f t209 t210 t211 t212 t213).bind fun bt218 => (if t217 = 0 then (postriderlaw16_RouteSorted.l0 k t206 a2 t205 t214 bt218.1 bt218.2 false 0) else (if t205 = true then (some ((t214.length : Int) == 0)) else (some false)))) = some r := H
  have A7 := Aside0.mk A70
  clear A70
  replace H := Option.bind_eq_some_iff.mp H
  obtain ⟨⟨t218, t219⟩, A80, H⟩ := H
  replace H : (if t217 = 0 then (postriderlaw16_RouteSorted.l0 k t206 a2 t205 t214 t218 t219 false 0) else (if t205 = true then (some ((t214.length : Int) == 0)) else (some false))) = some r := H
  have A8 := Aside0.mk A80
  clear A80
  by_cases c9 : t217 = 0
  · rw [if_pos c9] at H
    have c9b0 : (t217 == 0) = true := beq_iff_eq.mpr c9
    have c9b1 : (t217 != 0) = false := bne_eq_false_iff_eq.mpr c9
    clear c9
    have H' := Aside0.mk H
    clear H
    go_enter Tryz.func6, Tryz.ntmps6
    go_wp2_with (first | ((with_reducible refine gate_dst (N := 4) rfl ?_); (try (refine gate_guard (by rfl) ?_; dsimp only)); refine box_event ?hg (N := 4) ?hd (cs := #[.int .i64 a1_0, .string a1_1, .string a1_2, .int .i64 a1_3, .int .i64 a1_4]) (t := 37) ?hr ?_; (case hd => rfl); (case hg => rfl); (case hr => first | (go_simp; done) | (go_simp; rfl) | (go_simp; simp only [isEmpty_ne, isEmpty_eq]; done) | (go_simp; simp only [isEmpty_ne, isEmpty_eq]; rfl)); intro gb204 hg w10 hbox hb; have n0_ := Aside0.mk (below_step (by repeat (first | (with_reducible first | exact HB.out | apply below_alloc | apply pw_below_drewN | apply below_drew1) | exact HB.out)) hb); have n1_ := Aside0.mk (hbox); have n2_ := Aside0.mk ((by rw [hg]; exact (below_size (by repeat (first | (with_reducible first | exact HB.out | apply below_alloc | apply pw_below_drewN | apply below_drew1) | exact HB.out))) : w.heap.size ≤ gb204)); have n3_ := Aside0.mk ((by rw [hg]; exact (below_size (by repeat (first | (with_reducible first | exact HB.out | apply below_alloc | apply pw_below_drewN | apply below_drew1) | exact HB.out))) : w.heap.size ≤ gb204)); clear HB; have HB := n0_; have BK204 := n1_; have GW204 := n2_; have GE204 := n3_; clear n0_ n1_ n2_ n3_; clear hb hbox hg) | (go_at_call 10; (with_reducible refine (postriderlaw16_shown.calls  t205 _ ?side1 A4.out).mono ?_); (case side1 => exact LaidR.below HLD.out (by repeat (first | (with_reducible first | exact HB.out | apply below_alloc | apply pw_below_drewN | apply below_drew1 | refine below_set ?_ GE204.out) | exact HB.out))); rintro e w11 ⟨rfl, hb⟩; have n0_ := Aside0.mk (blk_below (g := gb204) (o := .cells #[.int .i64 a1_0, .string a1_1, .string a1_2, .int .i64 a1_3, .int .i64 a1_4] 37 (0, 0)) (by (with_reducible repeat (first | refine blk_drewN ?_ _ | refine blk_drew ?_ | refine blk_alloc ?_ _)); exact BK204.out) hb); have n1_ := Aside0.mk (below_step (by repeat (first | (with_reducible first | exact HB.out | apply below_alloc | apply pw_below_drewN | apply below_drew1 | refine below_set ?_ GE204.out) | exact HB.out)) hb); clear BK204; clear HB; have BK204 := n0_; have HB := n1_; clear n0_ n1_; (try clear hb); (try clear hb2); (try clear hk); (try clear hi)) | (go_at_call 17; (with_reducible refine (postriderlaw16_Cut.calls k _ _ l0 t206 _ ?side1 ?side2 A5.out).mono ?_); (case side1 => repeat (first | exact (Kd.C_below HR0.out HB.out) | (with_reducible refine Kd.C_alloc ?_ _) | (with_reducible refine Kd.C_drewN ?_ _) | (with_reducible refine Kd.C_drew ?_))); (case side2 => exact HC0.out); rintro e w12 ⟨v207, rfl, ho0, hb⟩; have n0_ := Aside0.mk (Kd.R_lower ho0 (below_size (by repeat (first | (with_reducible first | exact HB.out | apply below_alloc | apply pw_below_drewN | apply below_drew1 | refine below_set ?_ GE204.out) | exact HB.out)))); have n1_ := Aside0.mk (blk_below (g := gb204) (o := .cells #[.int .i64 a1_0, .string a1_1, .string a1_2, .int .i64 a1_3, .int .i64 a1_4] 37 (0, 0)) (by (with_reducible repeat (first | refine blk_drewN ?_ _ | refine blk_drew ?_ | refine blk_alloc ?_ _)); exact BK204.out) hb); have n2_ := Aside0.mk (below_step (by repeat (first | (with_reducible first | exact HB.out | apply below_alloc | apply pw_below_drewN | apply below_drew1 | refine below_set ?_ GE204.out) | exact HB.out)) hb); clear BK204; clear HB; have HO208 := n0_; have BK204 := n1_; have HB := n2_; clear n0_ n1_ n2_; (try clear hb); (try clear hb2); (try clear hk); (try clear hi); (try clear ho0); have hcz13_0 : w12.cell? ⟨gb204, 0, none⟩ = some (.int .i64 a1_0) := (blk_cell BK204.out 0).trans rfl; have hcz13_1 : w12.cell? ⟨gb204, 1, none⟩ = some (.string a1_1) := (blk_cell BK204.out 1).trans rfl; have hcz13_2 : w12.cell? ⟨gb204, 2, none⟩ = some (.string a1_2) := (blk_cell BK204.out 2).trans rfl; have hcz13_3 : w12.cell? ⟨gb204, 3, none⟩ = some (.int .i64 a1_3) := (blk_cell BK204.out 3).trans rfl; have hcz13_4 : w12.cell? ⟨gb204, 4, none⟩ = some (.int .i64 a1_4) := (blk_cell BK204.out 4).trans rfl; have hfz13_0 := blk_frozen BK204.out 0; have hfz13_1 := blk_frozen BK204.out 1; have hfz13_2 := blk_frozen BK204.out 2; have hfz13_3 := blk_frozen BK204.out 3; have hfz13_4 := blk_frozen BK204.out 4) | (go_at_call 18; (with_reducible refine (postriderlaw06_Cut.calls a1_0 a1_1 a1_2 a1_3 a1_4 t209 t210 t211 t212 t213 _ A6.out).mono ?_); rintro e w14 ⟨rfl, hb⟩; have n0_ := Aside0.mk (Kd.R_below (by (with_reducible repeat (first | apply Kd.R_alloc | apply Kd.R_drewN | apply Kd.R_drew)); exact HO208.out) hb); have n1_ := Aside0.mk (blk_below (g := gb204) (o := .cells #[.int .i64 a1_0, .string a1_1, .string a1_2, .int .i64 a1_3, .int .i64 a1_4] 37 (0, 0)) (by (with_reducible repeat (first | refine blk_drewN ?_ _ | refine blk_drew ?_ | refine blk_alloc ?_ _)); exact BK204.out) hb); have n2_ := Aside0.mk (below_step (by repeat (first | (with_reducible first | exact HB.out | apply below_alloc | apply pw_below_drewN | apply below_drew1 | refine below_set ?_ GE204.out) | exact HB.out)) hb); clear HO208; clear BK204; clear HB; have HO208 := n0_; have BK204 := n1_; have HB := n2_; clear n0_ n1_ n2_; (try clear hb); (try clear hb2); (try clear hk); (try clear hi); have hcz15_0 : w14.cell? ⟨gb204, 0, none⟩ = some (.int .i64 a1_0) := (blk_cell BK204.out 0).trans rfl; have hcz15_1 : w14.cell? ⟨gb204, 1, none⟩ = some (.string a1_1) := (blk_cell BK204.out 1).trans rfl; have hcz15_2 : w14.cell? ⟨gb204, 2, none⟩ = some (.string a1_2) := (blk_cell BK204.out 2).trans rfl; have hcz15_3 : w14.cell? ⟨gb204, 3, none⟩ = some (.int .i64 a1_3) := (blk_cell BK204.out 3).trans rfl; have hcz15_4 : w14.cell? ⟨gb204, 4, none⟩ = some (.int .i64 a1_4) := (blk_cell BK204.out 4).trans rfl; have hfz15_0 := blk_frozen BK204.out 0; have hfz15_1 := blk_frozen BK204.out 1; have hfz15_2 := blk_frozen BK204.out 2; have hfz15_3 := blk_frozen BK204.out 3; have hfz15_4 := blk_frozen BK204.out 4; obtain ⟨Ao16, co16, eo16⟩ := Kd.R_slice HO208.out; subst eo16) | (go_at_call 20; (with_reducible refine (route_All.calls _ _ t206 t209 t210 t211 t212 t213 t214 t217 _ ?side1 ?side2 ?side3 A7.out).mono ?_); (case side1 => refine (Kd.R_reads' (e := 35) (base := w.heap.size) (ok := fun k_ => True) (n := t206.length) (c := co16) ?_).2.2; exact (by (with_reducible repeat (first | apply Kd.R_alloc | apply Kd.R_drewN | apply Kd.R_drew)); exact (Kd.R_mono (Kd.R_far (p := ⟨gb204, 4, none⟩) (Kd.R_far (p := ⟨gb204, 3, none⟩) (Kd.R_far (p := ⟨gb204, 2, none⟩) (Kd.R_far (p := ⟨gb204, 1, none⟩) (Kd.R_far (p := ⟨gb204, 0, none⟩) (Kd.R_types HO208.out BK204.out (by decide)) (fun _ hk => hk.2) (.int .i64 t209)) (fun _ hk => hk.2) (.string t210)) (fun _ hk => hk.2) (.string t211)) (fun _ hk => hk.2) (.int .i64 t212)) (fun _ hk => hk.2) (.int .i64 t213)) (fun _ h_ => h_.1)))); (case side2 => exact (Kd.R_reads' HO208.out).2.1); (case side3 => exact LaidR.below HLD.out (by repeat (first | (with_reducible first | exact HB.out | apply below_alloc | apply pw_below_drewN | apply below_drew1 | refine below_set ?_ GE204.out) | exact HB.out))); rintro e w17 ⟨v215, rfl, ho0, hb⟩; have n0_ := Aside0.mk (Kd.R_below (by (with_reducible repeat (first | apply Kd.R_alloc | apply Kd.R_drewN | apply Kd.R_drew)); exact (Kd.R_mono (Kd.R_far (p := ⟨gb204, 4, none⟩) (Kd.R_far (p := ⟨gb204, 3, none⟩) (Kd.R_far (p := ⟨gb204, 2, none⟩) (Kd.R_far (p := ⟨gb204, 1, none⟩) (Kd.R_far (p := ⟨gb204, 0, none⟩) (Kd.R_types HO208.out BK204.out (by decide)) (fun _ hk => hk.2) (.int .i64 t209)) (fun _ hk => hk.2) (.string t210)) (fun _ hk => hk.2) (.string t211)) (fun _ hk => hk.2) (.int .i64 t212)) (fun _ hk => hk.2) (.int .i64 t213)) (fun _ h_ => h_.1))) hb); have n1_ := Aside0.mk (Kd.R_lower ho0 (below_size (by repeat (first | (with_reducible first | exact HB.out | apply below_alloc | apply pw_below_drewN | apply below_drew1 | refine below_set ?_ GE204.out) | exact HB.out)))); have n2_ := Aside0.mk (blk_below (g := gb204) (o := .cells #[.int .i64 t209, .string t210, .string t211, .int .i64 t212, .int .i64 t213] 37 (0, 0)) (by (with_reducible repeat (first | refine blk_drewN ?_ _ | refine blk_drew ?_ | refine blk_alloc ?_ _)); refine blk_put (cs := #[.int .i64 t209, .string t210, .string t211, .int .i64 t212, .int .i64 a1_4]) ?_ 4 _ rfl; (with_reducible repeat (first | refine blk_drewN ?_ _ | refine blk_drew ?_ | refine blk_alloc ?_ _)); refine blk_put (cs := #[.int .i64 t209, .string t210, .string t211, .int .i64 a1_3, .int .i64 a1_4]) ?_ 3 _ rfl; (with_reducible repeat (first | refine blk_drewN ?_ _ | refine blk_drew ?_ | refine blk_alloc ?_ _)); refine blk_put (cs := #[.int .i64 t209, .string t210, .string a1_2, .int .i64 a1_3, .int .i64 a1_4]) ?_ 2 _ rfl; (with_reducible repeat (first | refine blk_drewN ?_ _ | refine blk_drew ?_ | refine blk_alloc ?_ _)); refine blk_put (cs := #[.int .i64 t209, .string a1_1, .string a1_2, .int .i64 a1_3, .int .i64 a1_4]) ?_ 1 _ rfl; (with_reducible repeat (first | refine blk_drewN ?_ _ | refine blk_drew ?_ | refine blk_alloc ?_ _)); refine blk_put (cs := #[.int .i64 a1_0, .string a1_1, .string a1_2, .int .i64 a1_3, .int .i64 a1_4]) ?_ 0 _ rfl; (with_reducible repeat (first | refine blk_drewN ?_ _ | refine blk_drew ?_ | refine blk_alloc ?_ _)); exact BK204.out) hb); have n3_ := Aside0.mk (below_step (by repeat (first | (with_reducible first | exact HB.out | apply below_alloc | apply pw_below_drewN | apply below_drew1 | refine below_set ?_ GE204.out) | exact HB.out)) hb); clear HO208; clear BK204; clear HB; have HO208 := n0_; have HO216 := n1_; have BK204 := n2_; have HB := n3_; clear n0_ n1_ n2_ n3_; (try clear hb); (try clear hb2); (try clear hk); (try clear hi); (try clear ho0); have hcz18_0 : w17.cell? ⟨gb204, 0, none⟩ = some (.int .i64 t209) := (blk_cell BK204.out 0).trans rfl; have hcz18_1 : w17.cell? ⟨gb204, 1, none⟩ = some (.string t210) := (blk_cell BK204.out 1).trans rfl; have hcz18_2 : w17.cell? ⟨gb204, 2, none⟩ = some (.string t211) := (blk_cell BK204.out 2).trans rfl; have hcz18_3 : w17.cell? ⟨gb204, 3, none⟩ = some (.int .i64 t212) := (blk_cell BK204.out 3).trans rfl; have hcz18_4 : w17.cell? ⟨gb204, 4, none⟩ = some (.int .i64 t213) := (blk_cell BK204.out 4).trans rfl; have hfz18_0 := blk_frozen BK204.out 0; have hfz18_1 := blk_frozen BK204.out 1; have hfz18_2 := blk_frozen BK204.out 2; have hfz18_3 := blk_frozen BK204.out 3; have hfz18_4 := blk_frozen BK204.out 4) | (go_at_call 21; (with_reducible refine (eid_PrintR.calls t209 t210 t211 t212 t213 t218 t219 _ ?side1 A8.out).mono ?_); (case side1 => exact LaidR.below HLD.out (by repeat (first | (with_reducible first | exact HB.out | apply below_alloc | apply pw_below_drewN | apply below_drew1 | refine below_set ?_ GE204.out) | exact HB.out))); rintro e w19 ⟨rfl, hb⟩; have n0_ := Aside0.mk (Kd.R_below (by (with_reducible repeat (first | apply Kd.R_alloc | apply Kd.R_drewN | apply Kd.R_drew)); exact HO208.out) hb); have n1_ := Aside0.mk (Kd.R_below (by (with_reducible repeat (first | apply Kd.R_alloc | apply Kd.R_drewN | apply Kd.R_drew)); exact HO216.out) hb); have n2_ := Aside0.mk (blk_below (g := gb204) (o := .cells #[.int .i64 t209, .string t210, .string t211, .int .i64 t212, .int .i64 t213] 37 (0, 0)) (by (with_reducible repeat (first | refine blk_drewN ?_ _ | refine blk_drew ?_ | refine blk_alloc ?_ _)); exact BK204.out) hb); have n3_ := Aside0.mk (below_step (by repeat (first | (with_reducible first | exact HB.out | apply below_alloc | apply pw_below_drewN | apply below_drew1 | refine below_set ?_ GE204.out) | exact HB.out)) hb); clear HO208; clear HO216; clear BK204; clear HB; have HO208 := n0_; have HO216 := n1_; have BK204 := n2_; have HB := n3_; clear n0_ n1_ n2_ n3_; (try clear hb); (try clear hb2); (try clear hk); (try clear hi)))
    repeat (go_quiet (first | ((with_reducible refine gate_dst (N := 4) rfl ?_); (try (refine gate_guard (by rfl) ?_; dsimp only)); refine box_event ?hg (N := 4) ?hd (cs := #[.int .i64 a1_0, .string a1_1, .string a1_2, .int .i64 a1_3, .int .i64 a1_4]) (t := 37) ?hr ?_; (case hd => rfl); (case hg => rfl); (case hr => first | (go_simp; done) | (go_simp; rfl) | (go_simp; simp only [isEmpty_ne, isEmpty_eq]; done) | (go_simp; simp only [isEmpty_ne, isEmpty_eq]; rfl)); intro gb204 hg w10 hbox hb; have n0_ := Aside0.mk (below_step (by repeat (first | (with_reducible first | exact HB.out | apply below_alloc | apply pw_below_drewN | apply below_drew1) | exact HB.out)) hb); have n1_ := Aside0.mk (hbox); have n2_ := Aside0.mk ((by rw [hg]; exact (below_size (by repeat (first | (with_reducible first | exact HB.out | apply below_alloc | apply pw_below_drewN | apply below_drew1) | exact HB.out))) : w.heap.size ≤ gb204)); have n3_ := Aside0.mk ((by rw [hg]; exact (below_size (by repeat (first | (with_reducible first | exact HB.out | apply below_alloc | apply pw_below_drewN | apply below_drew1) | exact HB.out))) : w.heap.size ≤ gb204)); clear HB; have HB := n0_; have BK204 := n1_; have GW204 := n2_; have GE204 := n3_; clear n0_ n1_ n2_ n3_; clear hb hbox hg) | (go_at_call 10; (with_reducible refine (postriderlaw16_shown.calls  t205 _ ?side1 A4.out).mono ?_); (case side1 => exact LaidR.below HLD.out (by repeat (first | (with_reducible first | exact HB.out | apply below_alloc | apply pw_below_drewN | apply below_drew1 | refine below_set ?_ GE204.out) | exact HB.out))); rintro e w11 ⟨rfl, hb⟩; have n0_ := Aside0.mk (blk_below (g := gb204) (o := .cells #[.int .i64 a1_0, .string a1_1, .string a1_2, .int .i64 a1_3, .int .i64 a1_4] 37 (0, 0)) (by (with_reducible repeat (first | refine blk_drewN ?_ _ | refine blk_drew ?_ | refine blk_alloc ?_ _)); exact BK204.out) hb); have n1_ := Aside0.mk (below_step (by repeat (first | (with_reducible first | exact HB.out | apply below_alloc | apply pw_below_drewN | apply below_drew1 | refine below_set ?_ GE204.out) | exact HB.out)) hb); clear BK204; clear HB; have BK204 := n0_; have HB := n1_; clear n0_ n1_; (try clear hb); (try clear hb2); (try clear hk); (try clear hi)) | (go_at_call 17; (with_reducible refine (postriderlaw16_Cut.calls k _ _ l0 t206 _ ?side1 ?side2 A5.out).mono ?_); (case side1 => repeat (first | exact (Kd.C_below HR0.out HB.out) | (with_reducible refine Kd.C_alloc ?_ _) | (with_reducible refine Kd.C_drewN ?_ _) | (with_reducible refine Kd.C_drew ?_))); (case side2 => exact HC0.out); rintro e w12 ⟨v207, rfl, ho0, hb⟩; have n0_ := Aside0.mk (Kd.R_lower ho0 (below_size (by repeat (first | (with_reducible first | exact HB.out | apply below_alloc | apply pw_below_drewN | apply below_drew1 | refine below_set ?_ GE204.out) | exact HB.out)))); have n1_ := Aside0.mk (blk_below (g := gb204) (o := .cells #[.int .i64 a1_0, .string a1_1, .string a1_2, .int .i64 a1_3, .int .i64 a1_4] 37 (0, 0)) (by (with_reducible repeat (first | refine blk_drewN ?_ _ | refine blk_drew ?_ | refine blk_alloc ?_ _)); exact BK204.out) hb); have n2_ := Aside0.mk (below_step (by repeat (first | (with_reducible first | exact HB.out | apply below_alloc | apply pw_below_drewN | apply below_drew1 | refine below_set ?_ GE204.out) | exact HB.out)) hb); clear BK204; clear HB; have HO208 := n0_; have BK204 := n1_; have HB := n2_; clear n0_ n1_ n2_; (try clear hb); (try clear hb2); (try clear hk); (try clear hi); (try clear ho0); have hcz13_0 : w12.cell? ⟨gb204, 0, none⟩ = some (.int .i64 a1_0) := (blk_cell BK204.out 0).trans rfl; have hcz13_1 : w12.cell? ⟨gb204, 1, none⟩ = some (.string a1_1) := (blk_cell BK204.out 1).trans rfl; have hcz13_2 : w12.cell? ⟨gb204, 2, none⟩ = some (.string a1_2) := (blk_cell BK204.out 2).trans rfl; have hcz13_3 : w12.cell? ⟨gb204, 3, none⟩ = some (.int .i64 a1_3) := (blk_cell BK204.out 3).trans rfl; have hcz13_4 : w12.cell? ⟨gb204, 4, none⟩ = some (.int .i64 a1_4) := (blk_cell BK204.out 4).trans rfl; have hfz13_0 := blk_frozen BK204.out 0; have hfz13_1 := blk_frozen BK204.out 1; have hfz13_2 := blk_frozen BK204.out 2; have hfz13_3 := blk_frozen BK204.out 3; have hfz13_4 := blk_frozen BK204.out 4) | (go_at_call 18; (with_reducible refine (postriderlaw06_Cut.calls a1_0 a1_1 a1_2 a1_3 a1_4 t209 t210 t211 t212 t213 _ A6.out).mono ?_); rintro e w14 ⟨rfl, hb⟩; have n0_ := Aside0.mk (Kd.R_below (by (with_reducible repeat (first | apply Kd.R_alloc | apply Kd.R_drewN | apply Kd.R_drew)); exact HO208.out) hb); have n1_ := Aside0.mk (blk_below (g := gb204) (o := .cells #[.int .i64 a1_0, .string a1_1, .string a1_2, .int .i64 a1_3, .int .i64 a1_4] 37 (0, 0)) (by (with_reducible repeat (first | refine blk_drewN ?_ _ | refine blk_drew ?_ | refine blk_alloc ?_ _)); exact BK204.out) hb); have n2_ := Aside0.mk (below_step (by repeat (first | (with_reducible first | exact HB.out | apply below_alloc | apply pw_below_drewN | apply below_drew1 | refine below_set ?_ GE204.out) | exact HB.out)) hb); clear HO208; clear BK204; clear HB; have HO208 := n0_; have BK204 := n1_; have HB := n2_; clear n0_ n1_ n2_; (try clear hb); (try clear hb2); (try clear hk); (try clear hi); have hcz15_0 : w14.cell? ⟨gb204, 0, none⟩ = some (.int .i64 a1_0) := (blk_cell BK204.out 0).trans rfl; have hcz15_1 : w14.cell? ⟨gb204, 1, none⟩ = some (.string a1_1) := (blk_cell BK204.out 1).trans rfl; have hcz15_2 : w14.cell? ⟨gb204, 2, none⟩ = some (.string a1_2) := (blk_cell BK204.out 2).trans rfl; have hcz15_3 : w14.cell? ⟨gb204, 3, none⟩ = some (.int .i64 a1_3) := (blk_cell BK204.out 3).trans rfl; have hcz15_4 : w14.cell? ⟨gb204, 4, none⟩ = some (.int .i64 a1_4) := (blk_cell BK204.out 4).trans rfl; have hfz15_0 := blk_frozen BK204.out 0; have hfz15_1 := blk_frozen BK204.out 1; have hfz15_2 := blk_frozen BK204.out 2; have hfz15_3 := blk_frozen BK204.out 3; have hfz15_4 := blk_frozen BK204.out 4; obtain ⟨Ao16, co16, eo16⟩ := Kd.R_slice HO208.out; subst eo16) | (go_at_call 20; (with_reducible refine (route_All.calls _ _ t206 t209 t210 t211 t212 t213 t214 t217 _ ?side1 ?side2 ?side3 A7.out).mono ?_); (case side1 => refine (Kd.R_reads' (e := 35) (base := w.heap.size) (ok := fun k_ => True) (n := t206.length) (c := co16) ?_).2.2; exact (by (with_reducible repeat (first | apply Kd.R_alloc | apply Kd.R_drewN | apply Kd.R_drew)); exact (Kd.R_mono (Kd.R_far (p := ⟨gb204, 4, none⟩) (Kd.R_far (p := ⟨gb204, 3, none⟩) (Kd.R_far (p := ⟨gb204, 2, none⟩) (Kd.R_far (p := ⟨gb204, 1, none⟩) (Kd.R_far (p := ⟨gb204, 0, none⟩) (Kd.R_types HO208.out BK204.out (by decide)) (fun _ hk => hk.2) (.int .i64 t209)) (fun _ hk => hk.2) (.string t210)) (fun _ hk => hk.2) (.string t211)) (fun _ hk => hk.2) (.int .i64 t212)) (fun _ hk => hk.2) (.int .i64 t213)) (fun _ h_ => h_.1)))); (case side2 => exact (Kd.R_reads' HO208.out).2.1); (case side3 => exact LaidR.below HLD.out (by repeat (first | (with_reducible first | exact HB.out | apply below_alloc | apply pw_below_drewN | apply below_drew1 | refine below_set ?_ GE204.out) | exact HB.out))); rintro e w17 ⟨v215, rfl, ho0, hb⟩; have n0_ := Aside0.mk (Kd.R_below (by (with_reducible repeat (first | apply Kd.R_alloc | apply Kd.R_drewN | apply Kd.R_drew)); exact (Kd.R_mono (Kd.R_far (p := ⟨gb204, 4, none⟩) (Kd.R_far (p := ⟨gb204, 3, none⟩) (Kd.R_far (p := ⟨gb204, 2, none⟩) (Kd.R_far (p := ⟨gb204, 1, none⟩) (Kd.R_far (p := ⟨gb204, 0, none⟩) (Kd.R_types HO208.out BK204.out (by decide)) (fun _ hk => hk.2) (.int .i64 t209)) (fun _ hk => hk.2) (.string t210)) (fun _ hk => hk.2) (.string t211)) (fun _ hk => hk.2) (.int .i64 t212)) (fun _ hk => hk.2) (.int .i64 t213)) (fun _ h_ => h_.1))) hb); have n1_ := Aside0.mk (Kd.R_lower ho0 (below_size (by repeat (first | (with_reducible first | exact HB.out | apply below_alloc | apply pw_below_drewN | apply below_drew1 | refine below_set ?_ GE204.out) | exact HB.out)))); have n2_ := Aside0.mk (blk_below (g := gb204) (o := .cells #[.int .i64 t209, .string t210, .string t211, .int .i64 t212, .int .i64 t213] 37 (0, 0)) (by (with_reducible repeat (first | refine blk_drewN ?_ _ | refine blk_drew ?_ | refine blk_alloc ?_ _)); refine blk_put (cs := #[.int .i64 t209, .string t210, .string t211, .int .i64 t212, .int .i64 a1_4]) ?_ 4 _ rfl; (with_reducible repeat (first | refine blk_drewN ?_ _ | refine blk_drew ?_ | refine blk_alloc ?_ _)); refine blk_put (cs := #[.int .i64 t209, .string t210, .string t211, .int .i64 a1_3, .int .i64 a1_4]) ?_ 3 _ rfl; (with_reducible repeat (first | refine blk_drewN ?_ _ | refine blk_drew ?_ | refine blk_alloc ?_ _)); refine blk_put (cs := #[.int .i64 t209, .string t210, .string a1_2, .int .i64 a1_3, .int .i64 a1_4]) ?_ 2 _ rfl; (with_reducible repeat (first | refine blk_drewN ?_ _ | refine blk_drew ?_ | refine blk_alloc ?_ _)); refine blk_put (cs := #[.int .i64 t209, .string a1_1, .string a1_2, .int .i64 a1_3, .int .i64 a1_4]) ?_ 1 _ rfl; (with_reducible repeat (first | refine blk_drewN ?_ _ | refine blk_drew ?_ | refine blk_alloc ?_ _)); refine blk_put (cs := #[.int .i64 a1_0, .string a1_1, .string a1_2, .int .i64 a1_3, .int .i64 a1_4]) ?_ 0 _ rfl; (with_reducible repeat (first | refine blk_drewN ?_ _ | refine blk_drew ?_ | refine blk_alloc ?_ _)); exact BK204.out) hb); have n3_ := Aside0.mk (below_step (by repeat (first | (with_reducible first | exact HB.out | apply below_alloc | apply pw_below_drewN | apply below_drew1 | refine below_set ?_ GE204.out) | exact HB.out)) hb); clear HO208; clear BK204; clear HB; have HO208 := n0_; have HO216 := n1_; have BK204 := n2_; have HB := n3_; clear n0_ n1_ n2_ n3_; (try clear hb); (try clear hb2); (try clear hk); (try clear hi); (try clear ho0); have hcz18_0 : w17.cell? ⟨gb204, 0, none⟩ = some (.int .i64 t209) := (blk_cell BK204.out 0).trans rfl; have hcz18_1 : w17.cell? ⟨gb204, 1, none⟩ = some (.string t210) := (blk_cell BK204.out 1).trans rfl; have hcz18_2 : w17.cell? ⟨gb204, 2, none⟩ = some (.string t211) := (blk_cell BK204.out 2).trans rfl; have hcz18_3 : w17.cell? ⟨gb204, 3, none⟩ = some (.int .i64 t212) := (blk_cell BK204.out 3).trans rfl; have hcz18_4 : w17.cell? ⟨gb204, 4, none⟩ = some (.int .i64 t213) := (blk_cell BK204.out 4).trans rfl; have hfz18_0 := blk_frozen BK204.out 0; have hfz18_1 := blk_frozen BK204.out 1; have hfz18_2 := blk_frozen BK204.out 2; have hfz18_3 := blk_frozen BK204.out 3; have hfz18_4 := blk_frozen BK204.out 4) | (go_at_call 21; (with_reducible refine (eid_PrintR.calls t209 t210 t211 t212 t213 t218 t219 _ ?side1 A8.out).mono ?_); (case side1 => exact LaidR.below HLD.out (by repeat (first | (with_reducible first | exact HB.out | apply below_alloc | apply pw_below_drewN | apply below_drew1 | refine below_set ?_ GE204.out) | exact HB.out))); rintro e w19 ⟨rfl, hb⟩; have n0_ := Aside0.mk (Kd.R_below (by (with_reducible repeat (first | apply Kd.R_alloc | apply Kd.R_drewN | apply Kd.R_drew)); exact HO208.out) hb); have n1_ := Aside0.mk (Kd.R_below (by (with_reducible repeat (first | apply Kd.R_alloc | apply Kd.R_drewN | apply Kd.R_drew)); exact HO216.out) hb); have n2_ := Aside0.mk (blk_below (g := gb204) (o := .cells #[.int .i64 t209, .string t210, .string t211, .int .i64 t212, .int .i64 t213] 37 (0, 0)) (by (with_reducible repeat (first | refine blk_drewN ?_ _ | refine blk_drew ?_ | refine blk_alloc ?_ _)); exact BK204.out) hb); have n3_ := Aside0.mk (below_step (by repeat (first | (with_reducible first | exact HB.out | apply below_alloc | apply pw_below_drewN | apply below_drew1 | refine below_set ?_ GE204.out) | exact HB.out)) hb); clear HO208; clear HO216; clear BK204; clear HB; have HO208 := n0_; have HO216 := n1_; have BK204 := n2_; have HB := n3_; clear n0_ n1_ n2_ n3_; (try clear hb); (try clear hb2); (try clear hk); (try clear hi))); try go_wp2_with (first | ((with_reducible refine gate_dst (N := 4) rfl ?_); (try (refine gate_guard (by rfl) ?_; dsimp only)); refine box_event ?hg (N := 4) ?hd (cs := #[.int .i64 a1_0, .string a1_1, .string a1_2, .int .i64 a1_3, .int .i64 a1_4]) (t := 37) ?hr ?_; (case hd => rfl); (case hg => rfl); (case hr => first | (go_simp; done) | (go_simp; rfl) | (go_simp; simp only [isEmpty_ne, isEmpty_eq]; done) | (go_simp; simp only [isEmpty_ne, isEmpty_eq]; rfl)); intro gb204 hg w10 hbox hb; have n0_ := Aside0.mk (below_step (by repeat (first | (with_reducible first | exact HB.out | apply below_alloc | apply pw_below_drewN | apply below_drew1) | exact HB.out)) hb); have n1_ := Aside0.mk (hbox); have n2_ := Aside0.mk ((by rw [hg]; exact (below_size (by repeat (first | (with_reducible first | exact HB.out | apply below_alloc | apply pw_below_drewN | apply below_drew1) | exact HB.out))) : w.heap.size ≤ gb204)); have n3_ := Aside0.mk ((by rw [hg]; exact (below_size (by repeat (first | (with_reducible first | exact HB.out | apply below_alloc | apply pw_below_drewN | apply below_drew1) | exact HB.out))) : w.heap.size ≤ gb204)); clear HB; have HB := n0_; have BK204 := n1_; have GW204 := n2_; have GE204 := n3_; clear n0_ n1_ n2_ n3_; clear hb hbox hg) | (go_at_call 10; (with_reducible refine (postriderlaw16_shown.calls  t205 _ ?side1 A4.out).mono ?_); (case side1 => exact LaidR.below HLD.out (by repeat (first | (with_reducible first | exact HB.out | apply below_alloc | apply pw_below_drewN | apply below_drew1 | refine below_set ?_ GE204.out) | exact HB.out))); rintro e w11 ⟨rfl, hb⟩; have n0_ := Aside0.mk (blk_below (g := gb204) (o := .cells #[.int .i64 a1_0, .string a1_1, .string a1_2, .int .i64 a1_3, .int .i64 a1_4] 37 (0, 0)) (by (with_reducible repeat (first | refine blk_drewN ?_ _ | refine blk_drew ?_ | refine blk_alloc ?_ _)); exact BK204.out) hb); have n1_ := Aside0.mk (below_step (by repeat (first | (with_reducible first | exact HB.out | apply below_alloc | apply pw_below_drewN | apply below_drew1 | refine below_set ?_ GE204.out) | exact HB.out)) hb); clear BK204; clear HB; have BK204 := n0_; have HB := n1_; clear n0_ n1_; (try clear hb); (try clear hb2); (try clear hk); (try clear hi)) | (go_at_call 17; (with_reducible refine (postriderlaw16_Cut.calls k _ _ l0 t206 _ ?side1 ?side2 A5.out).mono ?_); (case side1 => repeat (first | exact (Kd.C_below HR0.out HB.out) | (with_reducible refine Kd.C_alloc ?_ _) | (with_reducible refine Kd.C_drewN ?_ _) | (with_reducible refine Kd.C_drew ?_))); (case side2 => exact HC0.out); rintro e w12 ⟨v207, rfl, ho0, hb⟩; have n0_ := Aside0.mk (Kd.R_lower ho0 (below_size (by repeat (first | (with_reducible first | exact HB.out | apply below_alloc | apply pw_below_drewN | apply below_drew1 | refine below_set ?_ GE204.out) | exact HB.out)))); have n1_ := Aside0.mk (blk_below (g := gb204) (o := .cells #[.int .i64 a1_0, .string a1_1, .string a1_2, .int .i64 a1_3, .int .i64 a1_4] 37 (0, 0)) (by (with_reducible repeat (first | refine blk_drewN ?_ _ | refine blk_drew ?_ | refine blk_alloc ?_ _)); exact BK204.out) hb); have n2_ := Aside0.mk (below_step (by repeat (first | (with_reducible first | exact HB.out | apply below_alloc | apply pw_below_drewN | apply below_drew1 | refine below_set ?_ GE204.out) | exact HB.out)) hb); clear BK204; clear HB; have HO208 := n0_; have BK204 := n1_; have HB := n2_; clear n0_ n1_ n2_; (try clear hb); (try clear hb2); (try clear hk); (try clear hi); (try clear ho0); have hcz13_0 : w12.cell? ⟨gb204, 0, none⟩ = some (.int .i64 a1_0) := (blk_cell BK204.out 0).trans rfl; have hcz13_1 : w12.cell? ⟨gb204, 1, none⟩ = some (.string a1_1) := (blk_cell BK204.out 1).trans rfl; have hcz13_2 : w12.cell? ⟨gb204, 2, none⟩ = some (.string a1_2) := (blk_cell BK204.out 2).trans rfl; have hcz13_3 : w12.cell? ⟨gb204, 3, none⟩ = some (.int .i64 a1_3) := (blk_cell BK204.out 3).trans rfl; have hcz13_4 : w12.cell? ⟨gb204, 4, none⟩ = some (.int .i64 a1_4) := (blk_cell BK204.out 4).trans rfl; have hfz13_0 := blk_frozen BK204.out 0; have hfz13_1 := blk_frozen BK204.out 1; have hfz13_2 := blk_frozen BK204.out 2; have hfz13_3 := blk_frozen BK204.out 3; have hfz13_4 := blk_frozen BK204.out 4) | (go_at_call 18; (with_reducible refine (postriderlaw06_Cut.calls a1_0 a1_1 a1_2 a1_3 a1_4 t209 t210 t211 t212 t213 _ A6.out).mono ?_); rintro e w14 ⟨rfl, hb⟩; have n0_ := Aside0.mk (Kd.R_below (by (with_reducible repeat (first | apply Kd.R_alloc | apply Kd.R_drewN | apply Kd.R_drew)); exact HO208.out) hb); have n1_ := Aside0.mk (blk_below (g := gb204) (o := .cells #[.int .i64 a1_0, .string a1_1, .string a1_2, .int .i64 a1_3, .int .i64 a1_4] 37 (0, 0)) (by (with_reducible repeat (first | refine blk_drewN ?_ _ | refine blk_drew ?_ | refine blk_alloc ?_ _)); exact BK204.out) hb); have n2_ := Aside0.mk (below_step (by repeat (first | (with_reducible first | exact HB.out | apply below_alloc | apply pw_below_drewN | apply below_drew1 | refine below_set ?_ GE204.out) | exact HB.out)) hb); clear HO208; clear BK204; clear HB; have HO208 := n0_; have BK204 := n1_; have HB := n2_; clear n0_ n1_ n2_; (try clear hb); (try clear hb2); (try clear hk); (try clear hi); have hcz15_0 : w14.cell? ⟨gb204, 0, none⟩ = some (.int .i64 a1_0) := (blk_cell BK204.out 0).trans rfl; have hcz15_1 : w14.cell? ⟨gb204, 1, none⟩ = some (.string a1_1) := (blk_cell BK204.out 1).trans rfl; have hcz15_2 : w14.cell? ⟨gb204, 2, none⟩ = some (.string a1_2) := (blk_cell BK204.out 2).trans rfl; have hcz15_3 : w14.cell? ⟨gb204, 3, none⟩ = some (.int .i64 a1_3) := (blk_cell BK204.out 3).trans rfl; have hcz15_4 : w14.cell? ⟨gb204, 4, none⟩ = some (.int .i64 a1_4) := (blk_cell BK204.out 4).trans rfl; have hfz15_0 := blk_frozen BK204.out 0; have hfz15_1 := blk_frozen BK204.out 1; have hfz15_2 := blk_frozen BK204.out 2; have hfz15_3 := blk_frozen BK204.out 3; have hfz15_4 := blk_frozen BK204.out 4; obtain ⟨Ao16, co16, eo16⟩ := Kd.R_slice HO208.out; subst eo16) | (go_at_call 20; (with_reducible refine (route_All.calls _ _ t206 t209 t210 t211 t212 t213 t214 t217 _ ?side1 ?side2 ?side3 A7.out).mono ?_); (case side1 => refine (Kd.R_reads' (e := 35) (base := w.heap.size) (ok := fun k_ => True) (n := t206.length) (c := co16) ?_).2.2; exact (by (with_reducible repeat (first | apply Kd.R_alloc | apply Kd.R_drewN | apply Kd.R_drew)); exact (Kd.R_mono (Kd.R_far (p := ⟨gb204, 4, none⟩) (Kd.R_far (p := ⟨gb204, 3, none⟩) (Kd.R_far (p := ⟨gb204, 2, none⟩) (Kd.R_far (p := ⟨gb204, 1, none⟩) (Kd.R_far (p := ⟨gb204, 0, none⟩) (Kd.R_types HO208.out BK204.out (by decide)) (fun _ hk => hk.2) (.int .i64 t209)) (fun _ hk => hk.2) (.string t210)) (fun _ hk => hk.2) (.string t211)) (fun _ hk => hk.2) (.int .i64 t212)) (fun _ hk => hk.2) (.int .i64 t213)) (fun _ h_ => h_.1)))); (case side2 => exact (Kd.R_reads' HO208.out).2.1); (case side3 => exact LaidR.below HLD.out (by repeat (first | (with_reducible first | exact HB.out | apply below_alloc | apply pw_below_drewN | apply below_drew1 | refine below_set ?_ GE204.out) | exact HB.out))); rintro e w17 ⟨v215, rfl, ho0, hb⟩; have n0_ := Aside0.mk (Kd.R_below (by (with_reducible repeat (first | apply Kd.R_alloc | apply Kd.R_drewN | apply Kd.R_drew)); exact (Kd.R_mono (Kd.R_far (p := ⟨gb204, 4, none⟩) (Kd.R_far (p := ⟨gb204, 3, none⟩) (Kd.R_far (p := ⟨gb204, 2, none⟩) (Kd.R_far (p := ⟨gb204, 1, none⟩) (Kd.R_far (p := ⟨gb204, 0, none⟩) (Kd.R_types HO208.out BK204.out (by decide)) (fun _ hk => hk.2) (.int .i64 t209)) (fun _ hk => hk.2) (.string t210)) (fun _ hk => hk.2) (.string t211)) (fun _ hk => hk.2) (.int .i64 t212)) (fun _ hk => hk.2) (.int .i64 t213)) (fun _ h_ => h_.1))) hb); have n1_ := Aside0.mk (Kd.R_lower ho0 (below_size (by repeat (first | (with_reducible first | exact HB.out | apply below_alloc | apply pw_below_drewN | apply below_drew1 | refine below_set ?_ GE204.out) | exact HB.out)))); have n2_ := Aside0.mk (blk_below (g := gb204) (o := .cells #[.int .i64 t209, .string t210, .string t211, .int .i64 t212, .int .i64 t213] 37 (0, 0)) (by (with_reducible repeat (first | refine blk_drewN ?_ _ | refine blk_drew ?_ | refine blk_alloc ?_ _)); refine blk_put (cs := #[.int .i64 t209, .string t210, .string t211, .int .i64 t212, .int .i64 a1_4]) ?_ 4 _ rfl; (with_reducible repeat (first | refine blk_drewN ?_ _ | refine blk_drew ?_ | refine blk_alloc ?_ _)); refine blk_put (cs := #[.int .i64 t209, .string t210, .string t211, .int .i64 a1_3, .int .i64 a1_4]) ?_ 3 _ rfl; (with_reducible repeat (first | refine blk_drewN ?_ _ | refine blk_drew ?_ | refine blk_alloc ?_ _)); refine blk_put (cs := #[.int .i64 t209, .string t210, .string a1_2, .int .i64 a1_3, .int .i64 a1_4]) ?_ 2 _ rfl; (with_reducible repeat (first | refine blk_drewN ?_ _ | refine blk_drew ?_ | refine blk_alloc ?_ _)); refine blk_put (cs := #[.int .i64 t209, .string a1_1, .string a1_2, .int .i64 a1_3, .int .i64 a1_4]) ?_ 1 _ rfl; (with_reducible repeat (first | refine blk_drewN ?_ _ | refine blk_drew ?_ | refine blk_alloc ?_ _)); refine blk_put (cs := #[.int .i64 a1_0, .string a1_1, .string a1_2, .int .i64 a1_3, .int .i64 a1_4]) ?_ 0 _ rfl; (with_reducible repeat (first | refine blk_drewN ?_ _ | refine blk_drew ?_ | refine blk_alloc ?_ _)); exact BK204.out) hb); have n3_ := Aside0.mk (below_step (by repeat (first | (with_reducible first | exact HB.out | apply below_alloc | apply pw_below_drewN | apply below_drew1 | refine below_set ?_ GE204.out) | exact HB.out)) hb); clear HO208; clear BK204; clear HB; have HO208 := n0_; have HO216 := n1_; have BK204 := n2_; have HB := n3_; clear n0_ n1_ n2_ n3_; (try clear hb); (try clear hb2); (try clear hk); (try clear hi); (try clear ho0); have hcz18_0 : w17.cell? ⟨gb204, 0, none⟩ = some (.int .i64 t209) := (blk_cell BK204.out 0).trans rfl; have hcz18_1 : w17.cell? ⟨gb204, 1, none⟩ = some (.string t210) := (blk_cell BK204.out 1).trans rfl; have hcz18_2 : w17.cell? ⟨gb204, 2, none⟩ = some (.string t211) := (blk_cell BK204.out 2).trans rfl; have hcz18_3 : w17.cell? ⟨gb204, 3, none⟩ = some (.int .i64 t212) := (blk_cell BK204.out 3).trans rfl; have hcz18_4 : w17.cell? ⟨gb204, 4, none⟩ = some (.int .i64 t213) := (blk_cell BK204.out 4).trans rfl; have hfz18_0 := blk_frozen BK204.out 0; have hfz18_1 := blk_frozen BK204.out 1; have hfz18_2 := blk_frozen BK204.out 2; have hfz18_3 := blk_frozen BK204.out 3; have hfz18_4 := blk_frozen BK204.out 4) | (go_at_call 21; (with_reducible refine (eid_PrintR.calls t209 t210 t211 t212 t213 t218 t219 _ ?side1 A8.out).mono ?_); (case side1 => exact LaidR.below HLD.out (by repeat (first | (with_reducible first | exact HB.out | apply below_alloc | apply pw_below_drewN | apply below_drew1 | refine below_set ?_ GE204.out) | exact HB.out))); rintro e w19 ⟨rfl, hb⟩; have n0_ := Aside0.mk (Kd.R_below (by (with_reducible repeat (first | apply Kd.R_alloc | apply Kd.R_drewN | apply Kd.R_drew)); exact HO208.out) hb); have n1_ := Aside0.mk (Kd.R_below (by (with_reducible repeat (first | apply Kd.R_alloc | apply Kd.R_drewN | apply Kd.R_drew)); exact HO216.out) hb); have n2_ := Aside0.mk (blk_below (g := gb204) (o := .cells #[.int .i64 t209, .string t210, .string t211, .int .i64 t212, .int .i64 t213] 37 (0, 0)) (by (with_reducible repeat (first | refine blk_drewN ?_ _ | refine blk_drew ?_ | refine blk_alloc ?_ _)); exact BK204.out) hb); have n3_ := Aside0.mk (below_step (by repeat (first | (with_reducible first | exact HB.out | apply below_alloc | apply pw_below_drewN | apply below_drew1 | refine below_set ?_ GE204.out) | exact HB.out)) hb); clear HO208; clear HO216; clear BK204; clear HB; have HO208 := n0_; have HO216 := n1_; have BK204 := n2_; have HB := n3_; clear n0_ n1_ n2_ n3_; (try clear hb); (try clear hb2); (try clear hk); (try clear hi))))
    go_loopg [12, 13] k (fun kq v12 v13 w' => ∃ (x12_1 : Bool) (x13_1 : Int), v12 = .bool x12_1 ∧ v13 = .int .i64 x13_1 ∧ Aside0 (postriderlaw16_RouteSorted.l0 kq t206 a2 t205 t214 t218 t219 x12_1 x13_1 = some r) ∧ Aside0 (kq ≤ k) ∧ Aside0 (Kd.R k35 35 w' w.heap.size (fun _ => True) (.slice Ao16 t206.length co16) t206) ∧ Aside0 (Kd.R (Kd.int .i64) 3 w' w.heap.size (fun _ => True) v215 t214) ∧ Aside0 (w'.heap[gb204]? = some (.cells #[.int .i64 t209, .string t210, .string t211, .int .i64 t212, .int .i64 t213] 37 (0, 0))) ∧ Aside0 (Below w.heap.size w w'))
    case atStart => exact ⟨(false), (0), (by first | rfl | (simp; done) | (simp [*]; done)), (by first | rfl | (simp; done) | (simp [*]; done)), H', ⟨Nat.le_refl _⟩, ⟨by (with_reducible repeat (first | apply Kd.R_alloc | apply Kd.R_drewN | apply Kd.R_drew)); exact HO208.out⟩, ⟨by (with_reducible repeat (first | apply Kd.R_alloc | apply Kd.R_drewN | apply Kd.R_drew)); exact HO216.out⟩, ⟨by (with_reducible repeat (first | refine blk_drewN ?_ _ | refine blk_drew ?_ | refine blk_alloc ?_ _)); exact BK204.out⟩, ⟨by repeat (first | (with_reducible first | exact HB.out | apply below_alloc | apply pw_below_drewN | apply below_drew1 | refine below_set ?_ GE204.out) | exact HB.out)⟩⟩
    case round =>
      clear H'
      try clear p2
      try clear c6
      try clear c9
      try clear c9b0
      try clear c9b1
      try clear hcz13_0
      try clear hcz13_1
      try clear hcz13_2
      try clear hcz13_3
      try clear hcz13_4
      try clear hcz15_0
      try clear hcz15_1
      try clear hcz15_2
      try clear hcz15_3
      try clear hcz15_4
      try clear hcz18_0
      try clear hcz18_1
      try clear hcz18_2
      try clear hcz18_3
      try clear hcz18_4
      try clear hfz13_0
      try clear hfz13_1
      try clear hfz13_2
      try clear hfz13_3
      try clear hfz13_4
      try clear hfz15_0
      try clear hfz15_1
      try clear hfz15_2
      try clear hfz15_3
      try clear hfz15_4
      try clear hfz18_0
      try clear hfz18_1
      try clear hfz18_2
      try clear hfz18_3
      try clear hfz18_4
      obtain ⟨x12_1, x13_1, rfl, rfl, HA, HK1, HO_0, HO_8, BK204, HB⟩ := hrel
      cases gk with
      | zero => exact absurd HA.out (by simp [postriderlaw16_RouteSorted.l0])
      | succ k1 =>
        have H := HA.out
        clear HA
        simp only [postriderlaw16_RouteSorted.l0] at H
        by_cases c20 : x13_1 < (t214.length : Int)
        · rw [if_pos c20] at H
          have c20b0 : decide (x13_1 < (t214.length : Int)) = true := decide_eq_true c20
          clear c20
          have HC21 := Aside0.mk H
          clear H
          obtain ⟨Ao22, co22, eo22⟩ := Kd.R_slice HO_8.out
          subst eo22
          go_upto_region 12 with (fail)
          repeat (go_quiet (fail); go_upto_region 12 with (fail))
          go_cut [60] (fun v60 wc => ∃ (kq : Nat) (x60_20 : Bool), v60 = .bool x60_20 ∧ Aside0 (postriderlaw16_RouteSorted.j1 kq t206 a2 t205 t214 t218 t219 x12_1 x13_1 x60_20 = some r) ∧ Aside0 (kq ≤ k1) ∧ Aside0 (Kd.R k35 35 wc w.heap.size (fun _ => True) (.slice Ao16 t206.length co16) t206) ∧ Aside0 (Kd.R (Kd.int .i64) 3 wc w.heap.size (fun _ => True) (.slice Ao22 t214.length co22) t214) ∧ Aside0 (wc.heap[gb204]? = some (.cells #[.int .i64 t209, .string t210, .string t211, .int .i64 t212, .int .i64 t213] 37 (0, 0))) ∧ Aside0 (Below w.heap.size w wc))
          case first =>
            have H := HC21.out
            clear HC21
            by_cases c23 : 0 ≤ x13_1
            · rw [if_pos c23] at H
              have c23b0 : decide (0 ≤ x13_1) = true := decide_eq_true c23
              clear c23
              (first | rw [c23b0] | (simp only [i64_w, i32_w]; rw [c23b0]) | skip)
              by_cases c24 : (rd t214 x13_1) < 0
              · rw [if_pos c24] at H
                have c24b0 : decide ((rd t214 x13_1) < 0) = true := decide_eq_true c24
                clear c24
                have H' := Aside0.mk H
                clear H
                have p222 : 0 ≤ (x13_1 : Int) := of_decide_eq_true (by first | (with_reducible assumption) | assumption)
                have q222 : x13_1 < (t214.length : Int) := of_decide_eq_true (by first | (with_reducible assumption) | assumption)
                obtain ⟨ad222, e222, hx222_0⟩ := Kd.at_int (Kd.R_reads' HO_8.out).2.2 x13_1 p222 q222
                cases e222
                replace p222 := eq_true p222
                replace q222 := eq_true q222
                go_wp2
                repeat (go_quiet (fail); try go_wp2)
                go_meet
                case rel => exact ⟨_, (true), (by first | rfl | (simp; done) | (simp [*]; done)), H', ⟨by have := HK1.out; first | omega | exact Nat.le_refl _⟩, ⟨by (with_reducible repeat (first | apply Kd.R_alloc | apply Kd.R_drewN | apply Kd.R_drew)); exact HO_0.out⟩, ⟨by (with_reducible repeat (first | apply Kd.R_alloc | apply Kd.R_drewN | apply Kd.R_drew)); exact HO_8.out⟩, ⟨by (with_reducible repeat (first | refine blk_drewN ?_ _ | refine blk_drew ?_ | refine blk_alloc ?_ _)); exact BK204.out⟩, ⟨by repeat (first | (with_reducible first | exact HB.out | apply below_alloc | apply pw_below_drewN | apply below_drew1 | refine below_set ?_ GE204.out) | exact HB.out)⟩⟩
              · rw [if_neg c24] at H
                have c24b0 : decide ((rd t214 x13_1) < 0) = false := decide_eq_false c24
                clear c24
                have H' := Aside0.mk H
                clear H
                have p222 : 0 ≤ (x13_1 : Int) := of_decide_eq_true (by first | (with_reducible assumption) | assumption)
                have q222 : x13_1 < (t214.length : Int) := of_decide_eq_true (by first | (with_reducible assumption) | assumption)
                obtain ⟨ad222, e222, hx222_0⟩ := Kd.at_int (Kd.R_reads' HO_8.out).2.2 x13_1 p222 q222
                cases e222
                replace p222 := eq_true p222
                replace q222 := eq_true q222
                have p223 : 0 ≤ (x13_1 : Int) := of_decide_eq_true (by first | (with_reducible assumption) | assumption)
                have q223 : x13_1 < (t214.length : Int) := of_decide_eq_true (by first | (with_reducible assumption) | assumption)
                obtain ⟨ad223, e223, hx223_0⟩ := Kd.at_int (Kd.R_reads' HO_8.out).2.2 x13_1 p223 q223
                obtain rfl : ad222 = ad223 := (by injection e223)
                replace p223 := eq_true p223
                replace q223 := eq_true q223
                go_wp2
                repeat (go_quiet (fail); try go_wp2)
                go_meet
                case rel => exact ⟨_, (decide ((rd t214 x13_1) ≥ (t206.length : Int))), (by first | rfl | (simp; done) | (simp [*]; done)), H', ⟨by have := HK1.out; first | omega | exact Nat.le_refl _⟩, ⟨by (with_reducible repeat (first | apply Kd.R_alloc | apply Kd.R_drewN | apply Kd.R_drew)); exact HO_0.out⟩, ⟨by (with_reducible repeat (first | apply Kd.R_alloc | apply Kd.R_drewN | apply Kd.R_drew)); exact HO_8.out⟩, ⟨by (with_reducible repeat (first | refine blk_drewN ?_ _ | refine blk_drew ?_ | refine blk_alloc ?_ _)); exact BK204.out⟩, ⟨by repeat (first | (with_reducible first | exact HB.out | apply below_alloc | apply pw_below_drewN | apply below_drew1 | refine below_set ?_ GE204.out) | exact HB.out)⟩⟩
            · rw [if_neg c23] at H
              exact absurd H (by simp)
          case rest =>
            clear HC21
            try clear c2
            try clear p2
            try clear q2
            try clear hx2
            try clear c6
            try clear c9
            try clear c9b0
            try clear c9b1
            try clear c20
            try clear c20b0
            try clear p22
            try clear q22
            try clear hx22
            try clear c23
            try clear c23b0
            try clear c24
            try clear c24b0
            try clear hcz13_0
            try clear hcz13_1
            try clear hcz13_2
            try clear hcz13_3
            try clear hcz13_4
            try clear hcz15_0
            try clear hcz15_1
            try clear hcz15_2
            try clear hcz15_3
            try clear hcz15_4
            try clear hcz18_0
            try clear hcz18_1
            try clear hcz18_2
            try clear hcz18_3
            try clear hcz18_4
            try clear hfz13_0
            try clear hfz13_1
            try clear hfz13_2
            try clear hfz13_3
            try clear hfz13_4
            try clear hfz15_0
            try clear hfz15_1
            try clear hfz15_2
            try clear hfz15_3
            try clear hfz15_4
            try clear hfz18_0
            try clear hfz18_1
            try clear hfz18_2
            try clear hfz18_3
            try clear hfz18_4
            try clear hx222_0
            try clear hx223_0
            try clear p2
            try clear p222
            try clear p223
            try clear q222
            try clear q223
            obtain ⟨kq, x60_20, rfl, HA, HJ20, HO_0, HO_8, BK204, HB⟩ := hcut
            cases kq with
            | zero => exact absurd HA.out (by simp [postriderlaw16_RouteSorted.j1])
            | succ kj20 =>
              have H := HA.out
              clear HA
              simp only [postriderlaw16_RouteSorted.j1] at H
              by_cases c25 : x60_20 = true
              · subst c25
                have H1 : (some false) = some r := by rw [if_pos rfl] at H; exact H
                clear H
                have H := H1
                clear H1
                obtain rfl := Option.some.inj H
                go_wp2
                repeat (go_quiet (fail); try go_wp2)
                all_goals (first | (go_ret; exact ⟨by first | rfl | (simp [errW_none, errW_some] <;> rfl) | (simp [*, errW_none, errW_some] <;> rfl) | (simp_all; done) | fail, by repeat (first | (with_reducible first | exact HB.out | apply below_alloc | apply pw_below_drewN | apply below_drew1 | refine below_set ?_ GE204.out) | exact HB.out)⟩) | (exfalso; simp_all; done) | (exfalso; simp only [isEmpty_eq, isEmpty_ne] at *; simp_all; done) | (exfalso; exact isEmpty_clash (by assumption) (by assumption)) | (exfalso; exact isEmpty_clash' (by assumption) (by assumption)) | (exfalso; exact isEmpty_clash2 (by assumption) (by assumption)) | (exfalso; simp only [decide_eq_true_eq, decide_eq_false_iff_not] at *; omega))
              · replace c25 := Bool.eq_false_iff.mpr c25
                subst c25
                have H1 : (if x12_1 = true then (postriderlaw16_RouteSorted.j2 kj20 t206 a2 t205 t214 t218 t219 true x13_1) else (if 0 ≤ x13_1 then (if x13_1 < (t214.length : Int) then (postriderlaw16_RouteSorted.j2 kj20 t206 a2 t205 t214 t218 t219 ((rd t214 x13_1) == a2) x13_1) else (none)) else (none))) = some r := by rw [if_neg (show ¬ (false = true) by decide)] at H; exact H
                clear H
                have H := H1
                clear H1
                have HC26 := Aside0.mk H
                clear H
                go_upto_region 14 with (fail)
                repeat (go_quiet (fail); go_upto_region 14 with (fail))
                go_cut [12] (fun v12 wc => ∃ (kq : Nat) (x12_25 : Bool), v12 = .bool x12_25 ∧ Aside0 (postriderlaw16_RouteSorted.j2 kq t206 a2 t205 t214 t218 t219 x12_25 x13_1 = some r) ∧ Aside0 (kq ≤ kj20) ∧ Aside0 (Kd.R k35 35 wc w.heap.size (fun _ => True) (.slice Ao16 t206.length co16) t206) ∧ Aside0 (Kd.R (Kd.int .i64) 3 wc w.heap.size (fun _ => True) (.slice Ao22 t214.length co22) t214) ∧ Aside0 (wc.heap[gb204]? = some (.cells #[.int .i64 t209, .string t210, .string t211, .int .i64 t212, .int .i64 t213] 37 (0, 0))) ∧ Aside0 (Below w.heap.size w wc))
                case first =>
                  have H := HC26.out
                  clear HC26
                  by_cases c27 : x12_1 = true
                  · subst c27
                    have H1 : (postriderlaw16_RouteSorted.j2 kj20 t206 a2 t205 t214 t218 t219 true x13_1) = some r := by rw [if_pos rfl] at H; exact H
                    clear H
                    have H := H1
                    clear H1
                    have H' := Aside0.mk H
                    clear H
                    go_wp2
                    repeat (go_quiet (fail); try go_wp2)
                    go_meet
                    case rel => exact ⟨_, (true), (by first | rfl | (simp; done) | (simp [*]; done)), H', ⟨by have := HK1.out; have := HJ20.out; first | omega | exact Nat.le_refl _⟩, ⟨by (with_reducible repeat (first | apply Kd.R_alloc | apply Kd.R_drewN | apply Kd.R_drew)); exact HO_0.out⟩, ⟨by (with_reducible repeat (first | apply Kd.R_alloc | apply Kd.R_drewN | apply Kd.R_drew)); exact HO_8.out⟩, ⟨by (with_reducible repeat (first | refine blk_drewN ?_ _ | refine blk_drew ?_ | refine blk_alloc ?_ _)); exact BK204.out⟩, ⟨by repeat (first | (with_reducible first | exact HB.out | apply below_alloc | apply pw_below_drewN | apply below_drew1 | refine below_set ?_ GE204.out) | exact HB.out)⟩⟩
                  · replace c27 := Bool.eq_false_iff.mpr c27
                    subst c27
                    have H1 : (if 0 ≤ x13_1 then (if x13_1 < (t214.length : Int) then (postriderlaw16_RouteSorted.j2 kj20 t206 a2 t205 t214 t218 t219 ((rd t214 x13_1) == a2) x13_1) else (none)) else (none)) = some r := by rw [if_neg (show ¬ (false = true) by decide)] at H; exact H
                    clear H
                    have H := H1
                    clear H1
                    by_cases c28 : 0 ≤ x13_1
                    · rw [if_pos c28] at H
                      have c28b0 : decide (0 ≤ x13_1) = true := decide_eq_true c28
                      clear c28
                      (first | rw [c28b0] | (simp only [i64_w, i32_w]; rw [c28b0]) | skip)
                      by_cases c29 : x13_1 < (t214.length : Int)
                      · rw [if_pos c29] at H
                        have c29b0 : decide (x13_1 < (t214.length : Int)) = true := decide_eq_true c29
                        clear c29
                        have H' := Aside0.mk H
                        clear H
                        have p224 : 0 ≤ (x13_1 : Int) := of_decide_eq_true (by first | (with_reducible assumption) | assumption)
                        have q224 : x13_1 < (t214.length : Int) := of_decide_eq_true (by first | (with_reducible assumption) | assumption)
                        obtain ⟨ad224, e224, hx224_0⟩ := Kd.at_int (Kd.R_reads' HO_8.out).2.2 x13_1 p224 q224
                        cases e224
                        replace p224 := eq_true p224
                        replace q224 := eq_true q224
                        go_wp2
                        repeat (go_quiet (fail); try go_wp2)
                        go_meet
                        case rel => exact ⟨_, (((rd t214 x13_1) == a2)), (by first | rfl | (simp; done) | (simp [*]; done)), H', ⟨by have := HK1.out; have := HJ20.out; first | omega | exact Nat.le_refl _⟩, ⟨by (with_reducible repeat (first | apply Kd.R_alloc | apply Kd.R_drewN | apply Kd.R_drew)); exact HO_0.out⟩, ⟨by (with_reducible repeat (first | apply Kd.R_alloc | apply Kd.R_drewN | apply Kd.R_drew)); exact HO_8.out⟩, ⟨by (with_reducible repeat (first | refine blk_drewN ?_ _ | refine blk_drew ?_ | refine blk_alloc ?_ _)); exact BK204.out⟩, ⟨by repeat (first | (with_reducible first | exact HB.out | apply below_alloc | apply pw_below_drewN | apply below_drew1 | refine below_set ?_ GE204.out) | exact HB.out)⟩⟩
                      · rw [if_neg c29] at H
                        exact absurd H (by simp)
                    · rw [if_neg c28] at H
                      exact absurd H (by simp)
                case rest =>
                  clear HC26
                  try clear c2
                  try clear p2
                  try clear q2
                  try clear hx2
                  try clear c6
                  try clear c9
                  try clear c9b0
                  try clear c9b1
                  try clear c20
                  try clear c20b0
                  try clear p22
                  try clear q22
                  try clear hx22
                  try clear c23
                  try clear c23b0
                  try clear c24
                  try clear c24b0
                  try clear c25
                  try clear c27
                  try clear c28
                  try clear c28b0
                  try clear c29
                  try clear c29b0
                  try clear hcz13_0
                  try clear hcz13_1
                  try clear hcz13_2
                  try clear hcz13_3
                  try clear hcz13_4
                  try clear hcz15_0
                  try clear hcz15_1
                  try clear hcz15_2
                  try clear hcz15_3
                  try clear hcz15_4
                  try clear hcz18_0
                  try clear hcz18_1
                  try clear hcz18_2
                  try clear hcz18_3
                  try clear hcz18_4
                  try clear hfz13_0
                  try clear hfz13_1
                  try clear hfz13_2
                  try clear hfz13_3
                  try clear hfz13_4
                  try clear hfz15_0
                  try clear hfz15_1
                  try clear hfz15_2
                  try clear hfz15_3
                  try clear hfz15_4
                  try clear hfz18_0
                  try clear hfz18_1
                  try clear hfz18_2
                  try clear hfz18_3
                  try clear hfz18_4
                  try clear hx222_0
                  try clear hx223_0
                  try clear hx224_0
                  try clear p2
                  try clear p22
                  try clear p222
                  try clear p223
                  try clear p224
                  try clear q2
                  try clear q22
                  try clear q222
                  try clear q223
                  try clear q224
                  obtain ⟨kq, x12_25, rfl, HA, HJ25, HO_0, HO_8, BK204, HB⟩ := hcut
                  cases kq with
                  | zero => exact absurd HA.out (by simp [postriderlaw16_RouteSorted.j2])
                  | succ kj25 =>
                    have H := HA.out
                    clear HA
                    simp only [postriderlaw16_RouteSorted.j2] at H
                    by_cases c30 : x13_1 > 0
                    · rw [if_pos c30] at H
                      have c30b0 : decide (0 < x13_1) = true := decide_eq_true c30
                      clear c30
                      obtain ⟨ji31, hji31⟩ : ∃ j_ : Int, (wrap64 (x13_1 - 1)) = j_ := ⟨_, rfl⟩
                      replace H : (if 0 ≤ (ji31) then (if (ji31) < (t214.length : Int) then (if 0 ≤ (rd t214 (ji31)) then (if (rd t214 (ji31)) < (t206.length : Int) then (if 0 ≤ x13_1 then (if x13_1 < (t214.length : Int) then (if 0 ≤ (rd t214 x13_1) then (if (rd t214 x13_1) < (t206.length : Int) then (if (((rd_T35 t206 (rd t214 (ji31))).f0).size : Int) < (((rd_T35 t206 (rd t214 x13_1)).f0).size : Int) then (some false) else (if (((rd_T35 t206 (rd t214 (ji31))).f0).size : Int) = (((rd_T35 t206 (rd t214 x13_1)).f0).size : Int) then (if (rd t214 (ji31)) ≥ (rd t214 x13_1) then (some false) else (postriderlaw16_RouteSorted.l0 kj25 t206 a2 t205 t214 t218 t219 x12_25 (wrap64 (x13_1 + 1)))) else (postriderlaw16_RouteSorted.l0 kj25 t206 a2 t205 t214 t218 t219 x12_25 (wrap64 (x13_1 + 1))))) else (none)) else (none)) else (none)) else (none)) else (none)) else (none)) else (none)) else (none)) = some r := by first | (rw [hji31] at H; exact H) | (simp only [hji31] at H ⊢; exact H)
                      have hji31w : (IntKind.i64.wrap (x13_1 - 1)) = ji31 := (i64_w _).trans hji31
                      by_cases c32 : 0 ≤ (ji31)
                      · rw [if_pos c32] at H
                        have c32b0 : decide (0 ≤ (ji31)) = true := decide_eq_true c32
                        clear c32
                        by_cases c33 : (ji31) < (t214.length : Int)
                        · rw [if_pos c33] at H
                          have c33b0 : decide ((ji31) < (t214.length : Int)) = true := decide_eq_true c33
                          clear c33
                          by_cases c34 : 0 ≤ (rd t214 (ji31))
                          · rw [if_pos c34] at H
                            have c34b0 : decide (0 ≤ (rd t214 (ji31))) = true := decide_eq_true c34
                            clear c34
                            by_cases c35 : (rd t214 (ji31)) < (t206.length : Int)
                            · rw [if_pos c35] at H
                              have c35b0 : decide ((rd t214 (ji31)) < (t206.length : Int)) = true := decide_eq_true c35
                              clear c35
                              by_cases c36 : 0 ≤ x13_1
                              · rw [if_pos c36] at H
                                have c36b0 : decide (0 ≤ x13_1) = true := decide_eq_true c36
                                clear c36
                                by_cases c37 : x13_1 < (t214.length : Int)
                                · rw [if_pos c37] at H
                                  have c37b0 : decide (x13_1 < (t214.length : Int)) = true := decide_eq_true c37
                                  clear c37
                                  by_cases c38 : 0 ≤ (rd t214 x13_1)
                                  · rw [if_pos c38] at H
                                    have c38b0 : decide (0 ≤ (rd t214 x13_1)) = true := decide_eq_true c38
                                    clear c38
                                    by_cases c39 : (rd t214 x13_1) < (t206.length : Int)
                                    · rw [if_pos c39] at H
                                      have c39b0 : decide ((rd t214 x13_1) < (t206.length : Int)) = true := decide_eq_true c39
                                      clear c39
                                      by_cases c40 : (((rd_T35 t206 (rd t214 (ji31))).f0).size : Int) < (((rd_T35 t206 (rd t214 x13_1)).f0).size : Int)
                                      · rw [if_pos c40] at H
                                        have c40b0 : decide ((((rd_T35 t206 (rd t214 (ji31))).f0).size : Int) < (((rd_T35 t206 (rd t214 x13_1)).f0).size : Int)) = true := decide_eq_true c40
                                        have c40b1 : decide (((rd_T35 t206 (rd t214 (ji31))).f0).size < ((rd_T35 t206 (rd t214 x13_1)).f0).size) = true := decide_eq_true (Int.ofNat_lt.mp c40)
                                        clear c40
                                        obtain rfl := Option.some.inj H
                                        have p225 : 0 ≤ ((ji31) : Int) := of_decide_eq_true (by first | (with_reducible assumption) | assumption)
                                        have q225 : (ji31) < (t214.length : Int) := of_decide_eq_true (by first | (with_reducible assumption) | assumption)
                                        obtain ⟨ad225, e225, hx225_0⟩ := Kd.at_int (Kd.R_reads' HO_8.out).2.2 (ji31) p225 q225
                                        cases e225
                                        replace p225 := eq_true p225
                                        replace q225 := eq_true q225
                                        have p226 : 0 ≤ ((rd t214 (ji31)) : Int) := of_decide_eq_true (by first | (with_reducible assumption) | assumption)
                                        have q226 : (rd t214 (ji31)) < (t206.length : Int) := of_decide_eq_true (by first | (with_reducible assumption) | assumption)
                                        obtain ⟨ad226, e226, hx226_0, hx226_1⟩ := at_T35 (Kd.R_reads' HO_0.out).2.2 (rd t214 (ji31)) p226 q226
                                        cases e226
                                        replace p226 := eq_true p226
                                        replace q226 := eq_true q226
                                        have p227 : 0 ≤ (x13_1 : Int) := of_decide_eq_true (by first | (with_reducible assumption) | assumption)
                                        have q227 : x13_1 < (t214.length : Int) := of_decide_eq_true (by first | (with_reducible assumption) | assumption)
                                        obtain ⟨ad227, e227, hx227_0⟩ := Kd.at_int (Kd.R_reads' HO_8.out).2.2 x13_1 p227 q227
                                        obtain rfl : ad225 = ad227 := (by injection e227)
                                        replace p227 := eq_true p227
                                        replace q227 := eq_true q227
                                        have p228 : 0 ≤ ((rd t214 x13_1) : Int) := of_decide_eq_true (by first | (with_reducible assumption) | assumption)
                                        have q228 : (rd t214 x13_1) < (t206.length : Int) := of_decide_eq_true (by first | (with_reducible assumption) | assumption)
                                        obtain ⟨ad228, e228, hx228_0, hx228_1⟩ := at_T35 (Kd.R_reads' HO_0.out).2.2 (rd t214 x13_1) p228 q228
                                        obtain rfl : ad226 = ad228 := (by injection e228)
                                        replace p228 := eq_true p228
                                        replace q228 := eq_true q228
                                        go_wp2
                                        repeat (go_quiet (fail); try go_wp2)
                                        all_goals (first | (go_ret; exact ⟨by first | rfl | (simp [errW_none, errW_some] <;> rfl) | (simp only [← hji31]; first | rfl | (simp [errW_none, errW_some] <;> rfl)) | (simp [*, errW_none, errW_some] <;> rfl) | (simp_all; done) | fail, by repeat (first | (with_reducible first | exact HB.out | apply below_alloc | apply pw_below_drewN | apply below_drew1 | refine below_set ?_ GE204.out) | exact HB.out)⟩) | (exfalso; simp_all; done) | (exfalso; simp only [isEmpty_eq, isEmpty_ne] at *; simp_all; done) | (exfalso; exact isEmpty_clash (by assumption) (by assumption)) | (exfalso; exact isEmpty_clash' (by assumption) (by assumption)) | (exfalso; exact isEmpty_clash2 (by assumption) (by assumption)) | (exfalso; simp only [decide_eq_true_eq, decide_eq_false_iff_not] at *; omega))
                                      · rw [if_neg c40] at H
                                        have c40b0 : decide ((((rd_T35 t206 (rd t214 (ji31))).f0).size : Int) < (((rd_T35 t206 (rd t214 x13_1)).f0).size : Int)) = false := decide_eq_false c40
                                        have c40b1 : decide (((rd_T35 t206 (rd t214 (ji31))).f0).size < ((rd_T35 t206 (rd t214 x13_1)).f0).size) = false := decide_eq_false (fun h => c40 (Int.ofNat_lt.mpr h))
                                        clear c40
                                        by_cases c41 : (((rd_T35 t206 (rd t214 (ji31))).f0).size : Int) = (((rd_T35 t206 (rd t214 x13_1)).f0).size : Int)
                                        · rw [if_pos c41] at H
                                          have c41b0 : ((((rd_T35 t206 (rd t214 (ji31))).f0).size : Int) == (((rd_T35 t206 (rd t214 x13_1)).f0).size : Int)) = true := beq_iff_eq.mpr c41
                                          have c41b1 : ((((rd_T35 t206 (rd t214 (ji31))).f0).size : Int) != (((rd_T35 t206 (rd t214 x13_1)).f0).size : Int)) = false := bne_eq_false_iff_eq.mpr c41
                                          have c41b2 : (((rd_T35 t206 (rd t214 (ji31))).f0).size == ((rd_T35 t206 (rd t214 x13_1)).f0).size) = true := by first | simpa using c41 | (simp at c41 ⊢; omega)
                                          clear c41
                                          by_cases c42 : (rd t214 (ji31)) ≥ (rd t214 x13_1)
                                          · rw [if_pos c42] at H
                                            have c42b0 : decide ((rd t214 x13_1) ≤ (rd t214 (ji31))) = true := decide_eq_true c42
                                            clear c42
                                            obtain rfl := Option.some.inj H
                                            have p225 : 0 ≤ ((ji31) : Int) := of_decide_eq_true (by first | (with_reducible assumption) | assumption)
                                            have q225 : (ji31) < (t214.length : Int) := of_decide_eq_true (by first | (with_reducible assumption) | assumption)
                                            obtain ⟨ad225, e225, hx225_0⟩ := Kd.at_int (Kd.R_reads' HO_8.out).2.2 (ji31) p225 q225
                                            cases e225
                                            replace p225 := eq_true p225
                                            replace q225 := eq_true q225
                                            have p226 : 0 ≤ ((rd t214 (ji31)) : Int) := of_decide_eq_true (by first | (with_reducible assumption) | assumption)
                                            have q226 : (rd t214 (ji31)) < (t206.length : Int) := of_decide_eq_true (by first | (with_reducible assumption) | assumption)
                                            obtain ⟨ad226, e226, hx226_0, hx226_1⟩ := at_T35 (Kd.R_reads' HO_0.out).2.2 (rd t214 (ji31)) p226 q226
                                            cases e226
                                            replace p226 := eq_true p226
                                            replace q226 := eq_true q226
                                            have p227 : 0 ≤ (x13_1 : Int) := of_decide_eq_true (by first | (with_reducible assumption) | assumption)
                                            have q227 : x13_1 < (t214.length : Int) := of_decide_eq_true (by first | (with_reducible assumption) | assumption)
                                            obtain ⟨ad227, e227, hx227_0⟩ := Kd.at_int (Kd.R_reads' HO_8.out).2.2 x13_1 p227 q227
                                            obtain rfl : ad225 = ad227 := (by injection e227)
                                            replace p227 := eq_true p227
                                            replace q227 := eq_true q227
                                            have p228 : 0 ≤ ((rd t214 x13_1) : Int) := of_decide_eq_true (by first | (with_reducible assumption) | assumption)
                                            have q228 : (rd t214 x13_1) < (t206.length : Int) := of_decide_eq_true (by first | (with_reducible assumption) | assumption)
                                            obtain ⟨ad228, e228, hx228_0, hx228_1⟩ := at_T35 (Kd.R_reads' HO_0.out).2.2 (rd t214 x13_1) p228 q228
                                            obtain rfl : ad226 = ad228 := (by injection e228)
                                            replace p228 := eq_true p228
                                            replace q228 := eq_true q228
                                            have p229 : 0 ≤ ((ji31) : Int) := of_decide_eq_true (by first | (with_reducible assumption) | assumption)
                                            have q229 : (ji31) < (t214.length : Int) := of_decide_eq_true (by first | (with_reducible assumption) | assumption)
                                            obtain ⟨ad229, e229, hx229_0⟩ := Kd.at_int (Kd.R_reads' HO_8.out).2.2 (ji31) p229 q229
                                            obtain rfl : ad225 = ad229 := (by injection e229)
                                            replace p229 := eq_true p229
                                            replace q229 := eq_true q229
                                            have p230 : 0 ≤ (x13_1 : Int) := of_decide_eq_true (by first | (with_reducible assumption) | assumption)
                                            have q230 : x13_1 < (t214.length : Int) := of_decide_eq_true (by first | (with_reducible assumption) | assumption)
                                            obtain ⟨ad230, e230, hx230_0⟩ := Kd.at_int (Kd.R_reads' HO_8.out).2.2 x13_1 p230 q230
                                            obtain rfl : ad225 = ad230 := (by injection e230)
                                            replace p230 := eq_true p230
                                            replace q230 := eq_true q230
                                            go_wp2
                                            repeat (go_quiet (fail); try go_wp2)
                                            all_goals (first | (go_ret; exact ⟨by first | rfl | (simp [errW_none, errW_some] <;> rfl) | (simp only [← hji31]; first | rfl | (simp [errW_none, errW_some] <;> rfl)) | (simp [*, errW_none, errW_some] <;> rfl) | (simp_all; done) | fail, by repeat (first | (with_reducible first | exact HB.out | apply below_alloc | apply pw_below_drewN | apply below_drew1 | refine below_set ?_ GE204.out) | exact HB.out)⟩) | (exfalso; simp_all; done) | (exfalso; simp only [isEmpty_eq, isEmpty_ne] at *; simp_all; done) | (exfalso; exact isEmpty_clash (by assumption) (by assumption)) | (exfalso; exact isEmpty_clash' (by assumption) (by assumption)) | (exfalso; exact isEmpty_clash2 (by assumption) (by assumption)) | (exfalso; simp only [decide_eq_true_eq, decide_eq_false_iff_not] at *; omega))
                                          · rw [if_neg c42] at H
                                            have c42b0 : decide ((rd t214 x13_1) ≤ (rd t214 (ji31))) = false := decide_eq_false c42
                                            clear c42
                                            have H' := Aside0.mk H
                                            clear H
                                            have p225 : 0 ≤ ((ji31) : Int) := of_decide_eq_true (by first | (with_reducible assumption) | assumption)
                                            have q225 : (ji31) < (t214.length : Int) := of_decide_eq_true (by first | (with_reducible assumption) | assumption)
                                            obtain ⟨ad225, e225, hx225_0⟩ := Kd.at_int (Kd.R_reads' HO_8.out).2.2 (ji31) p225 q225
                                            cases e225
                                            replace p225 := eq_true p225
                                            replace q225 := eq_true q225
                                            have p226 : 0 ≤ ((rd t214 (ji31)) : Int) := of_decide_eq_true (by first | (with_reducible assumption) | assumption)
                                            have q226 : (rd t214 (ji31)) < (t206.length : Int) := of_decide_eq_true (by first | (with_reducible assumption) | assumption)
                                            obtain ⟨ad226, e226, hx226_0, hx226_1⟩ := at_T35 (Kd.R_reads' HO_0.out).2.2 (rd t214 (ji31)) p226 q226
                                            cases e226
                                            replace p226 := eq_true p226
                                            replace q226 := eq_true q226
                                            have p227 : 0 ≤ (x13_1 : Int) := of_decide_eq_true (by first | (with_reducible assumption) | assumption)
                                            have q227 : x13_1 < (t214.length : Int) := of_decide_eq_true (by first | (with_reducible assumption) | assumption)
                                            obtain ⟨ad227, e227, hx227_0⟩ := Kd.at_int (Kd.R_reads' HO_8.out).2.2 x13_1 p227 q227
                                            obtain rfl : ad225 = ad227 := (by injection e227)
                                            replace p227 := eq_true p227
                                            replace q227 := eq_true q227
                                            have p228 : 0 ≤ ((rd t214 x13_1) : Int) := of_decide_eq_true (by first | (with_reducible assumption) | assumption)
                                            have q228 : (rd t214 x13_1) < (t206.length : Int) := of_decide_eq_true (by first | (with_reducible assumption) | assumption)
                                            obtain ⟨ad228, e228, hx228_0, hx228_1⟩ := at_T35 (Kd.R_reads' HO_0.out).2.2 (rd t214 x13_1) p228 q228
                                            obtain rfl : ad226 = ad228 := (by injection e228)
                                            replace p228 := eq_true p228
                                            replace q228 := eq_true q228
                                            have p229 : 0 ≤ ((ji31) : Int) := of_decide_eq_true (by first | (with_reducible assumption) | assumption)
                                            have q229 : (ji31) < (t214.length : Int) := of_decide_eq_true (by first | (with_reducible assumption) | assumption)
                                            obtain ⟨ad229, e229, hx229_0⟩ := Kd.at_int (Kd.R_reads' HO_8.out).2.2 (ji31) p229 q229
                                            obtain rfl : ad225 = ad229 := (by injection e229)
                                            replace p229 := eq_true p229
                                            replace q229 := eq_true q229
                                            have p230 : 0 ≤ (x13_1 : Int) := of_decide_eq_true (by first | (with_reducible assumption) | assumption)
                                            have q230 : x13_1 < (t214.length : Int) := of_decide_eq_true (by first | (with_reducible assumption) | assumption)
                                            obtain ⟨ad230, e230, hx230_0⟩ := Kd.at_int (Kd.R_reads' HO_8.out).2.2 x13_1 p230 q230
                                            obtain rfl : ad225 = ad230 := (by injection e230)
                                            replace p230 := eq_true p230
                                            replace q230 := eq_true q230
                                            go_wp2
                                            repeat (go_quiet (fail); try go_wp2)
                                            go_roundg kj25
                                            case measure => have := HK1.out; have := HJ20.out; have := HJ25.out; omega
                                            case rel => exact ⟨(x12_25), (wrap64 (x13_1 + 1)), (by first | rfl | (simp; done) | (simp [*]; done)), (by first | rfl | (simp; done) | (simp [*]; done)), H', ⟨by have := HK1.out; have := HJ20.out; have := HJ25.out; omega⟩, ⟨by (with_reducible repeat (first | apply Kd.R_alloc | apply Kd.R_drewN | apply Kd.R_drew)); exact HO_0.out⟩, ⟨by (with_reducible repeat (first | apply Kd.R_alloc | apply Kd.R_drewN | apply Kd.R_drew)); exact HO_8.out⟩, ⟨by (with_reducible repeat (first | refine blk_drewN ?_ _ | refine blk_drew ?_ | refine blk_alloc ?_ _)); exact BK204.out⟩, ⟨by repeat (first | (with_reducible first | exact HB.out | apply below_alloc | apply pw_below_drewN | apply below_drew1 | refine below_set ?_ GE204.out) | exact HB.out)⟩⟩
                                        · rw [if_neg c41] at H
                                          have c41b0 : ((((rd_T35 t206 (rd t214 (ji31))).f0).size : Int) == (((rd_T35 t206 (rd t214 x13_1)).f0).size : Int)) = false := beq_eq_false_iff_ne.mpr c41
                                          have c41b1 : ((((rd_T35 t206 (rd t214 (ji31))).f0).size : Int) != (((rd_T35 t206 (rd t214 x13_1)).f0).size : Int)) = true := bne_iff_ne.mpr c41
                                          have c41b2 : (((rd_T35 t206 (rd t214 (ji31))).f0).size == ((rd_T35 t206 (rd t214 x13_1)).f0).size) = false := by first | simpa using c41 | (simp at c41 ⊢; omega)
                                          have H' := Aside0.mk H
                                          clear H
                                          have p225 : 0 ≤ ((ji31) : Int) := of_decide_eq_true (by first | (with_reducible assumption) | assumption)
                                          have q225 : (ji31) < (t214.length : Int) := of_decide_eq_true (by first | (with_reducible assumption) | assumption)
                                          obtain ⟨ad225, e225, hx225_0⟩ := Kd.at_int (Kd.R_reads' HO_8.out).2.2 (ji31) p225 q225
                                          cases e225
                                          replace p225 := eq_true p225
                                          replace q225 := eq_true q225
                                          have p226 : 0 ≤ ((rd t214 (ji31)) : Int) := of_decide_eq_true (by first | (with_reducible assumption) | assumption)
                                          have q226 : (rd t214 (ji31)) < (t206.length : Int) := of_decide_eq_true (by first | (with_reducible assumption) | assumption)
                                          obtain ⟨ad226, e226, hx226_0, hx226_1⟩ := at_T35 (Kd.R_reads' HO_0.out).2.2 (rd t214 (ji31)) p226 q226
                                          cases e226
                                          replace p226 := eq_true p226
                                          replace q226 := eq_true q226
                                          have p227 : 0 ≤ (x13_1 : Int) := of_decide_eq_true (by first | (with_reducible assumption) | assumption)
                                          have q227 : x13_1 < (t214.length : Int) := of_decide_eq_true (by first | (with_reducible assumption) | assumption)
                                          obtain ⟨ad227, e227, hx227_0⟩ := Kd.at_int (Kd.R_reads' HO_8.out).2.2 x13_1 p227 q227
                                          obtain rfl : ad225 = ad227 := (by injection e227)
                                          replace p227 := eq_true p227
                                          replace q227 := eq_true q227
                                          have p228 : 0 ≤ ((rd t214 x13_1) : Int) := of_decide_eq_true (by first | (with_reducible assumption) | assumption)
                                          have q228 : (rd t214 x13_1) < (t206.length : Int) := of_decide_eq_true (by first | (with_reducible assumption) | assumption)
                                          obtain ⟨ad228, e228, hx228_0, hx228_1⟩ := at_T35 (Kd.R_reads' HO_0.out).2.2 (rd t214 x13_1) p228 q228
                                          obtain rfl : ad226 = ad228 := (by injection e228)
                                          replace p228 := eq_true p228
                                          replace q228 := eq_true q228
                                          go_wp2
                                          repeat (go_quiet (fail); try go_wp2)
                                          go_roundg kj25
                                          case measure => have := HK1.out; have := HJ20.out; have := HJ25.out; omega
                                          case rel => exact ⟨(x12_25), (wrap64 (x13_1 + 1)), (by first | rfl | (simp; done) | (simp [*]; done)), (by first | rfl | (simp; done) | (simp [*]; done)), H', ⟨by have := HK1.out; have := HJ20.out; have := HJ25.out; omega⟩, ⟨by (with_reducible repeat (first | apply Kd.R_alloc | apply Kd.R_drewN | apply Kd.R_drew)); exact HO_0.out⟩, ⟨by (with_reducible repeat (first | apply Kd.R_alloc | apply Kd.R_drewN | apply Kd.R_drew)); exact HO_8.out⟩, ⟨by (with_reducible repeat (first | refine blk_drewN ?_ _ | refine blk_drew ?_ | refine blk_alloc ?_ _)); exact BK204.out⟩, ⟨by repeat (first | (with_reducible first | exact HB.out | apply below_alloc | apply pw_below_drewN | apply below_drew1 | refine below_set ?_ GE204.out) | exact HB.out)⟩⟩
                                    · rw [if_neg c39] at H
                                      exact absurd H (by simp)
                                  · rw [if_neg c38] at H
                                    exact absurd H (by simp)
                                · rw [if_neg c37] at H
                                  exact absurd H (by simp)
                              · rw [if_neg c36] at H
                                exact absurd H (by simp)
                            · rw [if_neg c35] at H
                              exact absurd H (by simp)
                          · rw [if_neg c34] at H
                            exact absurd H (by simp)
                        · rw [if_neg c33] at H
                          exact absurd H (by simp)
                      · rw [if_neg c32] at H
                        exact absurd H (by simp)
                    · rw [if_neg c30] at H
                      have c30b0 : decide (0 < x13_1) = false := decide_eq_false c30
                      clear c30
                      have H' := Aside0.mk H
                      clear H
                      go_wp2
                      repeat (go_quiet (fail); try go_wp2)
                      go_roundg kj25
                      case measure => have := HK1.out; have := HJ20.out; have := HJ25.out; omega
                      case rel => exact ⟨(x12_25), (wrap64 (x13_1 + 1)), (by first | rfl | (simp; done) | (simp [*]; done)), (by first | rfl | (simp; done) | (simp [*]; done)), H', ⟨by have := HK1.out; have := HJ20.out; have := HJ25.out; omega⟩, ⟨by (with_reducible repeat (first | apply Kd.R_alloc | apply Kd.R_drewN | apply Kd.R_drew)); exact HO_0.out⟩, ⟨by (with_reducible repeat (first | apply Kd.R_alloc | apply Kd.R_drewN | apply Kd.R_drew)); exact HO_8.out⟩, ⟨by (with_reducible repeat (first | refine blk_drewN ?_ _ | refine blk_drew ?_ | refine blk_alloc ?_ _)); exact BK204.out⟩, ⟨by repeat (first | (with_reducible first | exact HB.out | apply below_alloc | apply pw_below_drewN | apply below_drew1 | refine below_set ?_ GE204.out) | exact HB.out)⟩⟩
        · rw [if_neg c20] at H
          have c20b0 : decide (x13_1 < (t214.length : Int)) = false := decide_eq_false c20
          clear c20
          by_cases c43 : a2 < 0
          · rw [if_pos c43] at H
            have c43b0 : decide (a2 < 0) = true := decide_eq_true c43
            clear c43
            by_cases c44 : t205 = true
            · subst c44
              have H1 : (if t219 = 0 then (some (!x12_1)) else (some false)) = some r := by rw [if_pos rfl] at H; exact H
              clear H
              have H := H1
              clear H1
              by_cases c45 : t219 = 0
              · rw [if_pos c45] at H
                have c45b0 : (t219 == 0) = true := beq_iff_eq.mpr c45
                have c45b1 : (t219 != 0) = false := bne_eq_false_iff_eq.mpr c45
                clear c45
                obtain rfl := Option.some.inj H
                obtain ⟨Ao46, co46, eo46⟩ := Kd.R_slice HO_8.out
                subst eo46
                go_wp2
                repeat (go_quiet (fail); try go_wp2)
                all_goals (first | (go_ret; exact ⟨by first | rfl | (simp [errW_none, errW_some] <;> rfl) | (simp [*, errW_none, errW_some] <;> rfl) | (simp_all; done) | fail, by repeat (first | (with_reducible first | exact HB.out | apply below_alloc | apply pw_below_drewN | apply below_drew1 | refine below_set ?_ GE204.out) | exact HB.out)⟩) | (exfalso; simp_all; done) | (exfalso; simp only [isEmpty_eq, isEmpty_ne] at *; simp_all; done) | (exfalso; exact isEmpty_clash (by assumption) (by assumption)) | (exfalso; exact isEmpty_clash' (by assumption) (by assumption)) | (exfalso; exact isEmpty_clash2 (by assumption) (by assumption)) | (exfalso; simp only [decide_eq_true_eq, decide_eq_false_iff_not] at *; omega))
              · rw [if_neg c45] at H
                have c45b0 : (t219 == 0) = false := beq_eq_false_iff_ne.mpr c45
                have c45b1 : (t219 != 0) = true := bne_iff_ne.mpr c45
                obtain rfl := Option.some.inj H
                obtain ⟨Ao47, co47, eo47⟩ := Kd.R_slice HO_8.out
                subst eo47
                go_wp2
                repeat (go_quiet (fail); try go_wp2)
                all_goals (first | (go_ret; exact ⟨by first | rfl | (simp [errW_none, errW_some] <;> rfl) | (simp [*, errW_none, errW_some] <;> rfl) | (simp_all; done) | fail, by repeat (first | (with_reducible first | exact HB.out | apply below_alloc | apply pw_below_drewN | apply below_drew1 | refine below_set ?_ GE204.out) | exact HB.out)⟩) | (exfalso; simp_all; done) | (exfalso; simp only [isEmpty_eq, isEmpty_ne] at *; simp_all; done) | (exfalso; exact isEmpty_clash (by assumption) (by assumption)) | (exfalso; exact isEmpty_clash' (by assumption) (by assumption)) | (exfalso; exact isEmpty_clash2 (by assumption) (by assumption)) | (exfalso; simp only [decide_eq_true_eq, decide_eq_false_iff_not] at *; omega))
            · replace c44 := Bool.eq_false_iff.mpr c44
              subst c44
              have H1 : (some false) = some r := by rw [if_neg (show ¬ (false = true) by decide)] at H; exact H
              clear H
              have H := H1
              clear H1
              obtain rfl := Option.some.inj H
              obtain ⟨Ao48, co48, eo48⟩ := Kd.R_slice HO_8.out
              subst eo48
              go_wp2
              repeat (go_quiet (fail); try go_wp2)
              all_goals (first | (go_ret; exact ⟨by first | rfl | (simp [errW_none, errW_some] <;> rfl) | (simp [*, errW_none, errW_some] <;> rfl) | (simp_all; done) | fail, by repeat (first | (with_reducible first | exact HB.out | apply below_alloc | apply pw_below_drewN | apply below_drew1 | refine below_set ?_ GE204.out) | exact HB.out)⟩) | (exfalso; simp_all; done) | (exfalso; simp only [isEmpty_eq, isEmpty_ne] at *; simp_all; done) | (exfalso; exact isEmpty_clash (by assumption) (by assumption)) | (exfalso; exact isEmpty_clash' (by assumption) (by assumption)) | (exfalso; exact isEmpty_clash2 (by assumption) (by assumption)) | (exfalso; simp only [decide_eq_true_eq, decide_eq_false_iff_not] at *; omega))
          · rw [if_neg c43] at H
            have c43b0 : decide (a2 < 0) = false := decide_eq_false c43
            clear c43
            by_cases c49 : a2 ≥ (t206.length : Int)
            · rw [if_pos c49] at H
              have c49b0 : decide ((t206.length : Int) ≤ a2) = true := decide_eq_true c49
              clear c49
              by_cases c50 : t205 = true
              · subst c50
                have H1 : (if t219 = 0 then (some (!x12_1)) else (some false)) = some r := by rw [if_pos rfl] at H; exact H
                clear H
                have H := H1
                clear H1
                by_cases c51 : t219 = 0
                · rw [if_pos c51] at H
                  have c51b0 : (t219 == 0) = true := beq_iff_eq.mpr c51
                  have c51b1 : (t219 != 0) = false := bne_eq_false_iff_eq.mpr c51
                  clear c51
                  obtain rfl := Option.some.inj H
                  obtain ⟨Ao52, co52, eo52⟩ := Kd.R_slice HO_8.out
                  subst eo52
                  go_wp2
                  repeat (go_quiet (fail); try go_wp2)
                  all_goals (first | (go_ret; exact ⟨by first | rfl | (simp [errW_none, errW_some] <;> rfl) | (simp [*, errW_none, errW_some] <;> rfl) | (simp_all; done) | fail, by repeat (first | (with_reducible first | exact HB.out | apply below_alloc | apply pw_below_drewN | apply below_drew1 | refine below_set ?_ GE204.out) | exact HB.out)⟩) | (exfalso; simp_all; done) | (exfalso; simp only [isEmpty_eq, isEmpty_ne] at *; simp_all; done) | (exfalso; exact isEmpty_clash (by assumption) (by assumption)) | (exfalso; exact isEmpty_clash' (by assumption) (by assumption)) | (exfalso; exact isEmpty_clash2 (by assumption) (by assumption)) | (exfalso; simp only [decide_eq_true_eq, decide_eq_false_iff_not] at *; omega))
                · rw [if_neg c51] at H
                  have c51b0 : (t219 == 0) = false := beq_eq_false_iff_ne.mpr c51
                  have c51b1 : (t219 != 0) = true := bne_iff_ne.mpr c51
                  obtain rfl := Option.some.inj H
                  obtain ⟨Ao53, co53, eo53⟩ := Kd.R_slice HO_8.out
                  subst eo53
                  go_wp2
                  repeat (go_quiet (fail); try go_wp2)
                  all_goals (first | (go_ret; exact ⟨by first | rfl | (simp [errW_none, errW_some] <;> rfl) | (simp [*, errW_none, errW_some] <;> rfl) | (simp_all; done) | fail, by repeat (first | (with_reducible first | exact HB.out | apply below_alloc | apply pw_below_drewN | apply below_drew1 | refine below_set ?_ GE204.out) | exact HB.out)⟩) | (exfalso; simp_all; done) | (exfalso; simp only [isEmpty_eq, isEmpty_ne] at *; simp_all; done) | (exfalso; exact isEmpty_clash (by assumption) (by assumption)) | (exfalso; exact isEmpty_clash' (by assumption) (by assumption)) | (exfalso; exact isEmpty_clash2 (by assumption) (by assumption)) | (exfalso; simp only [decide_eq_true_eq, decide_eq_false_iff_not] at *; omega))
              · replace c50 := Bool.eq_false_iff.mpr c50
                subst c50
                have H1 : (some false) = some r := by rw [if_neg (show ¬ (false = true) by decide)] at H; exact H
                clear H
                have H := H1
                clear H1
                obtain rfl := Option.some.inj H
                obtain ⟨Ao54, co54, eo54⟩ := Kd.R_slice HO_8.out
                subst eo54
                go_wp2
                repeat (go_quiet (fail); try go_wp2)
                all_goals (first | (go_ret; exact ⟨by first | rfl | (simp [errW_none, errW_some] <;> rfl) | (simp [*, errW_none, errW_some] <;> rfl) | (simp_all; done) | fail, by repeat (first | (with_reducible first | exact HB.out | apply below_alloc | apply pw_below_drewN | apply below_drew1 | refine below_set ?_ GE204.out) | exact HB.out)⟩) | (exfalso; simp_all; done) | (exfalso; simp only [isEmpty_eq, isEmpty_ne] at *; simp_all; done) | (exfalso; exact isEmpty_clash (by assumption) (by assumption)) | (exfalso; exact isEmpty_clash' (by assumption) (by assumption)) | (exfalso; exact isEmpty_clash2 (by assumption) (by assumption)) | (exfalso; simp only [decide_eq_true_eq, decide_eq_false_iff_not] at *; omega))
            · rw [if_neg c49] at H
              have c49b0 : decide ((t206.length : Int) ≤ a2) = false := decide_eq_false c49
              clear c49
              by_cases c55 : 0 ≤ a2
              · rw [if_pos c55] at H
                have c55b0 : decide (0 ≤ a2) = true := decide_eq_true c55
                clear c55
                by_cases c56 : a2 < (t206.length : Int)
                · rw [if_pos c56] at H
                  have c56b0 : decide (a2 < (t206.length : Int)) = true := decide_eq_true c56
                  clear c56
                  by_cases c57 : t205 = true
                  · subst c57
                    have H1 : (if t219 = 0 then (if (((rd_T35 t206 a2).f0).size : Int) ≤ (t218.size : Int) then (if 0 ≤ (mn (((rd_T35 t206 a2).f0).size : Int) (t218.size : Int)) then (if (mn (((rd_T35 t206 a2).f0).size : Int) (t218.size : Int)) ≤ (t218.size : Int) then (some (x12_1 == ((t218.extract 0 ((mn (((rd_T35 t206 a2).f0).size : Int) (t218.size : Int)) : Int).toNat).toList == ((rd_T35 t206 a2).f0).toList))) else (none)) else (none)) else (some (x12_1 == false))) else (some false)) = some r := by rw [if_pos rfl] at H; exact H
                    clear H
                    have H := H1
                    clear H1
                    by_cases c58 : t219 = 0
                    · rw [if_pos c58] at H
                      have c58b0 : (t219 == 0) = true := beq_iff_eq.mpr c58
                      have c58b1 : (t219 != 0) = false := bne_eq_false_iff_eq.mpr c58
                      clear c58
                      by_cases c59 : (((rd_T35 t206 a2).f0).size : Int) ≤ (t218.size : Int)
                      · rw [if_pos c59] at H
                        have c59b0 : decide ((((rd_T35 t206 a2).f0).size : Int) ≤ (t218.size : Int)) = true := decide_eq_true c59
                        have c59b1 : decide (((rd_T35 t206 a2).f0).size ≤ t218.size) = true := decide_eq_true (Int.ofNat_le.mp c59)
                        clear c59
                        obtain ⟨ji60, hji60⟩ : ∃ j_ : Int, (mn (((rd_T35 t206 a2).f0).size : Int) (t218.size : Int)) = j_ := ⟨_, rfl⟩
                        replace H : (if 0 ≤ (ji60) then (if (ji60) ≤ (t218.size : Int) then (some (x12_1 == ((t218.extract 0 ((ji60) : Int).toNat).toList == ((rd_T35 t206 a2).f0).toList))) else (none)) else (none)) = some r := by first | (rw [hji60] at H; exact H) | (simp only [hji60] at H ⊢; exact H)
                        have hji60_ : (if (t218.size : Int) < (((rd_T35 t206 a2).f0).size : Int) then (t218.size : Int) else (((rd_T35 t206 a2).f0).size : Int)) = ji60 := hji60
                        have hjm60 := hji60_
                        try simp only [Int.ofNat_lt] at hjm60
                        by_cases c61 : 0 ≤ (ji60)
                        · rw [if_pos c61] at H
                          have c61b0 := eq_true c61
                          have c61b1 : decide (0 ≤ (ji60)) = true := decide_eq_true c61
                          clear c61
                          by_cases c62 : (ji60) ≤ (t218.size : Int)
                          · rw [if_pos c62] at H
                            have c62b0 := eq_true c62
                            have c62b1 : decide ((ji60) ≤ (t218.size : Int)) = true := decide_eq_true c62
                            clear c62
                            obtain rfl := Option.some.inj H
                            obtain ⟨Ao63, co63, eo63⟩ := Kd.R_slice HO_8.out
                            subst eo63
                            have p220 : 0 ≤ (a2 : Int) := of_decide_eq_true (by first | (with_reducible assumption) | assumption)
                            have q220 : a2 < (t206.length : Int) := of_decide_eq_true (by first | (with_reducible assumption) | assumption)
                            obtain ⟨ad220, e220, hx220_0, hx220_1⟩ := at_T35 (Kd.R_reads' HO_0.out).2.2 a2 p220 q220
                            cases e220
                            replace p220 := eq_true p220
                            replace q220 := eq_true q220
                            have p221 : 0 ≤ (a2 : Int) := of_decide_eq_true (by first | (with_reducible assumption) | assumption)
                            have q221 : a2 < (t206.length : Int) := of_decide_eq_true (by first | (with_reducible assumption) | assumption)
                            obtain ⟨ad221, e221, hx221_0, hx221_1⟩ := at_T35 (Kd.R_reads' HO_0.out).2.2 a2 p221 q221
                            obtain rfl : ad220 = ad221 := (by injection e221)
                            replace p221 := eq_true p221
                            replace q221 := eq_true q221
                            go_wp2
                            repeat (go_quiet (fail); try go_wp2)
                            all_goals (first | (go_ret; exact ⟨by first | rfl | (simp [errW_none, errW_some] <;> rfl) | (simp only [← hji60]; first | rfl | (simp [errW_none, errW_some] <;> rfl)) | (simp [*, errW_none, errW_some] <;> rfl) | (simp_all; done) | fail, by repeat (first | (with_reducible first | exact HB.out | apply below_alloc | apply pw_below_drewN | apply below_drew1 | refine below_set ?_ GE204.out) | exact HB.out)⟩) | (exfalso; simp_all; done) | (exfalso; simp only [isEmpty_eq, isEmpty_ne] at *; simp_all; done) | (exfalso; exact isEmpty_clash (by assumption) (by assumption)) | (exfalso; exact isEmpty_clash' (by assumption) (by assumption)) | (exfalso; exact isEmpty_clash2 (by assumption) (by assumption)) | (exfalso; simp only [decide_eq_true_eq, decide_eq_false_iff_not] at *; omega))
                          · rw [if_neg c62] at H
                            exact absurd H (by simp)
                        · rw [if_neg c61] at H
                          exact absurd H (by simp)
                      · rw [if_neg c59] at H
                        have c59b0 : decide ((((rd_T35 t206 a2).f0).size : Int) ≤ (t218.size : Int)) = false := decide_eq_false c59
                        have c59b1 : decide (((rd_T35 t206 a2).f0).size ≤ t218.size) = false := decide_eq_false (fun h => c59 (Int.ofNat_le.mpr h))
                        clear c59
                        obtain rfl := Option.some.inj H
                        obtain ⟨Ao64, co64, eo64⟩ := Kd.R_slice HO_8.out
                        subst eo64
                        have p220 : 0 ≤ (a2 : Int) := of_decide_eq_true (by first | (with_reducible assumption) | assumption)
                        have q220 : a2 < (t206.length : Int) := of_decide_eq_true (by first | (with_reducible assumption) | assumption)
                        obtain ⟨ad220, e220, hx220_0, hx220_1⟩ := at_T35 (Kd.R_reads' HO_0.out).2.2 a2 p220 q220
                        cases e220
                        replace p220 := eq_true p220
                        replace q220 := eq_true q220
                        go_wp2
                        repeat (go_quiet (fail); try go_wp2)
                        all_goals (first | (go_ret; exact ⟨by first | rfl | (simp [errW_none, errW_some] <;> rfl) | (simp [*, errW_none, errW_some] <;> rfl) | (simp_all; done) | fail, by repeat (first | (with_reducible first | exact HB.out | apply below_alloc | apply pw_below_drewN | apply below_drew1 | refine below_set ?_ GE204.out) | exact HB.out)⟩) | (exfalso; simp_all; done) | (exfalso; simp only [isEmpty_eq, isEmpty_ne] at *; simp_all; done) | (exfalso; exact isEmpty_clash (by assumption) (by assumption)) | (exfalso; exact isEmpty_clash' (by assumption) (by assumption)) | (exfalso; exact isEmpty_clash2 (by assumption) (by assumption)) | (exfalso; simp only [decide_eq_true_eq, decide_eq_false_iff_not] at *; omega))
                    · rw [if_neg c58] at H
                      have c58b0 : (t219 == 0) = false := beq_eq_false_iff_ne.mpr c58
                      have c58b1 : (t219 != 0) = true := bne_iff_ne.mpr c58
                      obtain rfl := Option.some.inj H
                      obtain ⟨Ao65, co65, eo65⟩ := Kd.R_slice HO_8.out
                      subst eo65
                      have p220 : 0 ≤ (a2 : Int) := of_decide_eq_true (by first | (with_reducible assumption) | assumption)
                      have q220 : a2 < (t206.length : Int) := of_decide_eq_true (by first | (with_reducible assumption) | assumption)
                      obtain ⟨ad220, e220, hx220_0, hx220_1⟩ := at_T35 (Kd.R_reads' HO_0.out).2.2 a2 p220 q220
                      cases e220
                      replace p220 := eq_true p220
                      replace q220 := eq_true q220
                      go_wp2
                      repeat (go_quiet (fail); try go_wp2)
                      all_goals (first | (go_ret; exact ⟨by first | rfl | (simp [errW_none, errW_some] <;> rfl) | (simp [*, errW_none, errW_some] <;> rfl) | (simp_all; done) | fail, by repeat (first | (with_reducible first | exact HB.out | apply below_alloc | apply pw_below_drewN | apply below_drew1 | refine below_set ?_ GE204.out) | exact HB.out)⟩) | (exfalso; simp_all; done) | (exfalso; simp only [isEmpty_eq, isEmpty_ne] at *; simp_all; done) | (exfalso; exact isEmpty_clash (by assumption) (by assumption)) | (exfalso; exact isEmpty_clash' (by assumption) (by assumption)) | (exfalso; exact isEmpty_clash2 (by assumption) (by assumption)) | (exfalso; simp only [decide_eq_true_eq, decide_eq_false_iff_not] at *; omega))
                  · replace c57 := Bool.eq_false_iff.mpr c57
                    subst c57
                    have H1 : (some false) = some r := by rw [if_neg (show ¬ (false = true) by decide)] at H; exact H
                    clear H
                    have H := H1
                    clear H1
                    obtain rfl := Option.some.inj H
                    obtain ⟨Ao66, co66, eo66⟩ := Kd.R_slice HO_8.out
                    subst eo66
                    have p220 : 0 ≤ (a2 : Int) := of_decide_eq_true (by first | (with_reducible assumption) | assumption)
                    have q220 : a2 < (t206.length : Int) := of_decide_eq_true (by first | (with_reducible assumption) | assumption)
                    obtain ⟨ad220, e220, hx220_0, hx220_1⟩ := at_T35 (Kd.R_reads' HO_0.out).2.2 a2 p220 q220
                    cases e220
                    replace p220 := eq_true p220
                    replace q220 := eq_true q220
                    go_wp2
                    repeat (go_quiet (fail); try go_wp2)
                    all_goals (first | (go_ret; exact ⟨by first | rfl | (simp [errW_none, errW_some] <;> rfl) | (simp [*, errW_none, errW_some] <;> rfl) | (simp_all; done) | fail, by repeat (first | (with_reducible first | exact HB.out | apply below_alloc | apply pw_below_drewN | apply below_drew1 | refine below_set ?_ GE204.out) | exact HB.out)⟩) | (exfalso; simp_all; done) | (exfalso; simp only [isEmpty_eq, isEmpty_ne] at *; simp_all; done) | (exfalso; exact isEmpty_clash (by assumption) (by assumption)) | (exfalso; exact isEmpty_clash' (by assumption) (by assumption)) | (exfalso; exact isEmpty_clash2 (by assumption) (by assumption)) | (exfalso; simp only [decide_eq_true_eq, decide_eq_false_iff_not] at *; omega))
                · rw [if_neg c56] at H
                  exact absurd H (by simp)
              · rw [if_neg c55] at H
                exact absurd H (by simp)
  · rw [if_neg c9] at H
    have c9b0 : (t217 == 0) = false := beq_eq_false_iff_ne.mpr c9
    have c9b1 : (t217 != 0) = true := bne_iff_ne.mpr c9
    by_cases c67 : t205 = true
    · subst c67
      have H1 : (some ((t214.length : Int) == 0)) = some r := by rw [if_pos rfl] at H; exact H
      clear H
      have H := H1
      clear H1
      obtain rfl := Option.some.inj H
      go_enter Tryz.func6, Tryz.ntmps6
      go_wp2_with (first | ((with_reducible refine gate_dst (N := 4) rfl ?_); (try (refine gate_guard (by rfl) ?_; dsimp only)); refine box_event ?hg (N := 4) ?hd (cs := #[.int .i64 a1_0, .string a1_1, .string a1_2, .int .i64 a1_3, .int .i64 a1_4]) (t := 37) ?hr ?_; (case hd => rfl); (case hg => rfl); (case hr => first | (go_simp; done) | (go_simp; rfl) | (go_simp; simp only [isEmpty_ne, isEmpty_eq]; done) | (go_simp; simp only [isEmpty_ne, isEmpty_eq]; rfl)); intro gb204 hg w68 hbox hb; have n0_ := Aside0.mk (below_step (by repeat (first | (with_reducible first | exact HB.out | apply below_alloc | apply pw_below_drewN | apply below_drew1) | exact HB.out)) hb); have n1_ := Aside0.mk (hbox); have n2_ := Aside0.mk ((by rw [hg]; exact (below_size (by repeat (first | (with_reducible first | exact HB.out | apply below_alloc | apply pw_below_drewN | apply below_drew1) | exact HB.out))) : w.heap.size ≤ gb204)); have n3_ := Aside0.mk ((by rw [hg]; exact (below_size (by repeat (first | (with_reducible first | exact HB.out | apply below_alloc | apply pw_below_drewN | apply below_drew1) | exact HB.out))) : w.heap.size ≤ gb204)); clear HB; have HB := n0_; have BK204 := n1_; have GW204 := n2_; have GE204 := n3_; clear n0_ n1_ n2_ n3_; clear hb hbox hg) | (go_at_call 10; (with_reducible refine (postriderlaw16_shown.calls  true _ ?side1 A4.out).mono ?_); (case side1 => exact LaidR.below HLD.out (by repeat (first | (with_reducible first | exact HB.out | apply below_alloc | apply pw_below_drewN | apply below_drew1 | refine below_set ?_ GE204.out) | exact HB.out))); rintro e w69 ⟨rfl, hb⟩; have n0_ := Aside0.mk (blk_below (g := gb204) (o := .cells #[.int .i64 a1_0, .string a1_1, .string a1_2, .int .i64 a1_3, .int .i64 a1_4] 37 (0, 0)) (by (with_reducible repeat (first | refine blk_drewN ?_ _ | refine blk_drew ?_ | refine blk_alloc ?_ _)); exact BK204.out) hb); have n1_ := Aside0.mk (below_step (by repeat (first | (with_reducible first | exact HB.out | apply below_alloc | apply pw_below_drewN | apply below_drew1 | refine below_set ?_ GE204.out) | exact HB.out)) hb); clear BK204; clear HB; have BK204 := n0_; have HB := n1_; clear n0_ n1_; (try clear hb); (try clear hb2); (try clear hk); (try clear hi)) | (go_at_call 17; (with_reducible refine (postriderlaw16_Cut.calls k _ _ l0 t206 _ ?side1 ?side2 A5.out).mono ?_); (case side1 => repeat (first | exact (Kd.C_below HR0.out HB.out) | (with_reducible refine Kd.C_alloc ?_ _) | (with_reducible refine Kd.C_drewN ?_ _) | (with_reducible refine Kd.C_drew ?_))); (case side2 => exact HC0.out); rintro e w70 ⟨v207, rfl, ho0, hb⟩; have n0_ := Aside0.mk (Kd.R_lower ho0 (below_size (by repeat (first | (with_reducible first | exact HB.out | apply below_alloc | apply pw_below_drewN | apply below_drew1 | refine below_set ?_ GE204.out) | exact HB.out)))); have n1_ := Aside0.mk (blk_below (g := gb204) (o := .cells #[.int .i64 a1_0, .string a1_1, .string a1_2, .int .i64 a1_3, .int .i64 a1_4] 37 (0, 0)) (by (with_reducible repeat (first | refine blk_drewN ?_ _ | refine blk_drew ?_ | refine blk_alloc ?_ _)); exact BK204.out) hb); have n2_ := Aside0.mk (below_step (by repeat (first | (with_reducible first | exact HB.out | apply below_alloc | apply pw_below_drewN | apply below_drew1 | refine below_set ?_ GE204.out) | exact HB.out)) hb); clear BK204; clear HB; have HO208 := n0_; have BK204 := n1_; have HB := n2_; clear n0_ n1_ n2_; (try clear hb); (try clear hb2); (try clear hk); (try clear hi); (try clear ho0); have hcz71_0 : w70.cell? ⟨gb204, 0, none⟩ = some (.int .i64 a1_0) := (blk_cell BK204.out 0).trans rfl; have hcz71_1 : w70.cell? ⟨gb204, 1, none⟩ = some (.string a1_1) := (blk_cell BK204.out 1).trans rfl; have hcz71_2 : w70.cell? ⟨gb204, 2, none⟩ = some (.string a1_2) := (blk_cell BK204.out 2).trans rfl; have hcz71_3 : w70.cell? ⟨gb204, 3, none⟩ = some (.int .i64 a1_3) := (blk_cell BK204.out 3).trans rfl; have hcz71_4 : w70.cell? ⟨gb204, 4, none⟩ = some (.int .i64 a1_4) := (blk_cell BK204.out 4).trans rfl; have hfz71_0 := blk_frozen BK204.out 0; have hfz71_1 := blk_frozen BK204.out 1; have hfz71_2 := blk_frozen BK204.out 2; have hfz71_3 := blk_frozen BK204.out 3; have hfz71_4 := blk_frozen BK204.out 4) | (go_at_call 18; (with_reducible refine (postriderlaw06_Cut.calls a1_0 a1_1 a1_2 a1_3 a1_4 t209 t210 t211 t212 t213 _ A6.out).mono ?_); rintro e w72 ⟨rfl, hb⟩; have n0_ := Aside0.mk (Kd.R_below (by (with_reducible repeat (first | apply Kd.R_alloc | apply Kd.R_drewN | apply Kd.R_drew)); exact HO208.out) hb); have n1_ := Aside0.mk (blk_below (g := gb204) (o := .cells #[.int .i64 a1_0, .string a1_1, .string a1_2, .int .i64 a1_3, .int .i64 a1_4] 37 (0, 0)) (by (with_reducible repeat (first | refine blk_drewN ?_ _ | refine blk_drew ?_ | refine blk_alloc ?_ _)); exact BK204.out) hb); have n2_ := Aside0.mk (below_step (by repeat (first | (with_reducible first | exact HB.out | apply below_alloc | apply pw_below_drewN | apply below_drew1 | refine below_set ?_ GE204.out) | exact HB.out)) hb); clear HO208; clear BK204; clear HB; have HO208 := n0_; have BK204 := n1_; have HB := n2_; clear n0_ n1_ n2_; (try clear hb); (try clear hb2); (try clear hk); (try clear hi); have hcz73_0 : w72.cell? ⟨gb204, 0, none⟩ = some (.int .i64 a1_0) := (blk_cell BK204.out 0).trans rfl; have hcz73_1 : w72.cell? ⟨gb204, 1, none⟩ = some (.string a1_1) := (blk_cell BK204.out 1).trans rfl; have hcz73_2 : w72.cell? ⟨gb204, 2, none⟩ = some (.string a1_2) := (blk_cell BK204.out 2).trans rfl; have hcz73_3 : w72.cell? ⟨gb204, 3, none⟩ = some (.int .i64 a1_3) := (blk_cell BK204.out 3).trans rfl; have hcz73_4 : w72.cell? ⟨gb204, 4, none⟩ = some (.int .i64 a1_4) := (blk_cell BK204.out 4).trans rfl; have hfz73_0 := blk_frozen BK204.out 0; have hfz73_1 := blk_frozen BK204.out 1; have hfz73_2 := blk_frozen BK204.out 2; have hfz73_3 := blk_frozen BK204.out 3; have hfz73_4 := blk_frozen BK204.out 4; obtain ⟨Ao74, co74, eo74⟩ := Kd.R_slice HO208.out; subst eo74) | (go_at_call 20; (with_reducible refine (route_All.calls _ _ t206 t209 t210 t211 t212 t213 t214 t217 _ ?side1 ?side2 ?side3 A7.out).mono ?_); (case side1 => refine (Kd.R_reads' (e := 35) (base := w.heap.size) (ok := fun k_ => True) (n := t206.length) (c := co74) ?_).2.2; exact (by (with_reducible repeat (first | apply Kd.R_alloc | apply Kd.R_drewN | apply Kd.R_drew)); exact (Kd.R_mono (Kd.R_far (p := ⟨gb204, 4, none⟩) (Kd.R_far (p := ⟨gb204, 3, none⟩) (Kd.R_far (p := ⟨gb204, 2, none⟩) (Kd.R_far (p := ⟨gb204, 1, none⟩) (Kd.R_far (p := ⟨gb204, 0, none⟩) (Kd.R_types HO208.out BK204.out (by decide)) (fun _ hk => hk.2) (.int .i64 t209)) (fun _ hk => hk.2) (.string t210)) (fun _ hk => hk.2) (.string t211)) (fun _ hk => hk.2) (.int .i64 t212)) (fun _ hk => hk.2) (.int .i64 t213)) (fun _ h_ => h_.1)))); (case side2 => exact (Kd.R_reads' HO208.out).2.1); (case side3 => exact LaidR.below HLD.out (by repeat (first | (with_reducible first | exact HB.out | apply below_alloc | apply pw_below_drewN | apply below_drew1 | refine below_set ?_ GE204.out) | exact HB.out))); rintro e w75 ⟨v215, rfl, ho0, hb⟩; have n0_ := Aside0.mk (Kd.R_below (by (with_reducible repeat (first | apply Kd.R_alloc | apply Kd.R_drewN | apply Kd.R_drew)); exact (Kd.R_mono (Kd.R_far (p := ⟨gb204, 4, none⟩) (Kd.R_far (p := ⟨gb204, 3, none⟩) (Kd.R_far (p := ⟨gb204, 2, none⟩) (Kd.R_far (p := ⟨gb204, 1, none⟩) (Kd.R_far (p := ⟨gb204, 0, none⟩) (Kd.R_types HO208.out BK204.out (by decide)) (fun _ hk => hk.2) (.int .i64 t209)) (fun _ hk => hk.2) (.string t210)) (fun _ hk => hk.2) (.string t211)) (fun _ hk => hk.2) (.int .i64 t212)) (fun _ hk => hk.2) (.int .i64 t213)) (fun _ h_ => h_.1))) hb); have n1_ := Aside0.mk (Kd.R_lower ho0 (below_size (by repeat (first | (with_reducible first | exact HB.out | apply below_alloc | apply pw_below_drewN | apply below_drew1 | refine below_set ?_ GE204.out) | exact HB.out)))); have n2_ := Aside0.mk (blk_below (g := gb204) (o := .cells #[.int .i64 t209, .string t210, .string t211, .int .i64 t212, .int .i64 t213] 37 (0, 0)) (by (with_reducible repeat (first | refine blk_drewN ?_ _ | refine blk_drew ?_ | refine blk_alloc ?_ _)); refine blk_put (cs := #[.int .i64 t209, .string t210, .string t211, .int .i64 t212, .int .i64 a1_4]) ?_ 4 _ rfl; (with_reducible repeat (first | refine blk_drewN ?_ _ | refine blk_drew ?_ | refine blk_alloc ?_ _)); refine blk_put (cs := #[.int .i64 t209, .string t210, .string t211, .int .i64 a1_3, .int .i64 a1_4]) ?_ 3 _ rfl; (with_reducible repeat (first | refine blk_drewN ?_ _ | refine blk_drew ?_ | refine blk_alloc ?_ _)); refine blk_put (cs := #[.int .i64 t209, .string t210, .string a1_2, .int .i64 a1_3, .int .i64 a1_4]) ?_ 2 _ rfl; (with_reducible repeat (first | refine blk_drewN ?_ _ | refine blk_drew ?_ | refine blk_alloc ?_ _)); refine blk_put (cs := #[.int .i64 t209, .string a1_1, .string a1_2, .int .i64 a1_3, .int .i64 a1_4]) ?_ 1 _ rfl; (with_reducible repeat (first | refine blk_drewN ?_ _ | refine blk_drew ?_ | refine blk_alloc ?_ _)); refine blk_put (cs := #[.int .i64 a1_0, .string a1_1, .string a1_2, .int .i64 a1_3, .int .i64 a1_4]) ?_ 0 _ rfl; (with_reducible repeat (first | refine blk_drewN ?_ _ | refine blk_drew ?_ | refine blk_alloc ?_ _)); exact BK204.out) hb); have n3_ := Aside0.mk (below_step (by repeat (first | (with_reducible first | exact HB.out | apply below_alloc | apply pw_below_drewN | apply below_drew1 | refine below_set ?_ GE204.out) | exact HB.out)) hb); clear HO208; clear BK204; clear HB; have HO208 := n0_; have HO216 := n1_; have BK204 := n2_; have HB := n3_; clear n0_ n1_ n2_ n3_; (try clear hb); (try clear hb2); (try clear hk); (try clear hi); (try clear ho0); have hcz76_0 : w75.cell? ⟨gb204, 0, none⟩ = some (.int .i64 t209) := (blk_cell BK204.out 0).trans rfl; have hcz76_1 : w75.cell? ⟨gb204, 1, none⟩ = some (.string t210) := (blk_cell BK204.out 1).trans rfl; have hcz76_2 : w75.cell? ⟨gb204, 2, none⟩ = some (.string t211) := (blk_cell BK204.out 2).trans rfl; have hcz76_3 : w75.cell? ⟨gb204, 3, none⟩ = some (.int .i64 t212) := (blk_cell BK204.out 3).trans rfl; have hcz76_4 : w75.cell? ⟨gb204, 4, none⟩ = some (.int .i64 t213) := (blk_cell BK204.out 4).trans rfl; have hfz76_0 := blk_frozen BK204.out 0; have hfz76_1 := blk_frozen BK204.out 1; have hfz76_2 := blk_frozen BK204.out 2; have hfz76_3 := blk_frozen BK204.out 3; have hfz76_4 := blk_frozen BK204.out 4) | (go_at_call 21; (with_reducible refine (eid_PrintR.calls t209 t210 t211 t212 t213 t218 t219 _ ?side1 A8.out).mono ?_); (case side1 => exact LaidR.below HLD.out (by repeat (first | (with_reducible first | exact HB.out | apply below_alloc | apply pw_below_drewN | apply below_drew1 | refine below_set ?_ GE204.out) | exact HB.out))); rintro e w77 ⟨rfl, hb⟩; have n0_ := Aside0.mk (Kd.R_below (by (with_reducible repeat (first | apply Kd.R_alloc | apply Kd.R_drewN | apply Kd.R_drew)); exact HO208.out) hb); have n1_ := Aside0.mk (Kd.R_below (by (with_reducible repeat (first | apply Kd.R_alloc | apply Kd.R_drewN | apply Kd.R_drew)); exact HO216.out) hb); have n2_ := Aside0.mk (blk_below (g := gb204) (o := .cells #[.int .i64 t209, .string t210, .string t211, .int .i64 t212, .int .i64 t213] 37 (0, 0)) (by (with_reducible repeat (first | refine blk_drewN ?_ _ | refine blk_drew ?_ | refine blk_alloc ?_ _)); exact BK204.out) hb); have n3_ := Aside0.mk (below_step (by repeat (first | (with_reducible first | exact HB.out | apply below_alloc | apply pw_below_drewN | apply below_drew1 | refine below_set ?_ GE204.out) | exact HB.out)) hb); clear HO208; clear HO216; clear BK204; clear HB; have HO208 := n0_; have HO216 := n1_; have BK204 := n2_; have HB := n3_; clear n0_ n1_ n2_ n3_; (try clear hb); (try clear hb2); (try clear hk); (try clear hi); obtain ⟨Ao78, co78, eo78⟩ := Kd.R_slice HO216.out; subst eo78))
      repeat (go_quiet (first | ((with_reducible refine gate_dst (N := 4) rfl ?_); (try (refine gate_guard (by rfl) ?_; dsimp only)); refine box_event ?hg (N := 4) ?hd (cs := #[.int .i64 a1_0, .string a1_1, .string a1_2, .int .i64 a1_3, .int .i64 a1_4]) (t := 37) ?hr ?_; (case hd => rfl); (case hg => rfl); (case hr => first | (go_simp; done) | (go_simp; rfl) | (go_simp; simp only [isEmpty_ne, isEmpty_eq]; done) | (go_simp; simp only [isEmpty_ne, isEmpty_eq]; rfl)); intro gb204 hg w68 hbox hb; have n0_ := Aside0.mk (below_step (by repeat (first | (with_reducible first | exact HB.out | apply below_alloc | apply pw_below_drewN | apply below_drew1) | exact HB.out)) hb); have n1_ := Aside0.mk (hbox); have n2_ := Aside0.mk ((by rw [hg]; exact (below_size (by repeat (first | (with_reducible first | exact HB.out | apply below_alloc | apply pw_below_drewN | apply below_drew1) | exact HB.out))) : w.heap.size ≤ gb204)); have n3_ := Aside0.mk ((by rw [hg]; exact (below_size (by repeat (first | (with_reducible first | exact HB.out | apply below_alloc | apply pw_below_drewN | apply below_drew1) | exact HB.out))) : w.heap.size ≤ gb204)); clear HB; have HB := n0_; have BK204 := n1_; have GW204 := n2_; have GE204 := n3_; clear n0_ n1_ n2_ n3_; clear hb hbox hg) | (go_at_call 10; (with_reducible refine (postriderlaw16_shown.calls  true _ ?side1 A4.out).mono ?_); (case side1 => exact LaidR.below HLD.out (by repeat (first | (with_reducible first | exact HB.out | apply below_alloc | apply pw_below_drewN | apply below_drew1 | refine below_set ?_ GE204.out) | exact HB.out))); rintro e w69 ⟨rfl, hb⟩; have n0_ := Aside0.mk (blk_below (g := gb204) (o := .cells #[.int .i64 a1_0, .string a1_1, .string a1_2, .int .i64 a1_3, .int .i64 a1_4] 37 (0, 0)) (by (with_reducible repeat (first | refine blk_drewN ?_ _ | refine blk_drew ?_ | refine blk_alloc ?_ _)); exact BK204.out) hb); have n1_ := Aside0.mk (below_step (by repeat (first | (with_reducible first | exact HB.out | apply below_alloc | apply pw_below_drewN | apply below_drew1 | refine below_set ?_ GE204.out) | exact HB.out)) hb); clear BK204; clear HB; have BK204 := n0_; have HB := n1_; clear n0_ n1_; (try clear hb); (try clear hb2); (try clear hk); (try clear hi)) | (go_at_call 17; (with_reducible refine (postriderlaw16_Cut.calls k _ _ l0 t206 _ ?side1 ?side2 A5.out).mono ?_); (case side1 => repeat (first | exact (Kd.C_below HR0.out HB.out) | (with_reducible refine Kd.C_alloc ?_ _) | (with_reducible refine Kd.C_drewN ?_ _) | (with_reducible refine Kd.C_drew ?_))); (case side2 => exact HC0.out); rintro e w70 ⟨v207, rfl, ho0, hb⟩; have n0_ := Aside0.mk (Kd.R_lower ho0 (below_size (by repeat (first | (with_reducible first | exact HB.out | apply below_alloc | apply pw_below_drewN | apply below_drew1 | refine below_set ?_ GE204.out) | exact HB.out)))); have n1_ := Aside0.mk (blk_below (g := gb204) (o := .cells #[.int .i64 a1_0, .string a1_1, .string a1_2, .int .i64 a1_3, .int .i64 a1_4] 37 (0, 0)) (by (with_reducible repeat (first | refine blk_drewN ?_ _ | refine blk_drew ?_ | refine blk_alloc ?_ _)); exact BK204.out) hb); have n2_ := Aside0.mk (below_step (by repeat (first | (with_reducible first | exact HB.out | apply below_alloc | apply pw_below_drewN | apply below_drew1 | refine below_set ?_ GE204.out) | exact HB.out)) hb); clear BK204; clear HB; have HO208 := n0_; have BK204 := n1_; have HB := n2_; clear n0_ n1_ n2_; (try clear hb); (try clear hb2); (try clear hk); (try clear hi); (try clear ho0); have hcz71_0 : w70.cell? ⟨gb204, 0, none⟩ = some (.int .i64 a1_0) := (blk_cell BK204.out 0).trans rfl; have hcz71_1 : w70.cell? ⟨gb204, 1, none⟩ = some (.string a1_1) := (blk_cell BK204.out 1).trans rfl; have hcz71_2 : w70.cell? ⟨gb204, 2, none⟩ = some (.string a1_2) := (blk_cell BK204.out 2).trans rfl; have hcz71_3 : w70.cell? ⟨gb204, 3, none⟩ = some (.int .i64 a1_3) := (blk_cell BK204.out 3).trans rfl; have hcz71_4 : w70.cell? ⟨gb204, 4, none⟩ = some (.int .i64 a1_4) := (blk_cell BK204.out 4).trans rfl; have hfz71_0 := blk_frozen BK204.out 0; have hfz71_1 := blk_frozen BK204.out 1; have hfz71_2 := blk_frozen BK204.out 2; have hfz71_3 := blk_frozen BK204.out 3; have hfz71_4 := blk_frozen BK204.out 4) | (go_at_call 18; (with_reducible refine (postriderlaw06_Cut.calls a1_0 a1_1 a1_2 a1_3 a1_4 t209 t210 t211 t212 t213 _ A6.out).mono ?_); rintro e w72 ⟨rfl, hb⟩; have n0_ := Aside0.mk (Kd.R_below (by (with_reducible repeat (first | apply Kd.R_alloc | apply Kd.R_drewN | apply Kd.R_drew)); exact HO208.out) hb); have n1_ := Aside0.mk (blk_below (g := gb204) (o := .cells #[.int .i64 a1_0, .string a1_1, .string a1_2, .int .i64 a1_3, .int .i64 a1_4] 37 (0, 0)) (by (with_reducible repeat (first | refine blk_drewN ?_ _ | refine blk_drew ?_ | refine blk_alloc ?_ _)); exact BK204.out) hb); have n2_ := Aside0.mk (below_step (by repeat (first | (with_reducible first | exact HB.out | apply below_alloc | apply pw_below_drewN | apply below_drew1 | refine below_set ?_ GE204.out) | exact HB.out)) hb); clear HO208; clear BK204; clear HB; have HO208 := n0_; have BK204 := n1_; have HB := n2_; clear n0_ n1_ n2_; (try clear hb); (try clear hb2); (try clear hk); (try clear hi); have hcz73_0 : w72.cell? ⟨gb204, 0, none⟩ = some (.int .i64 a1_0) := (blk_cell BK204.out 0).trans rfl; have hcz73_1 : w72.cell? ⟨gb204, 1, none⟩ = some (.string a1_1) := (blk_cell BK204.out 1).trans rfl; have hcz73_2 : w72.cell? ⟨gb204, 2, none⟩ = some (.string a1_2) := (blk_cell BK204.out 2).trans rfl; have hcz73_3 : w72.cell? ⟨gb204, 3, none⟩ = some (.int .i64 a1_3) := (blk_cell BK204.out 3).trans rfl; have hcz73_4 : w72.cell? ⟨gb204, 4, none⟩ = some (.int .i64 a1_4) := (blk_cell BK204.out 4).trans rfl; have hfz73_0 := blk_frozen BK204.out 0; have hfz73_1 := blk_frozen BK204.out 1; have hfz73_2 := blk_frozen BK204.out 2; have hfz73_3 := blk_frozen BK204.out 3; have hfz73_4 := blk_frozen BK204.out 4; obtain ⟨Ao74, co74, eo74⟩ := Kd.R_slice HO208.out; subst eo74) | (go_at_call 20; (with_reducible refine (route_All.calls _ _ t206 t209 t210 t211 t212 t213 t214 t217 _ ?side1 ?side2 ?side3 A7.out).mono ?_); (case side1 => refine (Kd.R_reads' (e := 35) (base := w.heap.size) (ok := fun k_ => True) (n := t206.length) (c := co74) ?_).2.2; exact (by (with_reducible repeat (first | apply Kd.R_alloc | apply Kd.R_drewN | apply Kd.R_drew)); exact (Kd.R_mono (Kd.R_far (p := ⟨gb204, 4, none⟩) (Kd.R_far (p := ⟨gb204, 3, none⟩) (Kd.R_far (p := ⟨gb204, 2, none⟩) (Kd.R_far (p := ⟨gb204, 1, none⟩) (Kd.R_far (p := ⟨gb204, 0, none⟩) (Kd.R_types HO208.out BK204.out (by decide)) (fun _ hk => hk.2) (.int .i64 t209)) (fun _ hk => hk.2) (.string t210)) (fun _ hk => hk.2) (.string t211)) (fun _ hk => hk.2) (.int .i64 t212)) (fun _ hk => hk.2) (.int .i64 t213)) (fun _ h_ => h_.1)))); (case side2 => exact (Kd.R_reads' HO208.out).2.1); (case side3 => exact LaidR.below HLD.out (by repeat (first | (with_reducible first | exact HB.out | apply below_alloc | apply pw_below_drewN | apply below_drew1 | refine below_set ?_ GE204.out) | exact HB.out))); rintro e w75 ⟨v215, rfl, ho0, hb⟩; have n0_ := Aside0.mk (Kd.R_below (by (with_reducible repeat (first | apply Kd.R_alloc | apply Kd.R_drewN | apply Kd.R_drew)); exact (Kd.R_mono (Kd.R_far (p := ⟨gb204, 4, none⟩) (Kd.R_far (p := ⟨gb204, 3, none⟩) (Kd.R_far (p := ⟨gb204, 2, none⟩) (Kd.R_far (p := ⟨gb204, 1, none⟩) (Kd.R_far (p := ⟨gb204, 0, none⟩) (Kd.R_types HO208.out BK204.out (by decide)) (fun _ hk => hk.2) (.int .i64 t209)) (fun _ hk => hk.2) (.string t210)) (fun _ hk => hk.2) (.string t211)) (fun _ hk => hk.2) (.int .i64 t212)) (fun _ hk => hk.2) (.int .i64 t213)) (fun _ h_ => h_.1))) hb); have n1_ := Aside0.mk (Kd.R_lower ho0 (below_size (by repeat (first | (with_reducible first | exact HB.out | apply below_alloc | apply pw_below_drewN | apply below_drew1 | refine below_set ?_ GE204.out) | exact HB.out)))); have n2_ := Aside0.mk (blk_below (g := gb204) (o := .cells #[.int .i64 t209, .string t210, .string t211, .int .i64 t212, .int .i64 t213] 37 (0, 0)) (by (with_reducible repeat (first | refine blk_drewN ?_ _ | refine blk_drew ?_ | refine blk_alloc ?_ _)); refine blk_put (cs := #[.int .i64 t209, .string t210, .string t211, .int .i64 t212, .int .i64 a1_4]) ?_ 4 _ rfl; (with_reducible repeat (first | refine blk_drewN ?_ _ | refine blk_drew ?_ | refine blk_alloc ?_ _)); refine blk_put (cs := #[.int .i64 t209, .string t210, .string t211, .int .i64 a1_3, .int .i64 a1_4]) ?_ 3 _ rfl; (with_reducible repeat (first | refine blk_drewN ?_ _ | refine blk_drew ?_ | refine blk_alloc ?_ _)); refine blk_put (cs := #[.int .i64 t209, .string t210, .string a1_2, .int .i64 a1_3, .int .i64 a1_4]) ?_ 2 _ rfl; (with_reducible repeat (first | refine blk_drewN ?_ _ | refine blk_drew ?_ | refine blk_alloc ?_ _)); refine blk_put (cs := #[.int .i64 t209, .string a1_1, .string a1_2, .int .i64 a1_3, .int .i64 a1_4]) ?_ 1 _ rfl; (with_reducible repeat (first | refine blk_drewN ?_ _ | refine blk_drew ?_ | refine blk_alloc ?_ _)); refine blk_put (cs := #[.int .i64 a1_0, .string a1_1, .string a1_2, .int .i64 a1_3, .int .i64 a1_4]) ?_ 0 _ rfl; (with_reducible repeat (first | refine blk_drewN ?_ _ | refine blk_drew ?_ | refine blk_alloc ?_ _)); exact BK204.out) hb); have n3_ := Aside0.mk (below_step (by repeat (first | (with_reducible first | exact HB.out | apply below_alloc | apply pw_below_drewN | apply below_drew1 | refine below_set ?_ GE204.out) | exact HB.out)) hb); clear HO208; clear BK204; clear HB; have HO208 := n0_; have HO216 := n1_; have BK204 := n2_; have HB := n3_; clear n0_ n1_ n2_ n3_; (try clear hb); (try clear hb2); (try clear hk); (try clear hi); (try clear ho0); have hcz76_0 : w75.cell? ⟨gb204, 0, none⟩ = some (.int .i64 t209) := (blk_cell BK204.out 0).trans rfl; have hcz76_1 : w75.cell? ⟨gb204, 1, none⟩ = some (.string t210) := (blk_cell BK204.out 1).trans rfl; have hcz76_2 : w75.cell? ⟨gb204, 2, none⟩ = some (.string t211) := (blk_cell BK204.out 2).trans rfl; have hcz76_3 : w75.cell? ⟨gb204, 3, none⟩ = some (.int .i64 t212) := (blk_cell BK204.out 3).trans rfl; have hcz76_4 : w75.cell? ⟨gb204, 4, none⟩ = some (.int .i64 t213) := (blk_cell BK204.out 4).trans rfl; have hfz76_0 := blk_frozen BK204.out 0; have hfz76_1 := blk_frozen BK204.out 1; have hfz76_2 := blk_frozen BK204.out 2; have hfz76_3 := blk_frozen BK204.out 3; have hfz76_4 := blk_frozen BK204.out 4) | (go_at_call 21; (with_reducible refine (eid_PrintR.calls t209 t210 t211 t212 t213 t218 t219 _ ?side1 A8.out).mono ?_); (case side1 => exact LaidR.below HLD.out (by repeat (first | (with_reducible first | exact HB.out | apply below_alloc | apply pw_below_drewN | apply below_drew1 | refine below_set ?_ GE204.out) | exact HB.out))); rintro e w77 ⟨rfl, hb⟩; have n0_ := Aside0.mk (Kd.R_below (by (with_reducible repeat (first | apply Kd.R_alloc | apply Kd.R_drewN | apply Kd.R_drew)); exact HO208.out) hb); have n1_ := Aside0.mk (Kd.R_below (by (with_reducible repeat (first | apply Kd.R_alloc | apply Kd.R_drewN | apply Kd.R_drew)); exact HO216.out) hb); have n2_ := Aside0.mk (blk_below (g := gb204) (o := .cells #[.int .i64 t209, .string t210, .string t211, .int .i64 t212, .int .i64 t213] 37 (0, 0)) (by (with_reducible repeat (first | refine blk_drewN ?_ _ | refine blk_drew ?_ | refine blk_alloc ?_ _)); exact BK204.out) hb); have n3_ := Aside0.mk (below_step (by repeat (first | (with_reducible first | exact HB.out | apply below_alloc | apply pw_below_drewN | apply below_drew1 | refine below_set ?_ GE204.out) | exact HB.out)) hb); clear HO208; clear HO216; clear BK204; clear HB; have HO208 := n0_; have HO216 := n1_; have BK204 := n2_; have HB := n3_; clear n0_ n1_ n2_ n3_; (try clear hb); (try clear hb2); (try clear hk); (try clear hi); obtain ⟨Ao78, co78, eo78⟩ := Kd.R_slice HO216.out; subst eo78)); try go_wp2_with (first | ((with_reducible refine gate_dst (N := 4) rfl ?_); (try (refine gate_guard (by rfl) ?_; dsimp only)); refine box_event ?hg (N := 4) ?hd (cs := #[.int .i64 a1_0, .string a1_1, .string a1_2, .int .i64 a1_3, .int .i64 a1_4]) (t := 37) ?hr ?_; (case hd => rfl); (case hg => rfl); (case hr => first | (go_simp; done) | (go_simp; rfl) | (go_simp; simp only [isEmpty_ne, isEmpty_eq]; done) | (go_simp; simp only [isEmpty_ne, isEmpty_eq]; rfl)); intro gb204 hg w68 hbox hb; have n0_ := Aside0.mk (below_step (by repeat (first | (with_reducible first | exact HB.out | apply below_alloc | apply pw_below_drewN | apply below_drew1) | exact HB.out)) hb); have n1_ := Aside0.mk (hbox); have n2_ := Aside0.mk ((by rw [hg]; exact (below_size (by repeat (first | (with_reducible first | exact HB.out | apply below_alloc | apply pw_below_drewN | apply below_drew1) | exact HB.out))) : w.heap.size ≤ gb204)); have n3_ := Aside0.mk ((by rw [hg]; exact (below_size (by repeat (first | (with_reducible first | exact HB.out | apply below_alloc | apply pw_below_drewN | apply below_drew1) | exact HB.out))) : w.heap.size ≤ gb204)); clear HB; have HB := n0_; have BK204 := n1_; have GW204 := n2_; have GE204 := n3_; clear n0_ n1_ n2_ n3_; clear hb hbox hg) | (go_at_call 10; (with_reducible refine (postriderlaw16_shown.calls  true _ ?side1 A4.out).mono ?_); (case side1 => exact LaidR.below HLD.out (by repeat (first | (with_reducible first | exact HB.out | apply below_alloc | apply pw_below_drewN | apply below_drew1 | refine below_set ?_ GE204.out) | exact HB.out))); rintro e w69 ⟨rfl, hb⟩; have n0_ := Aside0.mk (blk_below (g := gb204) (o := .cells #[.int .i64 a1_0, .string a1_1, .string a1_2, .int .i64 a1_3, .int .i64 a1_4] 37 (0, 0)) (by (with_reducible repeat (first | refine blk_drewN ?_ _ | refine blk_drew ?_ | refine blk_alloc ?_ _)); exact BK204.out) hb); have n1_ := Aside0.mk (below_step (by repeat (first | (with_reducible first | exact HB.out | apply below_alloc | apply pw_below_drewN | apply below_drew1 | refine below_set ?_ GE204.out) | exact HB.out)) hb); clear BK204; clear HB; have BK204 := n0_; have HB := n1_; clear n0_ n1_; (try clear hb); (try clear hb2); (try clear hk); (try clear hi)) | (go_at_call 17; (with_reducible refine (postriderlaw16_Cut.calls k _ _ l0 t206 _ ?side1 ?side2 A5.out).mono ?_); (case side1 => repeat (first | exact (Kd.C_below HR0.out HB.out) | (with_reducible refine Kd.C_alloc ?_ _) | (with_reducible refine Kd.C_drewN ?_ _) | (with_reducible refine Kd.C_drew ?_))); (case side2 => exact HC0.out); rintro e w70 ⟨v207, rfl, ho0, hb⟩; have n0_ := Aside0.mk (Kd.R_lower ho0 (below_size (by repeat (first | (with_reducible first | exact HB.out | apply below_alloc | apply pw_below_drewN | apply below_drew1 | refine below_set ?_ GE204.out) | exact HB.out)))); have n1_ := Aside0.mk (blk_below (g := gb204) (o := .cells #[.int .i64 a1_0, .string a1_1, .string a1_2, .int .i64 a1_3, .int .i64 a1_4] 37 (0, 0)) (by (with_reducible repeat (first | refine blk_drewN ?_ _ | refine blk_drew ?_ | refine blk_alloc ?_ _)); exact BK204.out) hb); have n2_ := Aside0.mk (below_step (by repeat (first | (with_reducible first | exact HB.out | apply below_alloc | apply pw_below_drewN | apply below_drew1 | refine below_set ?_ GE204.out) | exact HB.out)) hb); clear BK204; clear HB; have HO208 := n0_; have BK204 := n1_; have HB := n2_; clear n0_ n1_ n2_; (try clear hb); (try clear hb2); (try clear hk); (try clear hi); (try clear ho0); have hcz71_0 : w70.cell? ⟨gb204, 0, none⟩ = some (.int .i64 a1_0) := (blk_cell BK204.out 0).trans rfl; have hcz71_1 : w70.cell? ⟨gb204, 1, none⟩ = some (.string a1_1) := (blk_cell BK204.out 1).trans rfl; have hcz71_2 : w70.cell? ⟨gb204, 2, none⟩ = some (.string a1_2) := (blk_cell BK204.out 2).trans rfl; have hcz71_3 : w70.cell? ⟨gb204, 3, none⟩ = some (.int .i64 a1_3) := (blk_cell BK204.out 3).trans rfl; have hcz71_4 : w70.cell? ⟨gb204, 4, none⟩ = some (.int .i64 a1_4) := (blk_cell BK204.out 4).trans rfl; have hfz71_0 := blk_frozen BK204.out 0; have hfz71_1 := blk_frozen BK204.out 1; have hfz71_2 := blk_frozen BK204.out 2; have hfz71_3 := blk_frozen BK204.out 3; have hfz71_4 := blk_frozen BK204.out 4) | (go_at_call 18; (with_reducible refine (postriderlaw06_Cut.calls a1_0 a1_1 a1_2 a1_3 a1_4 t209 t210 t211 t212 t213 _ A6.out).mono ?_); rintro e w72 ⟨rfl, hb⟩; have n0_ := Aside0.mk (Kd.R_below (by (with_reducible repeat (first | apply Kd.R_alloc | apply Kd.R_drewN | apply Kd.R_drew)); exact HO208.out) hb); have n1_ := Aside0.mk (blk_below (g := gb204) (o := .cells #[.int .i64 a1_0, .string a1_1, .string a1_2, .int .i64 a1_3, .int .i64 a1_4] 37 (0, 0)) (by (with_reducible repeat (first | refine blk_drewN ?_ _ | refine blk_drew ?_ | refine blk_alloc ?_ _)); exact BK204.out) hb); have n2_ := Aside0.mk (below_step (by repeat (first | (with_reducible first | exact HB.out | apply below_alloc | apply pw_below_drewN | apply below_drew1 | refine below_set ?_ GE204.out) | exact HB.out)) hb); clear HO208; clear BK204; clear HB; have HO208 := n0_; have BK204 := n1_; have HB := n2_; clear n0_ n1_ n2_; (try clear hb); (try clear hb2); (try clear hk); (try clear hi); have hcz73_0 : w72.cell? ⟨gb204, 0, none⟩ = some (.int .i64 a1_0) := (blk_cell BK204.out 0).trans rfl; have hcz73_1 : w72.cell? ⟨gb204, 1, none⟩ = some (.string a1_1) := (blk_cell BK204.out 1).trans rfl; have hcz73_2 : w72.cell? ⟨gb204, 2, none⟩ = some (.string a1_2) := (blk_cell BK204.out 2).trans rfl; have hcz73_3 : w72.cell? ⟨gb204, 3, none⟩ = some (.int .i64 a1_3) := (blk_cell BK204.out 3).trans rfl; have hcz73_4 : w72.cell? ⟨gb204, 4, none⟩ = some (.int .i64 a1_4) := (blk_cell BK204.out 4).trans rfl; have hfz73_0 := blk_frozen BK204.out 0; have hfz73_1 := blk_frozen BK204.out 1; have hfz73_2 := blk_frozen BK204.out 2; have hfz73_3 := blk_frozen BK204.out 3; have hfz73_4 := blk_frozen BK204.out 4; obtain ⟨Ao74, co74, eo74⟩ := Kd.R_slice HO208.out; subst eo74) | (go_at_call 20; (with_reducible refine (route_All.calls _ _ t206 t209 t210 t211 t212 t213 t214 t217 _ ?side1 ?side2 ?side3 A7.out).mono ?_); (case side1 => refine (Kd.R_reads' (e := 35) (base := w.heap.size) (ok := fun k_ => True) (n := t206.length) (c := co74) ?_).2.2; exact (by (with_reducible repeat (first | apply Kd.R_alloc | apply Kd.R_drewN | apply Kd.R_drew)); exact (Kd.R_mono (Kd.R_far (p := ⟨gb204, 4, none⟩) (Kd.R_far (p := ⟨gb204, 3, none⟩) (Kd.R_far (p := ⟨gb204, 2, none⟩) (Kd.R_far (p := ⟨gb204, 1, none⟩) (Kd.R_far (p := ⟨gb204, 0, none⟩) (Kd.R_types HO208.out BK204.out (by decide)) (fun _ hk => hk.2) (.int .i64 t209)) (fun _ hk => hk.2) (.string t210)) (fun _ hk => hk.2) (.string t211)) (fun _ hk => hk.2) (.int .i64 t212)) (fun _ hk => hk.2) (.int .i64 t213)) (fun _ h_ => h_.1)))); (case side2 => exact (Kd.R_reads' HO208.out).2.1); (case side3 => exact LaidR.below HLD.out (by repeat (first | (with_reducible first | exact HB.out | apply below_alloc | apply pw_below_drewN | apply below_drew1 | refine below_set ?_ GE204.out) | exact HB.out))); rintro e w75 ⟨v215, rfl, ho0, hb⟩; have n0_ := Aside0.mk (Kd.R_below (by (with_reducible repeat (first | apply Kd.R_alloc | apply Kd.R_drewN | apply Kd.R_drew)); exact (Kd.R_mono (Kd.R_far (p := ⟨gb204, 4, none⟩) (Kd.R_far (p := ⟨gb204, 3, none⟩) (Kd.R_far (p := ⟨gb204, 2, none⟩) (Kd.R_far (p := ⟨gb204, 1, none⟩) (Kd.R_far (p := ⟨gb204, 0, none⟩) (Kd.R_types HO208.out BK204.out (by decide)) (fun _ hk => hk.2) (.int .i64 t209)) (fun _ hk => hk.2) (.string t210)) (fun _ hk => hk.2) (.string t211)) (fun _ hk => hk.2) (.int .i64 t212)) (fun _ hk => hk.2) (.int .i64 t213)) (fun _ h_ => h_.1))) hb); have n1_ := Aside0.mk (Kd.R_lower ho0 (below_size (by repeat (first | (with_reducible first | exact HB.out | apply below_alloc | apply pw_below_drewN | apply below_drew1 | refine below_set ?_ GE204.out) | exact HB.out)))); have n2_ := Aside0.mk (blk_below (g := gb204) (o := .cells #[.int .i64 t209, .string t210, .string t211, .int .i64 t212, .int .i64 t213] 37 (0, 0)) (by (with_reducible repeat (first | refine blk_drewN ?_ _ | refine blk_drew ?_ | refine blk_alloc ?_ _)); refine blk_put (cs := #[.int .i64 t209, .string t210, .string t211, .int .i64 t212, .int .i64 a1_4]) ?_ 4 _ rfl; (with_reducible repeat (first | refine blk_drewN ?_ _ | refine blk_drew ?_ | refine blk_alloc ?_ _)); refine blk_put (cs := #[.int .i64 t209, .string t210, .string t211, .int .i64 a1_3, .int .i64 a1_4]) ?_ 3 _ rfl; (with_reducible repeat (first | refine blk_drewN ?_ _ | refine blk_drew ?_ | refine blk_alloc ?_ _)); refine blk_put (cs := #[.int .i64 t209, .string t210, .string a1_2, .int .i64 a1_3, .int .i64 a1_4]) ?_ 2 _ rfl; (with_reducible repeat (first | refine blk_drewN ?_ _ | refine blk_drew ?_ | refine blk_alloc ?_ _)); refine blk_put (cs := #[.int .i64 t209, .string a1_1, .string a1_2, .int .i64 a1_3, .int .i64 a1_4]) ?_ 1 _ rfl; (with_reducible repeat (first | refine blk_drewN ?_ _ | refine blk_drew ?_ | refine blk_alloc ?_ _)); refine blk_put (cs := #[.int .i64 a1_0, .string a1_1, .string a1_2, .int .i64 a1_3, .int .i64 a1_4]) ?_ 0 _ rfl; (with_reducible repeat (first | refine blk_drewN ?_ _ | refine blk_drew ?_ | refine blk_alloc ?_ _)); exact BK204.out) hb); have n3_ := Aside0.mk (below_step (by repeat (first | (with_reducible first | exact HB.out | apply below_alloc | apply pw_below_drewN | apply below_drew1 | refine below_set ?_ GE204.out) | exact HB.out)) hb); clear HO208; clear BK204; clear HB; have HO208 := n0_; have HO216 := n1_; have BK204 := n2_; have HB := n3_; clear n0_ n1_ n2_ n3_; (try clear hb); (try clear hb2); (try clear hk); (try clear hi); (try clear ho0); have hcz76_0 : w75.cell? ⟨gb204, 0, none⟩ = some (.int .i64 t209) := (blk_cell BK204.out 0).trans rfl; have hcz76_1 : w75.cell? ⟨gb204, 1, none⟩ = some (.string t210) := (blk_cell BK204.out 1).trans rfl; have hcz76_2 : w75.cell? ⟨gb204, 2, none⟩ = some (.string t211) := (blk_cell BK204.out 2).trans rfl; have hcz76_3 : w75.cell? ⟨gb204, 3, none⟩ = some (.int .i64 t212) := (blk_cell BK204.out 3).trans rfl; have hcz76_4 : w75.cell? ⟨gb204, 4, none⟩ = some (.int .i64 t213) := (blk_cell BK204.out 4).trans rfl; have hfz76_0 := blk_frozen BK204.out 0; have hfz76_1 := blk_frozen BK204.out 1; have hfz76_2 := blk_frozen BK204.out 2; have hfz76_3 := blk_frozen BK204.out 3; have hfz76_4 := blk_frozen BK204.out 4) | (go_at_call 21; (with_reducible refine (eid_PrintR.calls t209 t210 t211 t212 t213 t218 t219 _ ?side1 A8.out).mono ?_); (case side1 => exact LaidR.below HLD.out (by repeat (first | (with_reducible first | exact HB.out | apply below_alloc | apply pw_below_drewN | apply below_drew1 | refine below_set ?_ GE204.out) | exact HB.out))); rintro e w77 ⟨rfl, hb⟩; have n0_ := Aside0.mk (Kd.R_below (by (with_reducible repeat (first | apply Kd.R_alloc | apply Kd.R_drewN | apply Kd.R_drew)); exact HO208.out) hb); have n1_ := Aside0.mk (Kd.R_below (by (with_reducible repeat (first | apply Kd.R_alloc | apply Kd.R_drewN | apply Kd.R_drew)); exact HO216.out) hb); have n2_ := Aside0.mk (blk_below (g := gb204) (o := .cells #[.int .i64 t209, .string t210, .string t211, .int .i64 t212, .int .i64 t213] 37 (0, 0)) (by (with_reducible repeat (first | refine blk_drewN ?_ _ | refine blk_drew ?_ | refine blk_alloc ?_ _)); exact BK204.out) hb); have n3_ := Aside0.mk (below_step (by repeat (first | (with_reducible first | exact HB.out | apply below_alloc | apply pw_below_drewN | apply below_drew1 | refine below_set ?_ GE204.out) | exact HB.out)) hb); clear HO208; clear HO216; clear BK204; clear HB; have HO208 := n0_; have HO216 := n1_; have BK204 := n2_; have HB := n3_; clear n0_ n1_ n2_ n3_; (try clear hb); (try clear hb2); (try clear hk); (try clear hi); obtain ⟨Ao78, co78, eo78⟩ := Kd.R_slice HO216.out; subst eo78)))
      all_goals (first | (go_ret; exact ⟨by first | rfl | (simp [errW_none, errW_some] <;> rfl) | (simp [*, errW_none, errW_some] <;> rfl) | (simp_all; done) | fail, by repeat (first | (with_reducible first | exact HB.out | apply below_alloc | apply pw_below_drewN | apply below_drew1 | refine below_set ?_ GE204.out) | exact HB.out)⟩) | (exfalso; simp_all; done) | (exfalso; simp only [isEmpty_eq, isEmpty_ne] at *; simp_all; done) | (exfalso; exact isEmpty_clash (by assumption) (by assumption)) | (exfalso; exact isEmpty_clash' (by assumption) (by assumption)) | (exfalso; exact isEmpty_clash2 (by assumption) (by assumption)) | (exfalso; simp only [decide_eq_true_eq, decide_eq_false_iff_not] at *; omega))
    · replace c67 := Bool.eq_false_iff.mpr c67
      subst c67
      have H1 : (some false) = some r := by rw [if_neg (show ¬ (false = true) by decide)] at H; exact H
      clear H
      have H := H1
      clear H1
      obtain rfl := Option.some.inj H
      go_enter Tryz.func6, Tryz.ntmps6
      go_wp2_with (first | ((with_reducible refine gate_dst (N := 4) rfl ?_); (try (refine gate_guard (by rfl) ?_; dsimp only)); refine box_event ?hg (N := 4) ?hd (cs := #[.int .i64 a1_0, .string a1_1, .string a1_2, .int .i64 a1_3, .int .i64 a1_4]) (t := 37) ?hr ?_; (case hd => rfl); (case hg => rfl); (case hr => first | (go_simp; done) | (go_simp; rfl) | (go_simp; simp only [isEmpty_ne, isEmpty_eq]; done) | (go_simp; simp only [isEmpty_ne, isEmpty_eq]; rfl)); intro gb204 hg w79 hbox hb; have n0_ := Aside0.mk (below_step (by repeat (first | (with_reducible first | exact HB.out | apply below_alloc | apply pw_below_drewN | apply below_drew1) | exact HB.out)) hb); have n1_ := Aside0.mk (hbox); have n2_ := Aside0.mk ((by rw [hg]; exact (below_size (by repeat (first | (with_reducible first | exact HB.out | apply below_alloc | apply pw_below_drewN | apply below_drew1) | exact HB.out))) : w.heap.size ≤ gb204)); have n3_ := Aside0.mk ((by rw [hg]; exact (below_size (by repeat (first | (with_reducible first | exact HB.out | apply below_alloc | apply pw_below_drewN | apply below_drew1) | exact HB.out))) : w.heap.size ≤ gb204)); clear HB; have HB := n0_; have BK204 := n1_; have GW204 := n2_; have GE204 := n3_; clear n0_ n1_ n2_ n3_; clear hb hbox hg) | (go_at_call 10; (with_reducible refine (postriderlaw16_shown.calls  false _ ?side1 A4.out).mono ?_); (case side1 => exact LaidR.below HLD.out (by repeat (first | (with_reducible first | exact HB.out | apply below_alloc | apply pw_below_drewN | apply below_drew1 | refine below_set ?_ GE204.out) | exact HB.out))); rintro e w80 ⟨rfl, hb⟩; have n0_ := Aside0.mk (blk_below (g := gb204) (o := .cells #[.int .i64 a1_0, .string a1_1, .string a1_2, .int .i64 a1_3, .int .i64 a1_4] 37 (0, 0)) (by (with_reducible repeat (first | refine blk_drewN ?_ _ | refine blk_drew ?_ | refine blk_alloc ?_ _)); exact BK204.out) hb); have n1_ := Aside0.mk (below_step (by repeat (first | (with_reducible first | exact HB.out | apply below_alloc | apply pw_below_drewN | apply below_drew1 | refine below_set ?_ GE204.out) | exact HB.out)) hb); clear BK204; clear HB; have BK204 := n0_; have HB := n1_; clear n0_ n1_; (try clear hb); (try clear hb2); (try clear hk); (try clear hi)) | (go_at_call 17; (with_reducible refine (postriderlaw16_Cut.calls k _ _ l0 t206 _ ?side1 ?side2 A5.out).mono ?_); (case side1 => repeat (first | exact (Kd.C_below HR0.out HB.out) | (with_reducible refine Kd.C_alloc ?_ _) | (with_reducible refine Kd.C_drewN ?_ _) | (with_reducible refine Kd.C_drew ?_))); (case side2 => exact HC0.out); rintro e w81 ⟨v207, rfl, ho0, hb⟩; have n0_ := Aside0.mk (Kd.R_lower ho0 (below_size (by repeat (first | (with_reducible first | exact HB.out | apply below_alloc | apply pw_below_drewN | apply below_drew1 | refine below_set ?_ GE204.out) | exact HB.out)))); have n1_ := Aside0.mk (blk_below (g := gb204) (o := .cells #[.int .i64 a1_0, .string a1_1, .string a1_2, .int .i64 a1_3, .int .i64 a1_4] 37 (0, 0)) (by (with_reducible repeat (first | refine blk_drewN ?_ _ | refine blk_drew ?_ | refine blk_alloc ?_ _)); exact BK204.out) hb); have n2_ := Aside0.mk (below_step (by repeat (first | (with_reducible first | exact HB.out | apply below_alloc | apply pw_below_drewN | apply below_drew1 | refine below_set ?_ GE204.out) | exact HB.out)) hb); clear BK204; clear HB; have HO208 := n0_; have BK204 := n1_; have HB := n2_; clear n0_ n1_ n2_; (try clear hb); (try clear hb2); (try clear hk); (try clear hi); (try clear ho0); have hcz82_0 : w81.cell? ⟨gb204, 0, none⟩ = some (.int .i64 a1_0) := (blk_cell BK204.out 0).trans rfl; have hcz82_1 : w81.cell? ⟨gb204, 1, none⟩ = some (.string a1_1) := (blk_cell BK204.out 1).trans rfl; have hcz82_2 : w81.cell? ⟨gb204, 2, none⟩ = some (.string a1_2) := (blk_cell BK204.out 2).trans rfl; have hcz82_3 : w81.cell? ⟨gb204, 3, none⟩ = some (.int .i64 a1_3) := (blk_cell BK204.out 3).trans rfl; have hcz82_4 : w81.cell? ⟨gb204, 4, none⟩ = some (.int .i64 a1_4) := (blk_cell BK204.out 4).trans rfl; have hfz82_0 := blk_frozen BK204.out 0; have hfz82_1 := blk_frozen BK204.out 1; have hfz82_2 := blk_frozen BK204.out 2; have hfz82_3 := blk_frozen BK204.out 3; have hfz82_4 := blk_frozen BK204.out 4) | (go_at_call 18; (with_reducible refine (postriderlaw06_Cut.calls a1_0 a1_1 a1_2 a1_3 a1_4 t209 t210 t211 t212 t213 _ A6.out).mono ?_); rintro e w83 ⟨rfl, hb⟩; have n0_ := Aside0.mk (Kd.R_below (by (with_reducible repeat (first | apply Kd.R_alloc | apply Kd.R_drewN | apply Kd.R_drew)); exact HO208.out) hb); have n1_ := Aside0.mk (blk_below (g := gb204) (o := .cells #[.int .i64 a1_0, .string a1_1, .string a1_2, .int .i64 a1_3, .int .i64 a1_4] 37 (0, 0)) (by (with_reducible repeat (first | refine blk_drewN ?_ _ | refine blk_drew ?_ | refine blk_alloc ?_ _)); exact BK204.out) hb); have n2_ := Aside0.mk (below_step (by repeat (first | (with_reducible first | exact HB.out | apply below_alloc | apply pw_below_drewN | apply below_drew1 | refine below_set ?_ GE204.out) | exact HB.out)) hb); clear HO208; clear BK204; clear HB; have HO208 := n0_; have BK204 := n1_; have HB := n2_; clear n0_ n1_ n2_; (try clear hb); (try clear hb2); (try clear hk); (try clear hi); have hcz84_0 : w83.cell? ⟨gb204, 0, none⟩ = some (.int .i64 a1_0) := (blk_cell BK204.out 0).trans rfl; have hcz84_1 : w83.cell? ⟨gb204, 1, none⟩ = some (.string a1_1) := (blk_cell BK204.out 1).trans rfl; have hcz84_2 : w83.cell? ⟨gb204, 2, none⟩ = some (.string a1_2) := (blk_cell BK204.out 2).trans rfl; have hcz84_3 : w83.cell? ⟨gb204, 3, none⟩ = some (.int .i64 a1_3) := (blk_cell BK204.out 3).trans rfl; have hcz84_4 : w83.cell? ⟨gb204, 4, none⟩ = some (.int .i64 a1_4) := (blk_cell BK204.out 4).trans rfl; have hfz84_0 := blk_frozen BK204.out 0; have hfz84_1 := blk_frozen BK204.out 1; have hfz84_2 := blk_frozen BK204.out 2; have hfz84_3 := blk_frozen BK204.out 3; have hfz84_4 := blk_frozen BK204.out 4; obtain ⟨Ao85, co85, eo85⟩ := Kd.R_slice HO208.out; subst eo85) | (go_at_call 20; (with_reducible refine (route_All.calls _ _ t206 t209 t210 t211 t212 t213 t214 t217 _ ?side1 ?side2 ?side3 A7.out).mono ?_); (case side1 => refine (Kd.R_reads' (e := 35) (base := w.heap.size) (ok := fun k_ => True) (n := t206.length) (c := co85) ?_).2.2; exact (by (with_reducible repeat (first | apply Kd.R_alloc | apply Kd.R_drewN | apply Kd.R_drew)); exact (Kd.R_mono (Kd.R_far (p := ⟨gb204, 4, none⟩) (Kd.R_far (p := ⟨gb204, 3, none⟩) (Kd.R_far (p := ⟨gb204, 2, none⟩) (Kd.R_far (p := ⟨gb204, 1, none⟩) (Kd.R_far (p := ⟨gb204, 0, none⟩) (Kd.R_types HO208.out BK204.out (by decide)) (fun _ hk => hk.2) (.int .i64 t209)) (fun _ hk => hk.2) (.string t210)) (fun _ hk => hk.2) (.string t211)) (fun _ hk => hk.2) (.int .i64 t212)) (fun _ hk => hk.2) (.int .i64 t213)) (fun _ h_ => h_.1)))); (case side2 => exact (Kd.R_reads' HO208.out).2.1); (case side3 => exact LaidR.below HLD.out (by repeat (first | (with_reducible first | exact HB.out | apply below_alloc | apply pw_below_drewN | apply below_drew1 | refine below_set ?_ GE204.out) | exact HB.out))); rintro e w86 ⟨v215, rfl, ho0, hb⟩; have n0_ := Aside0.mk (Kd.R_below (by (with_reducible repeat (first | apply Kd.R_alloc | apply Kd.R_drewN | apply Kd.R_drew)); exact (Kd.R_mono (Kd.R_far (p := ⟨gb204, 4, none⟩) (Kd.R_far (p := ⟨gb204, 3, none⟩) (Kd.R_far (p := ⟨gb204, 2, none⟩) (Kd.R_far (p := ⟨gb204, 1, none⟩) (Kd.R_far (p := ⟨gb204, 0, none⟩) (Kd.R_types HO208.out BK204.out (by decide)) (fun _ hk => hk.2) (.int .i64 t209)) (fun _ hk => hk.2) (.string t210)) (fun _ hk => hk.2) (.string t211)) (fun _ hk => hk.2) (.int .i64 t212)) (fun _ hk => hk.2) (.int .i64 t213)) (fun _ h_ => h_.1))) hb); have n1_ := Aside0.mk (Kd.R_lower ho0 (below_size (by repeat (first | (with_reducible first | exact HB.out | apply below_alloc | apply pw_below_drewN | apply below_drew1 | refine below_set ?_ GE204.out) | exact HB.out)))); have n2_ := Aside0.mk (blk_below (g := gb204) (o := .cells #[.int .i64 t209, .string t210, .string t211, .int .i64 t212, .int .i64 t213] 37 (0, 0)) (by (with_reducible repeat (first | refine blk_drewN ?_ _ | refine blk_drew ?_ | refine blk_alloc ?_ _)); refine blk_put (cs := #[.int .i64 t209, .string t210, .string t211, .int .i64 t212, .int .i64 a1_4]) ?_ 4 _ rfl; (with_reducible repeat (first | refine blk_drewN ?_ _ | refine blk_drew ?_ | refine blk_alloc ?_ _)); refine blk_put (cs := #[.int .i64 t209, .string t210, .string t211, .int .i64 a1_3, .int .i64 a1_4]) ?_ 3 _ rfl; (with_reducible repeat (first | refine blk_drewN ?_ _ | refine blk_drew ?_ | refine blk_alloc ?_ _)); refine blk_put (cs := #[.int .i64 t209, .string t210, .string a1_2, .int .i64 a1_3, .int .i64 a1_4]) ?_ 2 _ rfl; (with_reducible repeat (first | refine blk_drewN ?_ _ | refine blk_drew ?_ | refine blk_alloc ?_ _)); refine blk_put (cs := #[.int .i64 t209, .string a1_1, .string a1_2, .int .i64 a1_3, .int .i64 a1_4]) ?_ 1 _ rfl; (with_reducible repeat (first | refine blk_drewN ?_ _ | refine blk_drew ?_ | refine blk_alloc ?_ _)); refine blk_put (cs := #[.int .i64 a1_0, .string a1_1, .string a1_2, .int .i64 a1_3, .int .i64 a1_4]) ?_ 0 _ rfl; (with_reducible repeat (first | refine blk_drewN ?_ _ | refine blk_drew ?_ | refine blk_alloc ?_ _)); exact BK204.out) hb); have n3_ := Aside0.mk (below_step (by repeat (first | (with_reducible first | exact HB.out | apply below_alloc | apply pw_below_drewN | apply below_drew1 | refine below_set ?_ GE204.out) | exact HB.out)) hb); clear HO208; clear BK204; clear HB; have HO208 := n0_; have HO216 := n1_; have BK204 := n2_; have HB := n3_; clear n0_ n1_ n2_ n3_; (try clear hb); (try clear hb2); (try clear hk); (try clear hi); (try clear ho0); have hcz87_0 : w86.cell? ⟨gb204, 0, none⟩ = some (.int .i64 t209) := (blk_cell BK204.out 0).trans rfl; have hcz87_1 : w86.cell? ⟨gb204, 1, none⟩ = some (.string t210) := (blk_cell BK204.out 1).trans rfl; have hcz87_2 : w86.cell? ⟨gb204, 2, none⟩ = some (.string t211) := (blk_cell BK204.out 2).trans rfl; have hcz87_3 : w86.cell? ⟨gb204, 3, none⟩ = some (.int .i64 t212) := (blk_cell BK204.out 3).trans rfl; have hcz87_4 : w86.cell? ⟨gb204, 4, none⟩ = some (.int .i64 t213) := (blk_cell BK204.out 4).trans rfl; have hfz87_0 := blk_frozen BK204.out 0; have hfz87_1 := blk_frozen BK204.out 1; have hfz87_2 := blk_frozen BK204.out 2; have hfz87_3 := blk_frozen BK204.out 3; have hfz87_4 := blk_frozen BK204.out 4) | (go_at_call 21; (with_reducible refine (eid_PrintR.calls t209 t210 t211 t212 t213 t218 t219 _ ?side1 A8.out).mono ?_); (case side1 => exact LaidR.below HLD.out (by repeat (first | (with_reducible first | exact HB.out | apply below_alloc | apply pw_below_drewN | apply below_drew1 | refine below_set ?_ GE204.out) | exact HB.out))); rintro e w88 ⟨rfl, hb⟩; have n0_ := Aside0.mk (Kd.R_below (by (with_reducible repeat (first | apply Kd.R_alloc | apply Kd.R_drewN | apply Kd.R_drew)); exact HO208.out) hb); have n1_ := Aside0.mk (Kd.R_below (by (with_reducible repeat (first | apply Kd.R_alloc | apply Kd.R_drewN | apply Kd.R_drew)); exact HO216.out) hb); have n2_ := Aside0.mk (blk_below (g := gb204) (o := .cells #[.int .i64 t209, .string t210, .string t211, .int .i64 t212, .int .i64 t213] 37 (0, 0)) (by (with_reducible repeat (first | refine blk_drewN ?_ _ | refine blk_drew ?_ | refine blk_alloc ?_ _)); exact BK204.out) hb); have n3_ := Aside0.mk (below_step (by repeat (first | (with_reducible first | exact HB.out | apply below_alloc | apply pw_below_drewN | apply below_drew1 | refine below_set ?_ GE204.out) | exact HB.out)) hb); clear HO208; clear HO216; clear BK204; clear HB; have HO208 := n0_; have HO216 := n1_; have BK204 := n2_; have HB := n3_; clear n0_ n1_ n2_ n3_; (try clear hb); (try clear hb2); (try clear hk); (try clear hi)))
      repeat (go_quiet (first | ((with_reducible refine gate_dst (N := 4) rfl ?_); (try (refine gate_guard (by rfl) ?_; dsimp only)); refine box_event ?hg (N := 4) ?hd (cs := #[.int .i64 a1_0, .string a1_1, .string a1_2, .int .i64 a1_3, .int .i64 a1_4]) (t := 37) ?hr ?_; (case hd => rfl); (case hg => rfl); (case hr => first | (go_simp; done) | (go_simp; rfl) | (go_simp; simp only [isEmpty_ne, isEmpty_eq]; done) | (go_simp; simp only [isEmpty_ne, isEmpty_eq]; rfl)); intro gb204 hg w79 hbox hb; have n0_ := Aside0.mk (below_step (by repeat (first | (with_reducible first | exact HB.out | apply below_alloc | apply pw_below_drewN | apply below_drew1) | exact HB.out)) hb); have n1_ := Aside0.mk (hbox); have n2_ := Aside0.mk ((by rw [hg]; exact (below_size (by repeat (first | (with_reducible first | exact HB.out | apply below_alloc | apply pw_below_drewN | apply below_drew1) | exact HB.out))) : w.heap.size ≤ gb204)); have n3_ := Aside0.mk ((by rw [hg]; exact (below_size (by repeat (first | (with_reducible first | exact HB.out | apply below_alloc | apply pw_below_drewN | apply below_drew1) | exact HB.out))) : w.heap.size ≤ gb204)); clear HB; have HB := n0_; have BK204 := n1_; have GW204 := n2_; have GE204 := n3_; clear n0_ n1_ n2_ n3_; clear hb hbox hg) | (go_at_call 10; (with_reducible refine (postriderlaw16_shown.calls  false _ ?side1 A4.out).mono ?_); (case side1 => exact LaidR.below HLD.out (by repeat (first | (with_reducible first | exact HB.out | apply below_alloc | apply pw_below_drewN | apply below_drew1 | refine below_set ?_ GE204.out) | exact HB.out))); rintro e w80 ⟨rfl, hb⟩; have n0_ := Aside0.mk (blk_below (g := gb204) (o := .cells #[.int .i64 a1_0, .string a1_1, .string a1_2, .int .i64 a1_3, .int .i64 a1_4] 37 (0, 0)) (by (with_reducible repeat (first | refine blk_drewN ?_ _ | refine blk_drew ?_ | refine blk_alloc ?_ _)); exact BK204.out) hb); have n1_ := Aside0.mk (below_step (by repeat (first | (with_reducible first | exact HB.out | apply below_alloc | apply pw_below_drewN | apply below_drew1 | refine below_set ?_ GE204.out) | exact HB.out)) hb); clear BK204; clear HB; have BK204 := n0_; have HB := n1_; clear n0_ n1_; (try clear hb); (try clear hb2); (try clear hk); (try clear hi)) | (go_at_call 17; (with_reducible refine (postriderlaw16_Cut.calls k _ _ l0 t206 _ ?side1 ?side2 A5.out).mono ?_); (case side1 => repeat (first | exact (Kd.C_below HR0.out HB.out) | (with_reducible refine Kd.C_alloc ?_ _) | (with_reducible refine Kd.C_drewN ?_ _) | (with_reducible refine Kd.C_drew ?_))); (case side2 => exact HC0.out); rintro e w81 ⟨v207, rfl, ho0, hb⟩; have n0_ := Aside0.mk (Kd.R_lower ho0 (below_size (by repeat (first | (with_reducible first | exact HB.out | apply below_alloc | apply pw_below_drewN | apply below_drew1 | refine below_set ?_ GE204.out) | exact HB.out)))); have n1_ := Aside0.mk (blk_below (g := gb204) (o := .cells #[.int .i64 a1_0, .string a1_1, .string a1_2, .int .i64 a1_3, .int .i64 a1_4] 37 (0, 0)) (by (with_reducible repeat (first | refine blk_drewN ?_ _ | refine blk_drew ?_ | refine blk_alloc ?_ _)); exact BK204.out) hb); have n2_ := Aside0.mk (below_step (by repeat (first | (with_reducible first | exact HB.out | apply below_alloc | apply pw_below_drewN | apply below_drew1 | refine below_set ?_ GE204.out) | exact HB.out)) hb); clear BK204; clear HB; have HO208 := n0_; have BK204 := n1_; have HB := n2_; clear n0_ n1_ n2_; (try clear hb); (try clear hb2); (try clear hk); (try clear hi); (try clear ho0); have hcz82_0 : w81.cell? ⟨gb204, 0, none⟩ = some (.int .i64 a1_0) := (blk_cell BK204.out 0).trans rfl; have hcz82_1 : w81.cell? ⟨gb204, 1, none⟩ = some (.string a1_1) := (blk_cell BK204.out 1).trans rfl; have hcz82_2 : w81.cell? ⟨gb204, 2, none⟩ = some (.string a1_2) := (blk_cell BK204.out 2).trans rfl; have hcz82_3 : w81.cell? ⟨gb204, 3, none⟩ = some (.int .i64 a1_3) := (blk_cell BK204.out 3).trans rfl; have hcz82_4 : w81.cell? ⟨gb204, 4, none⟩ = some (.int .i64 a1_4) := (blk_cell BK204.out 4).trans rfl; have hfz82_0 := blk_frozen BK204.out 0; have hfz82_1 := blk_frozen BK204.out 1; have hfz82_2 := blk_frozen BK204.out 2; have hfz82_3 := blk_frozen BK204.out 3; have hfz82_4 := blk_frozen BK204.out 4) | (go_at_call 18; (with_reducible refine (postriderlaw06_Cut.calls a1_0 a1_1 a1_2 a1_3 a1_4 t209 t210 t211 t212 t213 _ A6.out).mono ?_); rintro e w83 ⟨rfl, hb⟩; have n0_ := Aside0.mk (Kd.R_below (by (with_reducible repeat (first | apply Kd.R_alloc | apply Kd.R_drewN | apply Kd.R_drew)); exact HO208.out) hb); have n1_ := Aside0.mk (blk_below (g := gb204) (o := .cells #[.int .i64 a1_0, .string a1_1, .string a1_2, .int .i64 a1_3, .int .i64 a1_4] 37 (0, 0)) (by (with_reducible repeat (first | refine blk_drewN ?_ _ | refine blk_drew ?_ | refine blk_alloc ?_ _)); exact BK204.out) hb); have n2_ := Aside0.mk (below_step (by repeat (first | (with_reducible first | exact HB.out | apply below_alloc | apply pw_below_drewN | apply below_drew1 | refine below_set ?_ GE204.out) | exact HB.out)) hb); clear HO208; clear BK204; clear HB; have HO208 := n0_; have BK204 := n1_; have HB := n2_; clear n0_ n1_ n2_; (try clear hb); (try clear hb2); (try clear hk); (try clear hi); have hcz84_0 : w83.cell? ⟨gb204, 0, none⟩ = some (.int .i64 a1_0) := (blk_cell BK204.out 0).trans rfl; have hcz84_1 : w83.cell? ⟨gb204, 1, none⟩ = some (.string a1_1) := (blk_cell BK204.out 1).trans rfl; have hcz84_2 : w83.cell? ⟨gb204, 2, none⟩ = some (.string a1_2) := (blk_cell BK204.out 2).trans rfl; have hcz84_3 : w83.cell? ⟨gb204, 3, none⟩ = some (.int .i64 a1_3) := (blk_cell BK204.out 3).trans rfl; have hcz84_4 : w83.cell? ⟨gb204, 4, none⟩ = some (.int .i64 a1_4) := (blk_cell BK204.out 4).trans rfl; have hfz84_0 := blk_frozen BK204.out 0; have hfz84_1 := blk_frozen BK204.out 1; have hfz84_2 := blk_frozen BK204.out 2; have hfz84_3 := blk_frozen BK204.out 3; have hfz84_4 := blk_frozen BK204.out 4; obtain ⟨Ao85, co85, eo85⟩ := Kd.R_slice HO208.out; subst eo85) | (go_at_call 20; (with_reducible refine (route_All.calls _ _ t206 t209 t210 t211 t212 t213 t214 t217 _ ?side1 ?side2 ?side3 A7.out).mono ?_); (case side1 => refine (Kd.R_reads' (e := 35) (base := w.heap.size) (ok := fun k_ => True) (n := t206.length) (c := co85) ?_).2.2; exact (by (with_reducible repeat (first | apply Kd.R_alloc | apply Kd.R_drewN | apply Kd.R_drew)); exact (Kd.R_mono (Kd.R_far (p := ⟨gb204, 4, none⟩) (Kd.R_far (p := ⟨gb204, 3, none⟩) (Kd.R_far (p := ⟨gb204, 2, none⟩) (Kd.R_far (p := ⟨gb204, 1, none⟩) (Kd.R_far (p := ⟨gb204, 0, none⟩) (Kd.R_types HO208.out BK204.out (by decide)) (fun _ hk => hk.2) (.int .i64 t209)) (fun _ hk => hk.2) (.string t210)) (fun _ hk => hk.2) (.string t211)) (fun _ hk => hk.2) (.int .i64 t212)) (fun _ hk => hk.2) (.int .i64 t213)) (fun _ h_ => h_.1)))); (case side2 => exact (Kd.R_reads' HO208.out).2.1); (case side3 => exact LaidR.below HLD.out (by repeat (first | (with_reducible first | exact HB.out | apply below_alloc | apply pw_below_drewN | apply below_drew1 | refine below_set ?_ GE204.out) | exact HB.out))); rintro e w86 ⟨v215, rfl, ho0, hb⟩; have n0_ := Aside0.mk (Kd.R_below (by (with_reducible repeat (first | apply Kd.R_alloc | apply Kd.R_drewN | apply Kd.R_drew)); exact (Kd.R_mono (Kd.R_far (p := ⟨gb204, 4, none⟩) (Kd.R_far (p := ⟨gb204, 3, none⟩) (Kd.R_far (p := ⟨gb204, 2, none⟩) (Kd.R_far (p := ⟨gb204, 1, none⟩) (Kd.R_far (p := ⟨gb204, 0, none⟩) (Kd.R_types HO208.out BK204.out (by decide)) (fun _ hk => hk.2) (.int .i64 t209)) (fun _ hk => hk.2) (.string t210)) (fun _ hk => hk.2) (.string t211)) (fun _ hk => hk.2) (.int .i64 t212)) (fun _ hk => hk.2) (.int .i64 t213)) (fun _ h_ => h_.1))) hb); have n1_ := Aside0.mk (Kd.R_lower ho0 (below_size (by repeat (first | (with_reducible first | exact HB.out | apply below_alloc | apply pw_below_drewN | apply below_drew1 | refine below_set ?_ GE204.out) | exact HB.out)))); have n2_ := Aside0.mk (blk_below (g := gb204) (o := .cells #[.int .i64 t209, .string t210, .string t211, .int .i64 t212, .int .i64 t213] 37 (0, 0)) (by (with_reducible repeat (first | refine blk_drewN ?_ _ | refine blk_drew ?_ | refine blk_alloc ?_ _)); refine blk_put (cs := #[.int .i64 t209, .string t210, .string t211, .int .i64 t212, .int .i64 a1_4]) ?_ 4 _ rfl; (with_reducible repeat (first | refine blk_drewN ?_ _ | refine blk_drew ?_ | refine blk_alloc ?_ _)); refine blk_put (cs := #[.int .i64 t209, .string t210, .string t211, .int .i64 a1_3, .int .i64 a1_4]) ?_ 3 _ rfl; (with_reducible repeat (first | refine blk_drewN ?_ _ | refine blk_drew ?_ | refine blk_alloc ?_ _)); refine blk_put (cs := #[.int .i64 t209, .string t210, .string a1_2, .int .i64 a1_3, .int .i64 a1_4]) ?_ 2 _ rfl; (with_reducible repeat (first | refine blk_drewN ?_ _ | refine blk_drew ?_ | refine blk_alloc ?_ _)); refine blk_put (cs := #[.int .i64 t209, .string a1_1, .string a1_2, .int .i64 a1_3, .int .i64 a1_4]) ?_ 1 _ rfl; (with_reducible repeat (first | refine blk_drewN ?_ _ | refine blk_drew ?_ | refine blk_alloc ?_ _)); refine blk_put (cs := #[.int .i64 a1_0, .string a1_1, .string a1_2, .int .i64 a1_3, .int .i64 a1_4]) ?_ 0 _ rfl; (with_reducible repeat (first | refine blk_drewN ?_ _ | refine blk_drew ?_ | refine blk_alloc ?_ _)); exact BK204.out) hb); have n3_ := Aside0.mk (below_step (by repeat (first | (with_reducible first | exact HB.out | apply below_alloc | apply pw_below_drewN | apply below_drew1 | refine below_set ?_ GE204.out) | exact HB.out)) hb); clear HO208; clear BK204; clear HB; have HO208 := n0_; have HO216 := n1_; have BK204 := n2_; have HB := n3_; clear n0_ n1_ n2_ n3_; (try clear hb); (try clear hb2); (try clear hk); (try clear hi); (try clear ho0); have hcz87_0 : w86.cell? ⟨gb204, 0, none⟩ = some (.int .i64 t209) := (blk_cell BK204.out 0).trans rfl; have hcz87_1 : w86.cell? ⟨gb204, 1, none⟩ = some (.string t210) := (blk_cell BK204.out 1).trans rfl; have hcz87_2 : w86.cell? ⟨gb204, 2, none⟩ = some (.string t211) := (blk_cell BK204.out 2).trans rfl; have hcz87_3 : w86.cell? ⟨gb204, 3, none⟩ = some (.int .i64 t212) := (blk_cell BK204.out 3).trans rfl; have hcz87_4 : w86.cell? ⟨gb204, 4, none⟩ = some (.int .i64 t213) := (blk_cell BK204.out 4).trans rfl; have hfz87_0 := blk_frozen BK204.out 0; have hfz87_1 := blk_frozen BK204.out 1; have hfz87_2 := blk_frozen BK204.out 2; have hfz87_3 := blk_frozen BK204.out 3; have hfz87_4 := blk_frozen BK204.out 4) | (go_at_call 21; (with_reducible refine (eid_PrintR.calls t209 t210 t211 t212 t213 t218 t219 _ ?side1 A8.out).mono ?_); (case side1 => exact LaidR.below HLD.out (by repeat (first | (with_reducible first | exact HB.out | apply below_alloc | apply pw_below_drewN | apply below_drew1 | refine below_set ?_ GE204.out) | exact HB.out))); rintro e w88 ⟨rfl, hb⟩; have n0_ := Aside0.mk (Kd.R_below (by (with_reducible repeat (first | apply Kd.R_alloc | apply Kd.R_drewN | apply Kd.R_drew)); exact HO208.out) hb); have n1_ := Aside0.mk (Kd.R_below (by (with_reducible repeat (first | apply Kd.R_alloc | apply Kd.R_drewN | apply Kd.R_drew)); exact HO216.out) hb); have n2_ := Aside0.mk (blk_below (g := gb204) (o := .cells #[.int .i64 t209, .string t210, .string t211, .int .i64 t212, .int .i64 t213] 37 (0, 0)) (by (with_reducible repeat (first | refine blk_drewN ?_ _ | refine blk_drew ?_ | refine blk_alloc ?_ _)); exact BK204.out) hb); have n3_ := Aside0.mk (below_step (by repeat (first | (with_reducible first | exact HB.out | apply below_alloc | apply pw_below_drewN | apply below_drew1 | refine below_set ?_ GE204.out) | exact HB.out)) hb); clear HO208; clear HO216; clear BK204; clear HB; have HO208 := n0_; have HO216 := n1_; have BK204 := n2_; have HB := n3_; clear n0_ n1_ n2_ n3_; (try clear hb); (try clear hb2); (try clear hk); (try clear hi))); try go_wp2_with (first | ((with_reducible refine gate_dst (N := 4) rfl ?_); (try (refine gate_guard (by rfl) ?_; dsimp only)); refine box_event ?hg (N := 4) ?hd (cs := #[.int .i64 a1_0, .string a1_1, .string a1_2, .int .i64 a1_3, .int .i64 a1_4]) (t := 37) ?hr ?_; (case hd => rfl); (case hg => rfl); (case hr => first | (go_simp; done) | (go_simp; rfl) | (go_simp; simp only [isEmpty_ne, isEmpty_eq]; done) | (go_simp; simp only [isEmpty_ne, isEmpty_eq]; rfl)); intro gb204 hg w79 hbox hb; have n0_ := Aside0.mk (below_step (by repeat (first | (with_reducible first | exact HB.out | apply below_alloc | apply pw_below_drewN | apply below_drew1) | exact HB.out)) hb); have n1_ := Aside0.mk (hbox); have n2_ := Aside0.mk ((by rw [hg]; exact (below_size (by repeat (first | (with_reducible first | exact HB.out | apply below_alloc | apply pw_below_drewN | apply below_drew1) | exact HB.out))) : w.heap.size ≤ gb204)); have n3_ := Aside0.mk ((by rw [hg]; exact (below_size (by repeat (first | (with_reducible first | exact HB.out | apply below_alloc | apply pw_below_drewN | apply below_drew1) | exact HB.out))) : w.heap.size ≤ gb204)); clear HB; have HB := n0_; have BK204 := n1_; have GW204 := n2_; have GE204 := n3_; clear n0_ n1_ n2_ n3_; clear hb hbox hg) | (go_at_call 10; (with_reducible refine (postriderlaw16_shown.calls  false _ ?side1 A4.out).mono ?_); (case side1 => exact LaidR.below HLD.out (by repeat (first | (with_reducible first | exact HB.out | apply below_alloc | apply pw_below_drewN | apply below_drew1 | refine below_set ?_ GE204.out) | exact HB.out))); rintro e w80 ⟨rfl, hb⟩; have n0_ := Aside0.mk (blk_below (g := gb204) (o := .cells #[.int .i64 a1_0, .string a1_1, .string a1_2, .int .i64 a1_3, .int .i64 a1_4] 37 (0, 0)) (by (with_reducible repeat (first | refine blk_drewN ?_ _ | refine blk_drew ?_ | refine blk_alloc ?_ _)); exact BK204.out) hb); have n1_ := Aside0.mk (below_step (by repeat (first | (with_reducible first | exact HB.out | apply below_alloc | apply pw_below_drewN | apply below_drew1 | refine below_set ?_ GE204.out) | exact HB.out)) hb); clear BK204; clear HB; have BK204 := n0_; have HB := n1_; clear n0_ n1_; (try clear hb); (try clear hb2); (try clear hk); (try clear hi)) | (go_at_call 17; (with_reducible refine (postriderlaw16_Cut.calls k _ _ l0 t206 _ ?side1 ?side2 A5.out).mono ?_); (case side1 => repeat (first | exact (Kd.C_below HR0.out HB.out) | (with_reducible refine Kd.C_alloc ?_ _) | (with_reducible refine Kd.C_drewN ?_ _) | (with_reducible refine Kd.C_drew ?_))); (case side2 => exact HC0.out); rintro e w81 ⟨v207, rfl, ho0, hb⟩; have n0_ := Aside0.mk (Kd.R_lower ho0 (below_size (by repeat (first | (with_reducible first | exact HB.out | apply below_alloc | apply pw_below_drewN | apply below_drew1 | refine below_set ?_ GE204.out) | exact HB.out)))); have n1_ := Aside0.mk (blk_below (g := gb204) (o := .cells #[.int .i64 a1_0, .string a1_1, .string a1_2, .int .i64 a1_3, .int .i64 a1_4] 37 (0, 0)) (by (with_reducible repeat (first | refine blk_drewN ?_ _ | refine blk_drew ?_ | refine blk_alloc ?_ _)); exact BK204.out) hb); have n2_ := Aside0.mk (below_step (by repeat (first | (with_reducible first | exact HB.out | apply below_alloc | apply pw_below_drewN | apply below_drew1 | refine below_set ?_ GE204.out) | exact HB.out)) hb); clear BK204; clear HB; have HO208 := n0_; have BK204 := n1_; have HB := n2_; clear n0_ n1_ n2_; (try clear hb); (try clear hb2); (try clear hk); (try clear hi); (try clear ho0); have hcz82_0 : w81.cell? ⟨gb204, 0, none⟩ = some (.int .i64 a1_0) := (blk_cell BK204.out 0).trans rfl; have hcz82_1 : w81.cell? ⟨gb204, 1, none⟩ = some (.string a1_1) := (blk_cell BK204.out 1).trans rfl; have hcz82_2 : w81.cell? ⟨gb204, 2, none⟩ = some (.string a1_2) := (blk_cell BK204.out 2).trans rfl; have hcz82_3 : w81.cell? ⟨gb204, 3, none⟩ = some (.int .i64 a1_3) := (blk_cell BK204.out 3).trans rfl; have hcz82_4 : w81.cell? ⟨gb204, 4, none⟩ = some (.int .i64 a1_4) := (blk_cell BK204.out 4).trans rfl; have hfz82_0 := blk_frozen BK204.out 0; have hfz82_1 := blk_frozen BK204.out 1; have hfz82_2 := blk_frozen BK204.out 2; have hfz82_3 := blk_frozen BK204.out 3; have hfz82_4 := blk_frozen BK204.out 4) | (go_at_call 18; (with_reducible refine (postriderlaw06_Cut.calls a1_0 a1_1 a1_2 a1_3 a1_4 t209 t210 t211 t212 t213 _ A6.out).mono ?_); rintro e w83 ⟨rfl, hb⟩; have n0_ := Aside0.mk (Kd.R_below (by (with_reducible repeat (first | apply Kd.R_alloc | apply Kd.R_drewN | apply Kd.R_drew)); exact HO208.out) hb); have n1_ := Aside0.mk (blk_below (g := gb204) (o := .cells #[.int .i64 a1_0, .string a1_1, .string a1_2, .int .i64 a1_3, .int .i64 a1_4] 37 (0, 0)) (by (with_reducible repeat (first | refine blk_drewN ?_ _ | refine blk_drew ?_ | refine blk_alloc ?_ _)); exact BK204.out) hb); have n2_ := Aside0.mk (below_step (by repeat (first | (with_reducible first | exact HB.out | apply below_alloc | apply pw_below_drewN | apply below_drew1 | refine below_set ?_ GE204.out) | exact HB.out)) hb); clear HO208; clear BK204; clear HB; have HO208 := n0_; have BK204 := n1_; have HB := n2_; clear n0_ n1_ n2_; (try clear hb); (try clear hb2); (try clear hk); (try clear hi); have hcz84_0 : w83.cell? ⟨gb204, 0, none⟩ = some (.int .i64 a1_0) := (blk_cell BK204.out 0).trans rfl; have hcz84_1 : w83.cell? ⟨gb204, 1, none⟩ = some (.string a1_1) := (blk_cell BK204.out 1).trans rfl; have hcz84_2 : w83.cell? ⟨gb204, 2, none⟩ = some (.string a1_2) := (blk_cell BK204.out 2).trans rfl; have hcz84_3 : w83.cell? ⟨gb204, 3, none⟩ = some (.int .i64 a1_3) := (blk_cell BK204.out 3).trans rfl; have hcz84_4 : w83.cell? ⟨gb204, 4, none⟩ = some (.int .i64 a1_4) := (blk_cell BK204.out 4).trans rfl; have hfz84_0 := blk_frozen BK204.out 0; have hfz84_1 := blk_frozen BK204.out 1; have hfz84_2 := blk_frozen BK204.out 2; have hfz84_3 := blk_frozen BK204.out 3; have hfz84_4 := blk_frozen BK204.out 4; obtain ⟨Ao85, co85, eo85⟩ := Kd.R_slice HO208.out; subst eo85) | (go_at_call 20; (with_reducible refine (route_All.calls _ _ t206 t209 t210 t211 t212 t213 t214 t217 _ ?side1 ?side2 ?side3 A7.out).mono ?_); (case side1 => refine (Kd.R_reads' (e := 35) (base := w.heap.size) (ok := fun k_ => True) (n := t206.length) (c := co85) ?_).2.2; exact (by (with_reducible repeat (first | apply Kd.R_alloc | apply Kd.R_drewN | apply Kd.R_drew)); exact (Kd.R_mono (Kd.R_far (p := ⟨gb204, 4, none⟩) (Kd.R_far (p := ⟨gb204, 3, none⟩) (Kd.R_far (p := ⟨gb204, 2, none⟩) (Kd.R_far (p := ⟨gb204, 1, none⟩) (Kd.R_far (p := ⟨gb204, 0, none⟩) (Kd.R_types HO208.out BK204.out (by decide)) (fun _ hk => hk.2) (.int .i64 t209)) (fun _ hk => hk.2) (.string t210)) (fun _ hk => hk.2) (.string t211)) (fun _ hk => hk.2) (.int .i64 t212)) (fun _ hk => hk.2) (.int .i64 t213)) (fun _ h_ => h_.1)))); (case side2 => exact (Kd.R_reads' HO208.out).2.1); (case side3 => exact LaidR.below HLD.out (by repeat (first | (with_reducible first | exact HB.out | apply below_alloc | apply pw_below_drewN | apply below_drew1 | refine below_set ?_ GE204.out) | exact HB.out))); rintro e w86 ⟨v215, rfl, ho0, hb⟩; have n0_ := Aside0.mk (Kd.R_below (by (with_reducible repeat (first | apply Kd.R_alloc | apply Kd.R_drewN | apply Kd.R_drew)); exact (Kd.R_mono (Kd.R_far (p := ⟨gb204, 4, none⟩) (Kd.R_far (p := ⟨gb204, 3, none⟩) (Kd.R_far (p := ⟨gb204, 2, none⟩) (Kd.R_far (p := ⟨gb204, 1, none⟩) (Kd.R_far (p := ⟨gb204, 0, none⟩) (Kd.R_types HO208.out BK204.out (by decide)) (fun _ hk => hk.2) (.int .i64 t209)) (fun _ hk => hk.2) (.string t210)) (fun _ hk => hk.2) (.string t211)) (fun _ hk => hk.2) (.int .i64 t212)) (fun _ hk => hk.2) (.int .i64 t213)) (fun _ h_ => h_.1))) hb); have n1_ := Aside0.mk (Kd.R_lower ho0 (below_size (by repeat (first | (with_reducible first | exact HB.out | apply below_alloc | apply pw_below_drewN | apply below_drew1 | refine below_set ?_ GE204.out) | exact HB.out)))); have n2_ := Aside0.mk (blk_below (g := gb204) (o := .cells #[.int .i64 t209, .string t210, .string t211, .int .i64 t212, .int .i64 t213] 37 (0, 0)) (by (with_reducible repeat (first | refine blk_drewN ?_ _ | refine blk_drew ?_ | refine blk_alloc ?_ _)); refine blk_put (cs := #[.int .i64 t209, .string t210, .string t211, .int .i64 t212, .int .i64 a1_4]) ?_ 4 _ rfl; (with_reducible repeat (first | refine blk_drewN ?_ _ | refine blk_drew ?_ | refine blk_alloc ?_ _)); refine blk_put (cs := #[.int .i64 t209, .string t210, .string t211, .int .i64 a1_3, .int .i64 a1_4]) ?_ 3 _ rfl; (with_reducible repeat (first | refine blk_drewN ?_ _ | refine blk_drew ?_ | refine blk_alloc ?_ _)); refine blk_put (cs := #[.int .i64 t209, .string t210, .string a1_2, .int .i64 a1_3, .int .i64 a1_4]) ?_ 2 _ rfl; (with_reducible repeat (first | refine blk_drewN ?_ _ | refine blk_drew ?_ | refine blk_alloc ?_ _)); refine blk_put (cs := #[.int .i64 t209, .string a1_1, .string a1_2, .int .i64 a1_3, .int .i64 a1_4]) ?_ 1 _ rfl; (with_reducible repeat (first | refine blk_drewN ?_ _ | refine blk_drew ?_ | refine blk_alloc ?_ _)); refine blk_put (cs := #[.int .i64 a1_0, .string a1_1, .string a1_2, .int .i64 a1_3, .int .i64 a1_4]) ?_ 0 _ rfl; (with_reducible repeat (first | refine blk_drewN ?_ _ | refine blk_drew ?_ | refine blk_alloc ?_ _)); exact BK204.out) hb); have n3_ := Aside0.mk (below_step (by repeat (first | (with_reducible first | exact HB.out | apply below_alloc | apply pw_below_drewN | apply below_drew1 | refine below_set ?_ GE204.out) | exact HB.out)) hb); clear HO208; clear BK204; clear HB; have HO208 := n0_; have HO216 := n1_; have BK204 := n2_; have HB := n3_; clear n0_ n1_ n2_ n3_; (try clear hb); (try clear hb2); (try clear hk); (try clear hi); (try clear ho0); have hcz87_0 : w86.cell? ⟨gb204, 0, none⟩ = some (.int .i64 t209) := (blk_cell BK204.out 0).trans rfl; have hcz87_1 : w86.cell? ⟨gb204, 1, none⟩ = some (.string t210) := (blk_cell BK204.out 1).trans rfl; have hcz87_2 : w86.cell? ⟨gb204, 2, none⟩ = some (.string t211) := (blk_cell BK204.out 2).trans rfl; have hcz87_3 : w86.cell? ⟨gb204, 3, none⟩ = some (.int .i64 t212) := (blk_cell BK204.out 3).trans rfl; have hcz87_4 : w86.cell? ⟨gb204, 4, none⟩ = some (.int .i64 t213) := (blk_cell BK204.out 4).trans rfl; have hfz87_0 := blk_frozen BK204.out 0; have hfz87_1 := blk_frozen BK204.out 1; have hfz87_2 := blk_frozen BK204.out 2; have hfz87_3 := blk_frozen BK204.out 3; have hfz87_4 := blk_frozen BK204.out 4) | (go_at_call 21; (with_reducible refine (eid_PrintR.calls t209 t210 t211 t212 t213 t218 t219 _ ?side1 A8.out).mono ?_); (case side1 => exact LaidR.below HLD.out (by repeat (first | (with_reducible first | exact HB.out | apply below_alloc | apply pw_below_drewN | apply below_drew1 | refine below_set ?_ GE204.out) | exact HB.out))); rintro e w88 ⟨rfl, hb⟩; have n0_ := Aside0.mk (Kd.R_below (by (with_reducible repeat (first | apply Kd.R_alloc | apply Kd.R_drewN | apply Kd.R_drew)); exact HO208.out) hb); have n1_ := Aside0.mk (Kd.R_below (by (with_reducible repeat (first | apply Kd.R_alloc | apply Kd.R_drewN | apply Kd.R_drew)); exact HO216.out) hb); have n2_ := Aside0.mk (blk_below (g := gb204) (o := .cells #[.int .i64 t209, .string t210, .string t211, .int .i64 t212, .int .i64 t213] 37 (0, 0)) (by (with_reducible repeat (first | refine blk_drewN ?_ _ | refine blk_drew ?_ | refine blk_alloc ?_ _)); exact BK204.out) hb); have n3_ := Aside0.mk (below_step (by repeat (first | (with_reducible first | exact HB.out | apply below_alloc | apply pw_below_drewN | apply below_drew1 | refine below_set ?_ GE204.out) | exact HB.out)) hb); clear HO208; clear HO216; clear BK204; clear HB; have HO208 := n0_; have HO216 := n1_; have BK204 := n2_; have HB := n3_; clear n0_ n1_ n2_ n3_; (try clear hb); (try clear hb2); (try clear hk); (try clear hi))))
      all_goals (first | (go_ret; exact ⟨by first | rfl | (simp [errW_none, errW_some] <;> rfl) | (simp [*, errW_none, errW_some] <;> rfl) | (simp_all; done) | fail, by repeat (first | (with_reducible first | exact HB.out | apply below_alloc | apply pw_below_drewN | apply below_drew1 | refine below_set ?_ GE204.out) | exact HB.out)⟩) | (exfalso; simp_all; done) | (exfalso; simp only [isEmpty_eq, isEmpty_ne] at *; simp_all; done) | (exfalso; exact isEmpty_clash (by assumption) (by assumption)) | (exfalso; exact isEmpty_clash' (by assumption) (by assumption)) | (exfalso; exact isEmpty_clash2 (by assumption) (by assumption)) | (exfalso; simp only [decide_eq_true_eq, decide_eq_false_iff_not] at *; omega))
end Go.Proofs.YtaknknfcikdjiaaGreatDoor.RF
end
section
namespace Go.Proofs.YtaknknfcikdjiaaGreatDoor.Hand
open Go.RowKit Go.Proofs.YtaknknfcikdjiaaGreatDoorW Go.Proofs.YtaknknfcikdjiaaGreatDoorW.PrintWords Go.Proofs.YtaknknfcikdjiaaGreatDoor.SA Go.Proofs.YtaknknfcikdjiaaGreatDoor.RK Go.Proofs.YtaknknfcikdjiaaGreatDoor.RF
theorem rd_at {xs : List Int} {i : Nat} (h : i < xs.length) : rd xs (i : Int) = xs[i] := by
  unfold rd
  rw [Int.toNat_natCast, List.getD_eq_getElem?_getD, List.getElem?_eq_getElem h]
  rfl
theorem in_more (xs : List Int) (i : Nat) (h : i < xs.length) (x : Int) : decide (x ∈ xs.take (i + 1)) = (decide (x ∈ xs.take i) || (xs[i] == x)) := by
  rw [List.take_succ_eq_append_getElem h, Bool.eq_iff_iff]
  simp only [decide_eq_true_eq, List.mem_append, List.mem_singleton, Bool.or_eq_true, beq_iff_eq]
  exact or_congr Iff.rfl eq_comm
theorem sorted_from (l : List Rt) (at_ : Int) (s : ByteArray) (hl : l.length ≤ 22) (hr : rightRt l = true) :
    ∀ (d k i : Nat), (allP s.data.toList (pfx l)).length - i = d → i ≤ (allP s.data.toList (pfx l)).length → 3 * d + 2 < k → postriderlaw16_RouteSorted.l0 k l at_ true (allP s.data.toList (pfx l)) s 0 (decide (at_ ∈ (allP s.data.toList (pfx l)).take i)) (i : Int) = some true := by
  have hpl := allP_len s.data.toList (pfx l)
  rw [List.length_map] at hpl
  have hso := allP_sorted s.data.toList (pfx l) 61 (right_sizes2 hr)
  have hm : ∀ a, a ∈ allP s.data.toList (pfx l) ↔ 0 ≤ a ∧ a < (l.length : Int) ∧ (rd_T35 l a).f0.data.toList.isPrefixOf s.data.toList = true := fun a => place_is
  generalize allP s.data.toList (pfx l) = all at *
  intro d
  induction d with
  | zero =>
    intro k i hd hi hk
    obtain ⟨k, rfl⟩ : ∃ m, k = m + 1 := ⟨k - 1, by omega⟩
    rw [List.take_of_length_le (by omega)]
    simp only [postriderlaw16_RouteSorted.l0]
    rw [if_neg (by omega)]
    by_cases c1 : at_ < 0
    · rw [if_pos c1, if_pos trivial, if_pos trivial, decide_eq_false (fun h => by have := ((hm _).1 h).1; omega)]
      rfl
    rw [if_neg c1]
    by_cases c2 : at_ ≥ (l.length : Int)
    · rw [if_pos c2, if_pos trivial, if_pos trivial, decide_eq_false (fun h => by have := ((hm _).1 h).2.1; omega)]
      rfl
    rw [if_neg c2, if_pos (by omega), if_pos (by omega), if_pos trivial, if_pos trivial]
    have hd2 : decide (at_ ∈ all) = (rd_T35 l at_).f0.data.toList.isPrefixOf s.data.toList := by
      rw [Bool.eq_iff_iff, decide_eq_true_eq, hm]
      exact ⟨fun h => h.2.2, fun h => ⟨by omega, by omega, h⟩⟩
    rw [hd2]
    by_cases c3 : (((rd_T35 l at_).f0).size : Int) ≤ (s.size : Int)
    · obtain ⟨q1, q2⟩ := mn_ok _ _ c3
      rw [if_pos c3, if_pos q1, if_pos q2, begins_is s _ c3]
      simp
    · rw [if_neg c3, begins_not s _ c3]
      rfl
  | succ d ih =>
    intro k i hd hi hk
    obtain ⟨k, rfl⟩ : ∃ m, k = m + 3 := ⟨k - 3, by omega⟩
    have hlt : i < all.length := by omega
    have hia := (hm all[i]).1 (List.getElem_mem _)
    have h' := ih k (i + 1) (by omega) (by omega) (by omega)
    rw [in_more all i hlt at_] at h'
    have step : postriderlaw16_RouteSorted.j2 (k + 1) l at_ true all s 0 (decide (at_ ∈ all.take i) || (all[i] == at_)) (i : Int) = some true := by
      simp only [postriderlaw16_RouteSorted.j2]
      rw [wrap_up i (by omega)]
      by_cases c : (i : Int) > 0
      · obtain ⟨j, rfl⟩ : ∃ j, i = j + 1 := ⟨i - 1, by omega⟩
        have hw : wrap64 (((j + 1 : Nat) : Int) - 1) = (j : Int) := by unfold wrap64; omega
        have hj : j < all.length := by omega
        have hja := (hm all[j]).1 (List.getElem_mem _)
        rw [if_pos c, hw, if_pos (by omega), if_pos (by omega), rd_at hj, if_pos hja.1, if_pos hja.2.1, if_pos (by omega), if_pos (by omega), rd_at hlt, if_pos hia.1, if_pos hia.2.1]
        have hp := (List.pairwise_iff_getElem.1 hso) j (j + 1) hj hlt (by omega)
        rw [len_is hja.1 hja.2.1, len_is hia.1 hia.2.1] at hp
        rcases hp with hp | ⟨hp1, hp2⟩
        · rw [if_neg (by omega), if_neg (by omega)]
          exact h'
        · rw [if_neg (by omega), if_pos hp1, if_neg (by omega)]
          exact h'
      · rw [if_neg c]
        exact h'
    simp only [postriderlaw16_RouteSorted.l0]
    rw [if_pos (by omega), if_pos (by omega), rd_at hlt, if_neg (by have := hia.1; omega), decide_eq_false (show ¬ (all[i] ≥ (l.length : Int)) by have := hia.2.1; omega)]
    simp only [postriderlaw16_RouteSorted.j1]
    rw [if_neg (by simp)]
    cases hb : decide (at_ ∈ all.take i) with
    | true =>
      rw [hb, Bool.true_or] at step
      rw [if_pos rfl]
      exact step
    | false =>
      rw [hb, Bool.false_or] at step
      rw [if_neg (by simp), if_pos (by omega), if_pos (by omega), rd_at hlt]
      exact step
theorem routeSorted_true (l0 : List Rt) (n : Int) (a1 a2 : ByteArray) (a3 a4 : Int) (at_ : Int) : postriderlaw16_RouteSorted.f 200 l0 n a1 a2 a3 a4 at_ = some true := by
  obtain ⟨b1, b2, hc, h1, h2⟩ := Cut_is n a1 a2 a3 a4
  have hl := cutR_len l0
  unfold postriderlaw16_RouteSorted.f
  rw [shown_true, CutR_is l0 200 (by decide), hc]
  simp only [Option.bind_some]
  rw [All_is _ n b1 b2 a3 a4 h1 h2, PrintR_is n b1 b2 a3 a4 h1 h2]
  simp only [Option.bind_some]
  generalize cutR l0 = l at *
  rcases all_cases l n b1 b2 a3 a4 with ⟨h, _⟩ | ⟨h, _⟩ | ⟨s, hr, hn, hp, h⟩
  · rw [h]; rfl
  · rw [h]; rfl
  · rw [h, hp]
    simp only [if_true]
    have hpl := allP_len s.data.toList (pfx l)
    rw [List.length_map] at hpl
    have := sorted_from l at_ s hl hr _ 200 0 rfl (Nat.zero_le _) (by omega)
    simpa using this
end Go.Proofs.YtaknknfcikdjiaaGreatDoor.Hand
end

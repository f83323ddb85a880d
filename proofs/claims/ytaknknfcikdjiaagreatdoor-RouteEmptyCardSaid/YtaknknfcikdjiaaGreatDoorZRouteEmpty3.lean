import Derived.Test.YtaknknfcikdjiaaGreatDoorZRouteEmpty2
section
namespace Go.Proofs.YtaknknfcikdjiaaGreatDoor.Hand
open Go.RowKit Go.Proofs.YtaknknfcikdjiaaGreatDoorW Go.Proofs.YtaknknfcikdjiaaGreatDoorW.PrintWords Go.Proofs.YtaknknfcikdjiaaGreatDoor.SA Go.Proofs.YtaknknfcikdjiaaGreatDoor.RK Go.Proofs.YtaknknfcikdjiaaGreatDoor.RF
theorem shown_true : postriderlaw16_shown.f = some true := by decide +kernel
theorem wrap_up (i : Nat) (h : i ≤ 1000000) : wrap64 ((i : Int) + 1) = ((i + 1 : Nat) : Int) := by unfold wrap64; omega
def cutRt (x : Rt) : Rt := ⟨x.f0.extract 0 (mn x.f0.size 61).toNat, x.f1⟩
def cutR (l : List Rt) : List Rt := (l.take 22).map cutRt
theorem rd_Rt {l : List Rt} {i : Nat} (h : i < l.length) : rd_T35 l (i : Int) = l[i] := by
  unfold rd_T35
  rw [Int.toNat_natCast, List.getD_eq_getElem?_getD, List.getElem?_eq_getElem h]
  rfl
theorem cutR_from (l : List Rt) : ∀ (d k i : Nat) (acc : List Rt), (l.take 22).length - i = d → i ≤ (l.take 22).length → d < k → acc.length = i → postriderlaw16_Cut.l0 k l acc (i : Int) = some (acc ++ ((l.take 22).drop i).map cutRt) := by
  intro d
  induction d with
  | zero =>
    intro k i acc hd hi hk ha
    obtain ⟨k, rfl⟩ : ∃ m, k = m + 1 := ⟨k - 1, by omega⟩
    rw [List.drop_eq_nil_of_le (by omega), List.map_nil, List.append_nil]
    simp only [postriderlaw16_Cut.l0]
    rw [List.length_take] at hd hi
    by_cases h : (i : Int) < (l.length : Int)
    · rw [if_pos h, if_neg (by omega)]
    · rw [if_neg h]
  | succ d ih =>
    intro k i acc hd hi hk ha
    obtain ⟨k, rfl⟩ : ∃ m, k = m + 1 := ⟨k - 1, by omega⟩
    have hlt : i < (l.take 22).length := by omega
    have hl : i < l.length ∧ i < 22 := by rw [List.length_take] at hlt; omega
    simp only [postriderlaw16_Cut.l0]
    rw [rd_Rt hl.1]
    obtain ⟨h1, h2, h3⟩ := mn_len (l[i]'hl.1).f0.size 61 (by decide)
    rw [if_pos (by omega), if_pos (by omega), if_pos (by omega), if_pos h1, if_pos h2, if_pos (by omega), wrap_up i (by omega), ih k (i + 1) _ (by omega) (by omega) (by omega) (by simp [ha])]
    rw [List.append_assoc]
    congr 1
    rw [List.drop_eq_getElem_cons hlt, List.map_cons]
    have e : (l.take 22)[i] = l[i]'hl.1 := List.getElem_take
    rw [e]
    rfl
theorem CutR_is (l : List Rt) (k : Nat) (hk : 30 ≤ k) : postriderlaw16_Cut.f k l = some (cutR l) := by
  unfold postriderlaw16_Cut.f
  have := cutR_from l _ k 0 [] rfl (Nat.zero_le _) (by rw [List.length_take]; omega) rfl
  simpa [cutR] using this
theorem cutR_len (l : List Rt) : (cutR l).length ≤ 22 := by
  unfold cutR
  rw [List.length_map, List.length_take]
  omega
def findT (l : List Rt) (n : Int) (a1 a2 : ByteArray) (a3 a4 : Int) : Int × Bool × Int :=
  match (allT l n a1 a2 a3 a4).1 with
  | [] => (0, false, (allT l n a1 a2 a3 a4).2)
  | a :: _ => (a, true, 0)
theorem All_is (l : List Rt) (n : Int) (a1 a2 : ByteArray) (a3 a4 : Int) (h1 : a1.size ≤ 21) (h2 : a2.size ≤ 21) : route_All.f l n a1 a2 a3 a4 = some (allT l n a1 a2 a3 a4) := by
  unfold route_All.f
  rw [if_pos ⟨Nat.le_trans h1 (by decide), Nat.le_trans h2 (by decide)⟩]
theorem Find_is (l : List Rt) (n : Int) (a1 a2 : ByteArray) (a3 a4 : Int) (h1 : a1.size ≤ 21) (h2 : a2.size ≤ 21) : route_Find.f l n a1 a2 a3 a4 = some (findT l n a1 a2 a3 a4) := by
  unfold route_Find.f findT
  rw [All_is l n a1 a2 a3 a4 h1 h2]
  simp only [Option.bind_some]
  cases (allT l n a1 a2 a3 a4).1 with
  | nil => rfl
  | cons a r =>
    simp only [List.length_cons]
    rw [if_neg (by omega), if_pos (by omega)]
    rfl
theorem all_cases (l : List Rt) (n : Int) (a1 a2 : ByteArray) (a3 a4 : Int) :
    (allT l n a1 a2 a3 a4 = ([], 160) ∧ rightRt l = false) ∨ (allT l n a1 a2 a3 a4 = ([], 60) ∧ rightRt l = true ∧ rightS n a1 a2 a3 a4 = false ∧ printT n a1 a2 a3 a4 = (⟨#[]⟩, 60)) ∨
      ∃ s, rightRt l = true ∧ rightS n a1 a2 a3 a4 = true ∧ printT n a1 a2 a3 a4 = (s, 0) ∧ allT l n a1 a2 a3 a4 = (allP s.data.toList (pfx l), 0) := by
  unfold allT printT
  cases hr : rightRt l with
  | false => exact .inl ⟨rfl, rfl⟩
  | true =>
    refine .inr ?_
    cases hn : rightS n a1 a2 a3 a4 with
    | false => exact .inl ⟨rfl, rfl, rfl, rfl⟩
    | true => exact .inr ⟨_, rfl, rfl, rfl, rfl⟩
theorem place_is {l : List Rt} {s : ByteArray} {a : Int} : a ∈ allP s.data.toList (pfx l) ↔ 0 ≤ a ∧ a < (l.length : Int) ∧ (rd_T35 l a).f0.data.toList.isPrefixOf s.data.toList = true := by
  rw [allP_mem]
  constructor
  · rintro ⟨k, p, rfl, h1, h2⟩
    rw [List.getElem?_map, Option.map_eq_some_iff] at h1
    obtain ⟨x, h3, rfl⟩ := h1
    obtain ⟨hk, rfl⟩ := List.getElem?_eq_some_iff.1 h3
    rw [rd_Rt hk]
    exact ⟨by omega, by omega, h2⟩
  · rintro ⟨h0, h1, h2⟩
    have e : a = ((a.toNat : Nat) : Int) := by omega
    have hk : a.toNat < l.length := by omega
    rw [e, rd_Rt hk] at h2
    exact ⟨a.toNat, _, e, by rw [List.getElem?_map, List.getElem?_eq_getElem hk]; rfl, h2⟩
end Go.Proofs.YtaknknfcikdjiaaGreatDoor.Hand
end
section
namespace Go.Proofs.YtaknknfcikdjiaaGreatDoor.RF
open Go.Proofs.YtaknknfcikdjiaaGreatDoor.Hand
open Go.Proofs.YtaknknfcikdjiaaGreatDoor.SA
open Go.Proofs.YtaknknfcikdjiaaGreatDoor.RK
open Go.RowKit Go.Proofs.YtaknknfcikdjiaaGreatDoorW.PrintWords Go.Proofs.YtaknknfcikdjiaaGreatDoorW.PrintLast Go.Proofs.YtaknknfcikdjiaaGreatDoorW.PrintMore
attribute [local go_sem] max2_int min2_int max_two min_two max_three min_three max_four min_four
set_option linter.unusedVariables false
set_option linter.unusedSimpArgs false
def postriderlaw16_RouteEmpty.l0 : Nat → List (S35) → Bool → Int → Bool → Int → Bool → Int → Bool → Int → Int → ByteArray → ByteArray → Int → Int → Option (Bool)
  | 0, _, _, _, _, _, _, _, _, _, _, _, _, _, _ => none
  | k + 1, x0, x5, x6, x7, x8, x10, x11, x12, x13, x232000, x232001, x232002, x232003, x232004 => if x13 < (x0.length : Int) then (if x12 = true then (postriderlaw16_RouteEmpty.l0 k x0 x5 x6 x7 x8 x10 x11 true (wrap64 (x13 + 1)) x232000 x232001 x232002 x232003 x232004) else (if 0 ≤ x13 then (postriderlaw16_RouteEmpty.l0 k x0 x5 x6 x7 x8 x10 x11 (((rd_T35 x0 x13).f0).toList == ([] : List UInt8)) (wrap64 (x13 + 1)) x232000 x232001 x232002 x232003 x232004) else (none))) else (if x5 = true then (if x10 = true then (some false) else ((eid_Right.f x232000 x232001 x232002 x232003 x232004).bind fun t248 => (if ((x11 == 0) == t248) = true then (if x8 = 0 then (if x12 = true then (some x7) else (some true)) else (if x6 = 0 then (some true) else (some false))) else (some false)))) else (some false))
def postriderlaw16_RouteEmpty.f (k : Nat) (l0 : List (S35)) (a1_0 : Int) (a1_1 : ByteArray) (a1_2 : ByteArray) (a1_3 : Int) (a1_4 : Int) : Option (Bool) := (postriderlaw16_shown.f).bind fun t232 => ((postriderlaw16_Cut.f k l0).bind fun t233 => ((postriderlaw06_Cut.f a1_0 a1_1 a1_2 a1_3 a1_4).bind fun bt236 => ((route_Find.f t233 bt236.1 bt236.2.1 bt236.2.2.1 bt236.2.2.2.1 bt236.2.2.2.2).bind fun bt241 => ((route_Find.f ([] : List (S35)) bt236.1 bt236.2.1 bt236.2.2.1 bt236.2.2.2.1 bt236.2.2.2.2).bind fun bt244 => (postriderlaw16_RouteEmpty.l0 k t233 t232 bt241.1 bt241.2.1 bt241.2.2 bt244.2.1 bt244.2.2 false 0 bt236.1 bt236.2.1 bt236.2.2.1 bt236.2.2.2.1 bt236.2.2.2.2)))))
theorem postriderlaw16_RouteEmpty.mono_l : ∀ k, (∀ y0 y1 y2 y3 y4 y5 y6 y7 y8 y9 y10 y11 y12 y13, LeO (postriderlaw16_RouteEmpty.l0 k y0 y1 y2 y3 y4 y5 y6 y7 y8 y9 y10 y11 y12 y13) (postriderlaw16_RouteEmpty.l0 (k + 1) y0 y1 y2 y3 y4 y5 y6 y7 y8 y9 y10 y11 y12 y13))
  | 0 => fun _ _ _ _ _ _ _ _ _ _ _ _ _ _ r h => by simp [postriderlaw16_RouteEmpty.l0] at h
  | k + 1 => by
    have ih0 := postriderlaw16_RouteEmpty.mono_l k
    · intro y0 y1 y2 y3 y4 y5 y6 y7 y8 y9 y10 y11 y12 y13
      unfold postriderlaw16_RouteEmpty.l0
      repeat' first
      | (with_reducible exact ih0 _ _ _ _ _ _ _ _ _ _ _ _ _ _)
      | (with_reducible exact postriderlaw16_Cut.mono _ _)
      | (with_reducible exact LeO.refl _)
      | (with_reducible exact LeO.none _)
      | (with_reducible refine LeO.ite ?_ ?_)
      | (with_reducible refine LeO.bind ?_ (fun _ => ?_))
      | exact ih0 _ _ _ _ _ _ _ _ _ _ _ _ _ _
      | exact postriderlaw16_Cut.mono _ _
      | exact LeO.none _
      | refine LeO.ite ?_ ?_
      | refine LeO.bind ?_ (fun _ => ?_)
theorem postriderlaw16_RouteEmpty.mono : ∀ a0 a1 a2 a3 a4 a5 k, LeO (postriderlaw16_RouteEmpty.f k a0 a1 a2 a3 a4 a5) (postriderlaw16_RouteEmpty.f (k + 1) a0 a1 a2 a3 a4 a5) := by
  intro a0 a1 a2 a3 a4 a5 k
  have ih0 := postriderlaw16_RouteEmpty.mono_l k
  unfold postriderlaw16_RouteEmpty.f
  repeat' first
      | (with_reducible exact ih0 _ _ _ _ _ _ _ _ _ _ _ _ _ _)
      | (with_reducible exact postriderlaw16_Cut.mono _ _)
      | (with_reducible exact LeO.refl _)
      | (with_reducible exact LeO.none _)
      | (with_reducible refine LeO.ite ?_ ?_)
      | (with_reducible refine LeO.bind ?_ (fun _ => ?_))
      | exact ih0 _ _ _ _ _ _ _ _ _ _ _ _ _ _
      | exact postriderlaw16_Cut.mono _ _
      | exact LeO.none _
      | refine LeO.ite ?_ ?_
      | refine LeO.bind ?_ (fun _ => ?_)
set_option maxHeartbeats 8000000 in
set_option maxRecDepth 100000 in
theorem postriderlaw16_RouteEmpty.calls (k : Nat) (A0 : Option Addr) (c0 : Nat) (l0 : List (S35)) (a1_0 : Int) (a1_1 : ByteArray) (a1_2 : ByteArray) (a1_3 : Int) (a1_4 : Int) (r : Bool) (w : World) (hr0 : Kd.C k35 w A0 l0.length l0) (hc0 : l0.length ≤ c0) (hLd : LaidR w) (h : postriderlaw16_RouteEmpty.f k l0 a1_0 a1_1 a1_2 a1_3 a1_4 = some r) :
    Calls Tryz.prog 7 #[.slice A0 l0.length c0, .agg #[.int .i64 a1_0, .string a1_1, .string a1_2, .int .i64 a1_3, .int .i64 a1_4]] w fun e w' => e = .returned (.bool r) ∧ Below w.heap.size w w' := by
  have hu37 := Tryz.underlying37
  have HLD := Aside0.mk hLd
  clear hLd
  have HR0 := Aside0.mk hr0
  have HC0 := Aside0.mk hc0
  clear hr0 hc0
  have HB := Aside0.mk (Below.refl w.heap.size w)
  have H : ((postriderlaw16_shown.f).bind fun t232 => ((postriderlaw16_Cut.f k l0).bind fun t233 => ((postriderlaw06_Cut.f a1_0 a1_1 a1_2 a1_3 a1_4).bind fun bt236 => ((route_Find.f t233 bt236.1 bt236.2.1 bt236.2.2.1 bt236.2.2.2.1 bt236.2.2.2.2).bind fun bt241 => ((route_Find.f ([] : List (S35)) bt236.1 bt236.2.1 bt236.2.2.1 bt236.2.2.2.1 bt236.2.2.2.2).bind fun bt244 => (postriderlaw16_RouteEmpty.l0 k t233 t232 bt241.1 bt241.2.1 bt241.2.2 bt244.2.1 bt244.2.2 false 0 bt236.1 bt236.2.1 bt236.2.2.1 bt236.2.2.2.1 bt236.2.2.2.2)))))) = some r := h
  clear h
  replace H := Option.bind_eq_some_iff.mp H
  obtain ⟨t232, A30, H⟩ := H
  replace H : ((postriderlaw16_Cut.f k l0).bind fun t233 => ((postriderlaw06_Cut.f a1_0 a1_1 a1_2 a1_3 a1_4).bind fun bt236 => ((route_Find.f t233 bt236.1 bt236.2.1 bt236.2.2.1 bt236.2.2.2.1 bt236.2.2.2.2).bind fun bt241 => ((route_Find.f ([] : List (S35)) bt236.1 bt236.2.1 bt236.2.2.1 bt236.2.2.2.1 bt236.2.2.2.2).bind fun bt244 => (postriderlaw16_RouteEmpty.l0 k t233 t232 bt241.1 bt241.2.1 bt241.2.2 bt244.2.1 bt244.2.2 false 0 bt236.1 bt236.2.1 bt236.2.2.1 bt236.2.2.2.1 bt236.2.2.2.2))))) = some r := H
  have A3 := Aside0.mk A30
  clear A30
  replace H := Option.bind_eq_some_iff.mp H
  obtain ⟨t233, A40, H⟩ := H
  replace H : ((postriderlaw06_Cut.f a1_0 a1_1 a1_2 a1_3 a1_4).bind fun bt236 => ((route_Find.f t233 bt236.1 bt236.2.1 bt236.2.2.1 bt236.2.2.2.1 bt236.2.2.2.2).bind fun bt241 => ((route_Find.f ([] : List (S35)) bt236.1 bt236.2.1 bt236.2.2.1 bt236.2.2.2.1 bt236.2.2.2.2).bind fun bt244 => (postriderlaw16_RouteEmpty.l0 k t233 t232 bt241.1 bt241.2.1 bt241.2.2 bt244.2.1 bt244.2.2 false 0 bt236.1 bt236.2.1 bt236.2.2.1 bt236.2.2.2.1 bt236.2.2.2.2)))) = some r := H
  have A4 := Aside0.mk A40
  clear A40
  replace H := Option.bind_eq_some_iff.mp H
  obtain ⟨⟨t236, t237, t238, t239, t240⟩, A50, H⟩ := H
  replace H : ((route_Find.f t233 t236 t237 t238 t239 t240).bind fun bt241 => ((route_Find.f ([] : List (S35)) t236 t237 t238 t239 t240).bind fun bt244 => (postriderlaw16_RouteEmpty.l0 k t233 t232 bt241.1 bt241.2.1 bt241.2.2 bt244.2.1 bt244.2.2 false 0 t236 t237 t238 t239 t240))) = some r := H
  have A5 := Aside0.mk A50
  clear A50
  replace H := Option.bind_eq_some_iff.mp H
  obtain ⟨⟨t241, t242, t243⟩, A60, H⟩ := H
  replace H : ((route_Find.f ([] : List (S35)) t236 t237 t238 t239 t240).bind fun bt244 => (postriderlaw16_RouteEmpty.l0 k t233 t232 t241 t242 t243 bt244.2.1 bt244.2.2 false 0 t236 t237 t238 t239 t240)) = some r := H
  have A6 := Aside0.mk A60
  clear A60
  replace H := Option.bind_eq_some_iff.mp H
  obtain ⟨⟨t244, t245, t246⟩, A70, H⟩ := H
  replace H : (postriderlaw16_RouteEmpty.l0 k t233 t232 t241 t242 t243 t245 t246 false 0 t236 t237 t238 t239 t240) = some r := H
  have A7 := Aside0.mk A70
  clear A70
  have H' := Aside0.mk H
  clear H
  go_enter Tryz.func7, Tryz.ntmps7
  go_wp2_with (first | ((with_reducible refine gate_dst (N := 3) rfl ?_); refine box_event ?hg (N := 3) ?hd (cs := #[.int .i64 a1_0, .string a1_1, .string a1_2, .int .i64 a1_3, .int .i64 a1_4]) (t := 37) ?hr ?_; (case hd => rfl); (case hg => rfl); (case hr => first | (go_simp; done) | (go_simp; rfl) | (go_simp; simp only [isEmpty_ne, isEmpty_eq]; done) | (go_simp; simp only [isEmpty_ne, isEmpty_eq]; rfl)); intro gb231 hg w8 hbox hb; have n0_ := Aside0.mk (below_step (by repeat (first | (with_reducible first | exact HB.out | apply below_alloc | apply pw_below_drewN | apply below_drew1) | exact HB.out)) hb); have n1_ := Aside0.mk (hbox); have n2_ := Aside0.mk ((by rw [hg]; exact (below_size (by repeat (first | (with_reducible first | exact HB.out | apply below_alloc | apply pw_below_drewN | apply below_drew1) | exact HB.out))) : w.heap.size ≤ gb231)); have n3_ := Aside0.mk ((by rw [hg]; exact (below_size (by repeat (first | (with_reducible first | exact HB.out | apply below_alloc | apply pw_below_drewN | apply below_drew1) | exact HB.out))) : w.heap.size ≤ gb231)); clear HB; have HB := n0_; have BK231 := n1_; have GW231 := n2_; have GE231 := n3_; clear n0_ n1_ n2_ n3_; clear hb hbox hg) | ((with_reducible refine gate_callee (f := 10) rfl ?_); refine goesL_ (some 14) rfl rfl Tryz.func10 (by kernel_rfl) rfl #[] rfl (by (try simp only [List.map_toArray, List.map_cons, List.map_nil]); first | done | rfl | (simp only [List.length_drop, List.length_take]; rfl)) ?_; (with_reducible refine (postriderlaw16_shown.calls  t232 _ ?side1 A3.out).mono ?_); (case side1 => exact LaidR.below HLD.out (by repeat (first | (with_reducible first | exact HB.out | apply below_alloc | apply pw_below_drewN | apply below_drew1 | refine below_set ?_ GE231.out) | exact HB.out))); rintro e w9 ⟨rfl, hb⟩; refine ⟨_, rfl, ?_⟩; have n0_ := Aside0.mk (blk_below (g := gb231) (o := .cells #[.int .i64 a1_0, .string a1_1, .string a1_2, .int .i64 a1_3, .int .i64 a1_4] 37 (0, 0)) (by (with_reducible repeat (first | refine blk_drewN ?_ _ | refine blk_drew ?_ | refine blk_alloc ?_ _)); exact BK231.out) hb); have n1_ := Aside0.mk (below_step (by repeat (first | (with_reducible first | exact HB.out | apply below_alloc | apply pw_below_drewN | apply below_drew1 | refine below_set ?_ GE231.out) | exact HB.out)) hb); clear BK231; clear HB; have BK231 := n0_; have HB := n1_; clear n0_ n1_; (try clear hb); (try clear hb2); (try clear hk); (try clear hi)) | ((with_reducible refine gate_callee (f := 17) rfl ?_); refine goesL_ (some 16) rfl rfl Tryz.func17 (by kernel_rfl) rfl #[.slice A0 l0.length c0] rfl (by (try simp only [List.map_toArray, List.map_cons, List.map_nil]); first | done | rfl | (simp only [List.length_drop, List.length_take]; rfl)) ?_; (with_reducible refine (postriderlaw16_Cut.calls k _ _ l0 t233 _ ?side1 ?side2 A4.out).mono ?_); (case side1 => repeat (first | exact (Kd.C_below HR0.out HB.out) | (with_reducible refine Kd.C_alloc ?_ _) | (with_reducible refine Kd.C_drewN ?_ _) | (with_reducible refine Kd.C_drew ?_))); (case side2 => exact HC0.out); rintro e w10 ⟨v234, rfl, ho0, hb⟩; refine ⟨_, rfl, ?_⟩; have n0_ := Aside0.mk (Kd.R_lower ho0 (below_size (by repeat (first | (with_reducible first | exact HB.out | apply below_alloc | apply pw_below_drewN | apply below_drew1 | refine below_set ?_ GE231.out) | exact HB.out)))); have n1_ := Aside0.mk (blk_below (g := gb231) (o := .cells #[.int .i64 a1_0, .string a1_1, .string a1_2, .int .i64 a1_3, .int .i64 a1_4] 37 (0, 0)) (by (with_reducible repeat (first | refine blk_drewN ?_ _ | refine blk_drew ?_ | refine blk_alloc ?_ _)); exact BK231.out) hb); have n2_ := Aside0.mk (below_step (by repeat (first | (with_reducible first | exact HB.out | apply below_alloc | apply pw_below_drewN | apply below_drew1 | refine below_set ?_ GE231.out) | exact HB.out)) hb); clear BK231; clear HB; have HO235 := n0_; have BK231 := n1_; have HB := n2_; clear n0_ n1_ n2_; (try clear hb); (try clear hb2); (try clear hk); (try clear hi); (try clear ho0); have hcz11_0 : w10.cell? ⟨gb231, 0, none⟩ = some (.int .i64 a1_0) := (blk_cell BK231.out 0).trans rfl; have hcz11_1 : w10.cell? ⟨gb231, 1, none⟩ = some (.string a1_1) := (blk_cell BK231.out 1).trans rfl; have hcz11_2 : w10.cell? ⟨gb231, 2, none⟩ = some (.string a1_2) := (blk_cell BK231.out 2).trans rfl; have hcz11_3 : w10.cell? ⟨gb231, 3, none⟩ = some (.int .i64 a1_3) := (blk_cell BK231.out 3).trans rfl; have hcz11_4 : w10.cell? ⟨gb231, 4, none⟩ = some (.int .i64 a1_4) := (blk_cell BK231.out 4).trans rfl; have hfz11_0 := blk_frozen BK231.out 0; have hfz11_1 := blk_frozen BK231.out 1; have hfz11_2 := blk_frozen BK231.out 2; have hfz11_3 := blk_frozen BK231.out 3; have hfz11_4 := blk_frozen BK231.out 4) | ((with_reducible refine gate_callee (f := 18) rfl ?_); refine goesL_ (some 18) rfl rfl Tryz.func18 (by kernel_rfl) rfl #[.agg #[.int .i64 a1_0, .string a1_1, .string a1_2, .int .i64 a1_3, .int .i64 a1_4]] rfl (by (try simp only [List.map_toArray, List.map_cons, List.map_nil]); first | done | rfl | (simp only [List.length_drop, List.length_take]; rfl)) ?_; (with_reducible refine (postriderlaw06_Cut.calls a1_0 a1_1 a1_2 a1_3 a1_4 t236 t237 t238 t239 t240 _ A5.out).mono ?_); rintro e w12 ⟨rfl, hb⟩; refine ⟨_, rfl, ?_⟩; have n0_ := Aside0.mk (Kd.R_below (by (with_reducible repeat (first | apply Kd.R_alloc | apply Kd.R_drewN | apply Kd.R_drew)); exact HO235.out) hb); have n1_ := Aside0.mk (blk_below (g := gb231) (o := .cells #[.int .i64 a1_0, .string a1_1, .string a1_2, .int .i64 a1_3, .int .i64 a1_4] 37 (0, 0)) (by (with_reducible repeat (first | refine blk_drewN ?_ _ | refine blk_drew ?_ | refine blk_alloc ?_ _)); exact BK231.out) hb); have n2_ := Aside0.mk (below_step (by repeat (first | (with_reducible first | exact HB.out | apply below_alloc | apply pw_below_drewN | apply below_drew1 | refine below_set ?_ GE231.out) | exact HB.out)) hb); clear HO235; clear BK231; clear HB; have HO235 := n0_; have BK231 := n1_; have HB := n2_; clear n0_ n1_ n2_; (try clear hb); (try clear hb2); (try clear hk); (try clear hi); have hcz13_0 : w12.cell? ⟨gb231, 0, none⟩ = some (.int .i64 a1_0) := (blk_cell BK231.out 0).trans rfl; have hcz13_1 : w12.cell? ⟨gb231, 1, none⟩ = some (.string a1_1) := (blk_cell BK231.out 1).trans rfl; have hcz13_2 : w12.cell? ⟨gb231, 2, none⟩ = some (.string a1_2) := (blk_cell BK231.out 2).trans rfl; have hcz13_3 : w12.cell? ⟨gb231, 3, none⟩ = some (.int .i64 a1_3) := (blk_cell BK231.out 3).trans rfl; have hcz13_4 : w12.cell? ⟨gb231, 4, none⟩ = some (.int .i64 a1_4) := (blk_cell BK231.out 4).trans rfl; have hfz13_0 := blk_frozen BK231.out 0; have hfz13_1 := blk_frozen BK231.out 1; have hfz13_2 := blk_frozen BK231.out 2; have hfz13_3 := blk_frozen BK231.out 3; have hfz13_4 := blk_frozen BK231.out 4; obtain ⟨Ao14, co14, eo14⟩ := Kd.R_slice HO235.out; subst eo14) | ((with_reducible refine gate_callee (f := 19) rfl ?_); refine goesL_ (some 22) rfl rfl Tryz.func19 (by kernel_rfl) rfl #[.slice Ao14 t233.length co14, .agg #[.int .i64 t236, .string t237, .string t238, .int .i64 t239, .int .i64 t240]] rfl (by (try simp only [List.map_toArray, List.map_cons, List.map_nil]); first | done | rfl | (simp only [List.length_drop, List.length_take]; rfl)) ?_; (with_reducible refine (route_Find.calls _ _ t233 t236 t237 t238 t239 t240 t241 t242 t243 _ ?side1 ?side2 ?side3 A6.out).mono ?_); (case side1 => refine (Kd.R_reads' (e := 35) (base := w.heap.size) (ok := fun k_ => True) (n := t233.length) (c := co14) ?_).2.2; exact (by (with_reducible repeat (first | apply Kd.R_alloc | apply Kd.R_drewN | apply Kd.R_drew)); exact (Kd.R_mono (Kd.R_far (p := ⟨gb231, 4, none⟩) (Kd.R_far (p := ⟨gb231, 3, none⟩) (Kd.R_far (p := ⟨gb231, 2, none⟩) (Kd.R_far (p := ⟨gb231, 1, none⟩) (Kd.R_far (p := ⟨gb231, 0, none⟩) (Kd.R_types HO235.out BK231.out (by decide)) (fun _ hk => hk.2) (.int .i64 t236)) (fun _ hk => hk.2) (.string t237)) (fun _ hk => hk.2) (.string t238)) (fun _ hk => hk.2) (.int .i64 t239)) (fun _ hk => hk.2) (.int .i64 t240)) (fun _ h_ => h_.1)))); (case side2 => exact (Kd.R_reads' HO235.out).2.1); (case side3 => exact LaidR.below HLD.out (by repeat (first | (with_reducible first | exact HB.out | apply below_alloc | apply pw_below_drewN | apply below_drew1 | refine below_set ?_ GE231.out) | exact HB.out))); rintro e w15 ⟨rfl, hb⟩; refine ⟨_, rfl, ?_⟩; have n0_ := Aside0.mk (Kd.R_below (by (with_reducible repeat (first | apply Kd.R_alloc | apply Kd.R_drewN | apply Kd.R_drew)); exact (Kd.R_mono (Kd.R_far (p := ⟨gb231, 4, none⟩) (Kd.R_far (p := ⟨gb231, 3, none⟩) (Kd.R_far (p := ⟨gb231, 2, none⟩) (Kd.R_far (p := ⟨gb231, 1, none⟩) (Kd.R_far (p := ⟨gb231, 0, none⟩) (Kd.R_types HO235.out BK231.out (by decide)) (fun _ hk => hk.2) (.int .i64 t236)) (fun _ hk => hk.2) (.string t237)) (fun _ hk => hk.2) (.string t238)) (fun _ hk => hk.2) (.int .i64 t239)) (fun _ hk => hk.2) (.int .i64 t240)) (fun _ h_ => h_.1))) hb); have n1_ := Aside0.mk (blk_below (g := gb231) (o := .cells #[.int .i64 t236, .string t237, .string t238, .int .i64 t239, .int .i64 t240] 37 (0, 0)) (by (with_reducible repeat (first | refine blk_drewN ?_ _ | refine blk_drew ?_ | refine blk_alloc ?_ _)); refine blk_put (cs := #[.int .i64 t236, .string t237, .string t238, .int .i64 t239, .int .i64 a1_4]) ?_ 4 _ rfl; (with_reducible repeat (first | refine blk_drewN ?_ _ | refine blk_drew ?_ | refine blk_alloc ?_ _)); refine blk_put (cs := #[.int .i64 t236, .string t237, .string t238, .int .i64 a1_3, .int .i64 a1_4]) ?_ 3 _ rfl; (with_reducible repeat (first | refine blk_drewN ?_ _ | refine blk_drew ?_ | refine blk_alloc ?_ _)); refine blk_put (cs := #[.int .i64 t236, .string t237, .string a1_2, .int .i64 a1_3, .int .i64 a1_4]) ?_ 2 _ rfl; (with_reducible repeat (first | refine blk_drewN ?_ _ | refine blk_drew ?_ | refine blk_alloc ?_ _)); refine blk_put (cs := #[.int .i64 t236, .string a1_1, .string a1_2, .int .i64 a1_3, .int .i64 a1_4]) ?_ 1 _ rfl; (with_reducible repeat (first | refine blk_drewN ?_ _ | refine blk_drew ?_ | refine blk_alloc ?_ _)); refine blk_put (cs := #[.int .i64 a1_0, .string a1_1, .string a1_2, .int .i64 a1_3, .int .i64 a1_4]) ?_ 0 _ rfl; (with_reducible repeat (first | refine blk_drewN ?_ _ | refine blk_drew ?_ | refine blk_alloc ?_ _)); exact BK231.out) hb); have n2_ := Aside0.mk (below_step (by repeat (first | (with_reducible first | exact HB.out | apply below_alloc | apply pw_below_drewN | apply below_drew1 | refine below_set ?_ GE231.out) | exact HB.out)) hb); clear HO235; clear BK231; clear HB; have HO235 := n0_; have BK231 := n1_; have HB := n2_; clear n0_ n1_ n2_; (try clear hb); (try clear hb2); (try clear hk); (try clear hi); have hcz16_0 : w15.cell? ⟨gb231, 0, none⟩ = some (.int .i64 t236) := (blk_cell BK231.out 0).trans rfl; have hcz16_1 : w15.cell? ⟨gb231, 1, none⟩ = some (.string t237) := (blk_cell BK231.out 1).trans rfl; have hcz16_2 : w15.cell? ⟨gb231, 2, none⟩ = some (.string t238) := (blk_cell BK231.out 2).trans rfl; have hcz16_3 : w15.cell? ⟨gb231, 3, none⟩ = some (.int .i64 t239) := (blk_cell BK231.out 3).trans rfl; have hcz16_4 : w15.cell? ⟨gb231, 4, none⟩ = some (.int .i64 t240) := (blk_cell BK231.out 4).trans rfl; have hfz16_0 := blk_frozen BK231.out 0; have hfz16_1 := blk_frozen BK231.out 1; have hfz16_2 := blk_frozen BK231.out 2; have hfz16_3 := blk_frozen BK231.out 3; have hfz16_4 := blk_frozen BK231.out 4) | ((with_reducible refine gate_callee (f := 19) rfl ?_); refine goesL_ (some 28) rfl rfl Tryz.func19 (by kernel_rfl) rfl #[.slice none 0 0, .agg #[.int .i64 t236, .string t237, .string t238, .int .i64 t239, .int .i64 t240]] rfl (by (try simp only [List.map_toArray, List.map_cons, List.map_nil]); first | done | rfl | (simp only [List.length_drop, List.length_take]; rfl)) ?_; (refine (route_Find.calls _ _ ([] : List (S35)) t236 t237 t238 t239 t240 t244 t245 t246 _ ?side1 ?side2 ?side3 A7.out).mono ?_); (case side1 => exact Kd.C_nil _ _); (case side2 => exact Nat.le_refl _); (case side3 => exact LaidR.below HLD.out (by repeat (first | (with_reducible first | exact HB.out | apply below_alloc | apply pw_below_drewN | apply below_drew1 | refine below_set ?_ GE231.out) | exact HB.out))); rintro e w17 ⟨rfl, hb⟩; refine ⟨_, rfl, ?_⟩; have n0_ := Aside0.mk (Kd.R_below (by (with_reducible repeat (first | apply Kd.R_alloc | apply Kd.R_drewN | apply Kd.R_drew)); exact HO235.out) hb); have n1_ := Aside0.mk (blk_below (g := gb231) (o := .cells #[.int .i64 t236, .string t237, .string t238, .int .i64 t239, .int .i64 t240] 37 (0, 0)) (by (with_reducible repeat (first | refine blk_drewN ?_ _ | refine blk_drew ?_ | refine blk_alloc ?_ _)); exact BK231.out) hb); have n2_ := Aside0.mk (below_step (by repeat (first | (with_reducible first | exact HB.out | apply below_alloc | apply pw_below_drewN | apply below_drew1 | refine below_set ?_ GE231.out) | exact HB.out)) hb); clear HO235; clear BK231; clear HB; have HO235 := n0_; have BK231 := n1_; have HB := n2_; clear n0_ n1_ n2_; (try clear hb); (try clear hb2); (try clear hk); (try clear hi)))
  go_loopg [12, 13] k (fun kq v12 v13 w' => ∃ (x12_1 : Bool) (x13_1 : Int), v12 = .bool x12_1 ∧ v13 = .int .i64 x13_1 ∧ Aside0 (postriderlaw16_RouteEmpty.l0 kq t233 t232 t241 t242 t243 t245 t246 x12_1 x13_1 t236 t237 t238 t239 t240 = some r) ∧ Aside0 (kq ≤ k) ∧ Aside0 (Kd.R k35 35 w' w.heap.size (fun _ => True) (.slice Ao14 t233.length co14) t233) ∧ Aside0 (w'.heap[gb231]? = some (.cells #[.int .i64 t236, .string t237, .string t238, .int .i64 t239, .int .i64 t240] 37 (0, 0))) ∧ Aside0 (Below w.heap.size w w'))
  case atStart => exact ⟨(false), (0), (by first | rfl | (simp; done) | (simp [*]; done)), (by first | rfl | (simp; done) | (simp [*]; done)), H', ⟨Nat.le_refl _⟩, ⟨by (with_reducible repeat (first | apply Kd.R_alloc | apply Kd.R_drewN | apply Kd.R_drew)); exact HO235.out⟩, ⟨by (with_reducible repeat (first | refine blk_drewN ?_ _ | refine blk_drew ?_ | refine blk_alloc ?_ _)); exact BK231.out⟩, ⟨by repeat (first | (with_reducible first | exact HB.out | apply below_alloc | apply pw_below_drewN | apply below_drew1 | refine below_set ?_ GE231.out) | exact HB.out)⟩⟩
  case round =>
    clear H'
    try clear c1
    try clear p2
    try clear c7
    try clear c10
    try clear c17
    try clear hcz11_0
    try clear hcz11_1
    try clear hcz11_2
    try clear hcz11_3
    try clear hcz11_4
    try clear hcz13_0
    try clear hcz13_1
    try clear hcz13_2
    try clear hcz13_3
    try clear hcz13_4
    try clear hcz16_0
    try clear hcz16_1
    try clear hcz16_2
    try clear hcz16_3
    try clear hcz16_4
    try clear hfz11_0
    try clear hfz11_1
    try clear hfz11_2
    try clear hfz11_3
    try clear hfz11_4
    try clear hfz13_0
    try clear hfz13_1
    try clear hfz13_2
    try clear hfz13_3
    try clear hfz13_4
    try clear hfz16_0
    try clear hfz16_1
    try clear hfz16_2
    try clear hfz16_3
    try clear hfz16_4
    obtain ⟨x12_1, x13_1, rfl, rfl, HA, HK1, HO_0, BK231, HB⟩ := hrel
    cases gk with
    | zero => exact absurd HA.out (by simp [postriderlaw16_RouteEmpty.l0])
    | succ k1 =>
      have H := HA.out
      clear HA
      simp only [postriderlaw16_RouteEmpty.l0] at H
      by_cases c18 : x13_1 < (t233.length : Int)
      · rw [if_pos c18] at H
        have c18b0 : decide (x13_1 < (t233.length : Int)) = true := decide_eq_true c18
        clear c18
        by_cases c19 : x12_1 = true
        · subst c19
          have H1 : (postriderlaw16_RouteEmpty.l0 k1 t233 t232 t241 t242 t243 t245 t246 true (wrap64 (x13_1 + 1)) t236 t237 t238 t239 t240) = some r := by rw [if_pos rfl] at H; exact H
          clear H
          have H := H1
          clear H1
          have H' := Aside0.mk H
          clear H
          go_wp2
          go_roundg k1
          case measure => have := HK1.out; omega
          case rel => exact ⟨(true), (wrap64 (x13_1 + 1)), (by first | rfl | (simp; done) | (simp [*]; done)), (by first | rfl | (simp; done) | (simp [*]; done)), H', ⟨by have := HK1.out; omega⟩, ⟨by (with_reducible repeat (first | apply Kd.R_alloc | apply Kd.R_drewN | apply Kd.R_drew)); exact HO_0.out⟩, ⟨by (with_reducible repeat (first | refine blk_drewN ?_ _ | refine blk_drew ?_ | refine blk_alloc ?_ _)); exact BK231.out⟩, ⟨by repeat (first | (with_reducible first | exact HB.out | apply below_alloc | apply pw_below_drewN | apply below_drew1 | refine below_set ?_ GE231.out) | exact HB.out)⟩⟩
        · replace c19 := Bool.eq_false_iff.mpr c19
          subst c19
          have H1 : (if 0 ≤ x13_1 then (postriderlaw16_RouteEmpty.l0 k1 t233 t232 t241 t242 t243 t245 t246 (((rd_T35 t233 x13_1).f0).toList == ([] : List UInt8)) (wrap64 (x13_1 + 1)) t236 t237 t238 t239 t240) else (none)) = some r := by rw [if_neg (show ¬ (false = true) by decide)] at H; exact H
          clear H
          have H := H1
          clear H1
          by_cases c20 : 0 ≤ x13_1
          · rw [if_pos c20] at H
            have c20b0 : decide (0 ≤ x13_1) = true := decide_eq_true c20
            clear c20
            have H' := Aside0.mk H
            clear H
            have p247 : 0 ≤ (x13_1 : Int) := of_decide_eq_true (by first | (with_reducible assumption) | assumption)
            have q247 : x13_1 < (t233.length : Int) := of_decide_eq_true (by first | (with_reducible assumption) | assumption)
            obtain ⟨ad247, e247, hx247_0, hx247_1⟩ := at_T35 (Kd.R_reads' HO_0.out).2.2 x13_1 p247 q247
            cases e247
            replace p247 := eq_true p247
            replace q247 := eq_true q247
            go_wp2
            go_roundg k1
            case measure => have := HK1.out; omega
            case rel => exact ⟨((((rd_T35 t233 x13_1).f0).toList == ([] : List UInt8))), (wrap64 (x13_1 + 1)), (by first | rfl | (simp; done) | (simp [*]; done)), (by first | rfl | (simp; done) | (simp [*]; done)), H', ⟨by have := HK1.out; omega⟩, ⟨by (with_reducible repeat (first | apply Kd.R_alloc | apply Kd.R_drewN | apply Kd.R_drew)); exact HO_0.out⟩, ⟨by (with_reducible repeat (first | refine blk_drewN ?_ _ | refine blk_drew ?_ | refine blk_alloc ?_ _)); exact BK231.out⟩, ⟨by repeat (first | (with_reducible first | exact HB.out | apply below_alloc | apply pw_below_drewN | apply below_drew1 | refine below_set ?_ GE231.out) | exact HB.out)⟩⟩
          · rw [if_neg c20] at H
            exact absurd H (by simp)
      · rw [if_neg c18] at H
        have c18b0 : decide (x13_1 < (t233.length : Int)) = false := decide_eq_false c18
        clear c18
        by_cases c21 : t232 = true
        · subst c21
          have H1 : (if t245 = true then (some false) else ((eid_Right.f t236 t237 t238 t239 t240).bind fun t248 => (if ((t246 == 0) == t248) = true then (if t243 = 0 then (if x12_1 = true then (some t242) else (some true)) else (if t241 = 0 then (some true) else (some false))) else (some false)))) = some r := by rw [if_pos rfl] at H; exact H
          clear H
          have H := H1
          clear H1
          by_cases c22 : t245 = true
          · subst c22
            have H1 : (some false) = some r := by rw [if_pos rfl] at H; exact H
            clear H
            have H := H1
            clear H1
            obtain rfl := Option.some.inj H
            go_wp2
            all_goals (first | (go_ret; exact ⟨by first | rfl | (simp [errW_none, errW_some] <;> rfl) | (simp [*, errW_none, errW_some] <;> rfl) | (simp_all; done) | fail, by repeat (first | (with_reducible first | exact HB.out | apply below_alloc | apply pw_below_drewN | apply below_drew1 | refine below_set ?_ GE231.out) | exact HB.out)⟩) | (exfalso; simp_all; done) | (exfalso; simp only [isEmpty_eq, isEmpty_ne] at *; simp_all; done) | (exfalso; exact isEmpty_clash (by assumption) (by assumption)) | (exfalso; exact isEmpty_clash' (by assumption) (by assumption)) | (exfalso; exact isEmpty_clash2 (by assumption) (by assumption)))
          · replace c22 := Bool.eq_false_iff.mpr c22
            subst c22
            have H1 : ((eid_Right.f t236 t237 t238 t239 t240).bind fun t248 => (if ((t246 == 0) == t248) = true then (if t243 = 0 then (if x12_1 = true then (some t242) else (some true)) else (if t241 = 0 then (some true) else (some false))) else (some false))) = some r := by rw [if_neg (show ¬ (false = true) by decide)] at H; exact H
            clear H
            have H := H1
            clear H1
            replace H := Option.bind_eq_some_iff.mp H
            obtain ⟨t248, A230, H⟩ := H
            replace H : (if ((t246 == 0) == t248) = true then (if t243 = 0 then (if x12_1 = true then (some t242) else (some true)) else (if t241 = 0 then (some true) else (some false))) else (some false)) = some r := H
            have A23 := Aside0.mk A230
            clear A230
            by_cases c24 : ((t246 == 0) == t248) = true
            · rw [if_pos c24] at H
              have c24b0 : ((t246 == 0) == t248) = true := c24
              (try (have c24b1 : decide ((t246 == 0) = t248) = true := by simpa using c24))
              (try (have c24b2 : ((t246 == 0) == t248) = true := by simpa using c24))
              clear c24
              by_cases c25 : t243 = 0
              · rw [if_pos c25] at H
                have c25b0 : (t243 == 0) = true := beq_iff_eq.mpr c25
                have c25b1 : (t243 != 0) = false := bne_eq_false_iff_eq.mpr c25
                clear c25
                by_cases c26 : x12_1 = true
                · subst c26
                  have H1 : (some t242) = some r := by rw [if_pos rfl] at H; exact H
                  clear H
                  have H := H1
                  clear H1
                  obtain rfl := Option.some.inj H
                  have hcz27_0 : wr.cell? ⟨gb231, 0, none⟩ = some (.int .i64 t236) := (blk_cell BK231.out 0).trans rfl
                  have hcz27_1 : wr.cell? ⟨gb231, 1, none⟩ = some (.string t237) := (blk_cell BK231.out 1).trans rfl
                  have hcz27_2 : wr.cell? ⟨gb231, 2, none⟩ = some (.string t238) := (blk_cell BK231.out 2).trans rfl
                  have hcz27_3 : wr.cell? ⟨gb231, 3, none⟩ = some (.int .i64 t239) := (blk_cell BK231.out 3).trans rfl
                  have hcz27_4 : wr.cell? ⟨gb231, 4, none⟩ = some (.int .i64 t240) := (blk_cell BK231.out 4).trans rfl
                  have hfz27_0 := blk_frozen BK231.out 0
                  have hfz27_1 := blk_frozen BK231.out 1
                  have hfz27_2 := blk_frozen BK231.out 2
                  have hfz27_3 := blk_frozen BK231.out 3
                  have hfz27_4 := blk_frozen BK231.out 4
                  go_wp2_with (first | (go_at_call 22; (with_reducible refine (eid_Right.calls t236 t237 t238 t239 t240 t248 _ A23.out).mono ?_); rintro e w28 ⟨rfl, hb⟩; have n0_ := Aside0.mk (Kd.R_below (by (with_reducible repeat (first | apply Kd.R_alloc | apply Kd.R_drewN | apply Kd.R_drew)); exact HO_0.out) hb); have n1_ := Aside0.mk (blk_below (g := gb231) (o := .cells #[.int .i64 t236, .string t237, .string t238, .int .i64 t239, .int .i64 t240] 37 (0, 0)) (by (with_reducible repeat (first | refine blk_drewN ?_ _ | refine blk_drew ?_ | refine blk_alloc ?_ _)); exact BK231.out) hb); have n2_ := Aside0.mk (below_step (by repeat (first | (with_reducible first | exact HB.out | apply below_alloc | apply pw_below_drewN | apply below_drew1 | refine below_set ?_ GE231.out) | exact HB.out)) hb); clear HO_0; clear BK231; clear HB; have HO_0 := n0_; have BK231 := n1_; have HB := n2_; clear n0_ n1_ n2_; (try clear hb); (try clear hb2); (try clear hk); (try clear hi)))
                  all_goals (first | (go_ret; exact ⟨by first | rfl | (simp [errW_none, errW_some] <;> rfl) | (simp [*, errW_none, errW_some] <;> rfl) | (simp_all; done) | fail, by repeat (first | (with_reducible first | exact HB.out | apply below_alloc | apply pw_below_drewN | apply below_drew1 | refine below_set ?_ GE231.out) | exact HB.out)⟩) | (exfalso; simp_all; done) | (exfalso; simp only [isEmpty_eq, isEmpty_ne] at *; simp_all; done) | (exfalso; exact isEmpty_clash (by assumption) (by assumption)) | (exfalso; exact isEmpty_clash' (by assumption) (by assumption)) | (exfalso; exact isEmpty_clash2 (by assumption) (by assumption)))
                · replace c26 := Bool.eq_false_iff.mpr c26
                  subst c26
                  have H1 : (some true) = some r := by rw [if_neg (show ¬ (false = true) by decide)] at H; exact H
                  clear H
                  have H := H1
                  clear H1
                  obtain rfl := Option.some.inj H
                  have hcz29_0 : wr.cell? ⟨gb231, 0, none⟩ = some (.int .i64 t236) := (blk_cell BK231.out 0).trans rfl
                  have hcz29_1 : wr.cell? ⟨gb231, 1, none⟩ = some (.string t237) := (blk_cell BK231.out 1).trans rfl
                  have hcz29_2 : wr.cell? ⟨gb231, 2, none⟩ = some (.string t238) := (blk_cell BK231.out 2).trans rfl
                  have hcz29_3 : wr.cell? ⟨gb231, 3, none⟩ = some (.int .i64 t239) := (blk_cell BK231.out 3).trans rfl
                  have hcz29_4 : wr.cell? ⟨gb231, 4, none⟩ = some (.int .i64 t240) := (blk_cell BK231.out 4).trans rfl
                  have hfz29_0 := blk_frozen BK231.out 0
                  have hfz29_1 := blk_frozen BK231.out 1
                  have hfz29_2 := blk_frozen BK231.out 2
                  have hfz29_3 := blk_frozen BK231.out 3
                  have hfz29_4 := blk_frozen BK231.out 4
                  go_wp2_with (first | (go_at_call 22; (with_reducible refine (eid_Right.calls t236 t237 t238 t239 t240 t248 _ A23.out).mono ?_); rintro e w30 ⟨rfl, hb⟩; have n0_ := Aside0.mk (Kd.R_below (by (with_reducible repeat (first | apply Kd.R_alloc | apply Kd.R_drewN | apply Kd.R_drew)); exact HO_0.out) hb); have n1_ := Aside0.mk (blk_below (g := gb231) (o := .cells #[.int .i64 t236, .string t237, .string t238, .int .i64 t239, .int .i64 t240] 37 (0, 0)) (by (with_reducible repeat (first | refine blk_drewN ?_ _ | refine blk_drew ?_ | refine blk_alloc ?_ _)); exact BK231.out) hb); have n2_ := Aside0.mk (below_step (by repeat (first | (with_reducible first | exact HB.out | apply below_alloc | apply pw_below_drewN | apply below_drew1 | refine below_set ?_ GE231.out) | exact HB.out)) hb); clear HO_0; clear BK231; clear HB; have HO_0 := n0_; have BK231 := n1_; have HB := n2_; clear n0_ n1_ n2_; (try clear hb); (try clear hb2); (try clear hk); (try clear hi)))
                  all_goals (first | (go_ret; exact ⟨by first | rfl | (simp [errW_none, errW_some] <;> rfl) | (simp [*, errW_none, errW_some] <;> rfl) | (simp_all; done) | fail, by repeat (first | (with_reducible first | exact HB.out | apply below_alloc | apply pw_below_drewN | apply below_drew1 | refine below_set ?_ GE231.out) | exact HB.out)⟩) | (exfalso; simp_all; done) | (exfalso; simp only [isEmpty_eq, isEmpty_ne] at *; simp_all; done) | (exfalso; exact isEmpty_clash (by assumption) (by assumption)) | (exfalso; exact isEmpty_clash' (by assumption) (by assumption)) | (exfalso; exact isEmpty_clash2 (by assumption) (by assumption)))
              · rw [if_neg c25] at H
                have c25b0 : (t243 == 0) = false := beq_eq_false_iff_ne.mpr c25
                have c25b1 : (t243 != 0) = true := bne_iff_ne.mpr c25
                by_cases c31 : t241 = 0
                · rw [if_pos c31] at H
                  have c31b0 : (t241 == 0) = true := beq_iff_eq.mpr c31
                  have c31b1 : (t241 != 0) = false := bne_eq_false_iff_eq.mpr c31
                  clear c31
                  obtain rfl := Option.some.inj H
                  have hcz32_0 : wr.cell? ⟨gb231, 0, none⟩ = some (.int .i64 t236) := (blk_cell BK231.out 0).trans rfl
                  have hcz32_1 : wr.cell? ⟨gb231, 1, none⟩ = some (.string t237) := (blk_cell BK231.out 1).trans rfl
                  have hcz32_2 : wr.cell? ⟨gb231, 2, none⟩ = some (.string t238) := (blk_cell BK231.out 2).trans rfl
                  have hcz32_3 : wr.cell? ⟨gb231, 3, none⟩ = some (.int .i64 t239) := (blk_cell BK231.out 3).trans rfl
                  have hcz32_4 : wr.cell? ⟨gb231, 4, none⟩ = some (.int .i64 t240) := (blk_cell BK231.out 4).trans rfl
                  have hfz32_0 := blk_frozen BK231.out 0
                  have hfz32_1 := blk_frozen BK231.out 1
                  have hfz32_2 := blk_frozen BK231.out 2
                  have hfz32_3 := blk_frozen BK231.out 3
                  have hfz32_4 := blk_frozen BK231.out 4
                  go_wp2_with (first | (go_at_call 22; (with_reducible refine (eid_Right.calls t236 t237 t238 t239 t240 t248 _ A23.out).mono ?_); rintro e w33 ⟨rfl, hb⟩; have n0_ := Aside0.mk (Kd.R_below (by (with_reducible repeat (first | apply Kd.R_alloc | apply Kd.R_drewN | apply Kd.R_drew)); exact HO_0.out) hb); have n1_ := Aside0.mk (blk_below (g := gb231) (o := .cells #[.int .i64 t236, .string t237, .string t238, .int .i64 t239, .int .i64 t240] 37 (0, 0)) (by (with_reducible repeat (first | refine blk_drewN ?_ _ | refine blk_drew ?_ | refine blk_alloc ?_ _)); exact BK231.out) hb); have n2_ := Aside0.mk (below_step (by repeat (first | (with_reducible first | exact HB.out | apply below_alloc | apply pw_below_drewN | apply below_drew1 | refine below_set ?_ GE231.out) | exact HB.out)) hb); clear HO_0; clear BK231; clear HB; have HO_0 := n0_; have BK231 := n1_; have HB := n2_; clear n0_ n1_ n2_; (try clear hb); (try clear hb2); (try clear hk); (try clear hi)))
                  all_goals (first | (go_ret; exact ⟨by first | rfl | (simp [errW_none, errW_some] <;> rfl) | (simp [*, errW_none, errW_some] <;> rfl) | (simp_all; done) | fail, by repeat (first | (with_reducible first | exact HB.out | apply below_alloc | apply pw_below_drewN | apply below_drew1 | refine below_set ?_ GE231.out) | exact HB.out)⟩) | (exfalso; simp_all; done) | (exfalso; simp only [isEmpty_eq, isEmpty_ne] at *; simp_all; done) | (exfalso; exact isEmpty_clash (by assumption) (by assumption)) | (exfalso; exact isEmpty_clash' (by assumption) (by assumption)) | (exfalso; exact isEmpty_clash2 (by assumption) (by assumption)))
                · rw [if_neg c31] at H
                  have c31b0 : (t241 == 0) = false := beq_eq_false_iff_ne.mpr c31
                  have c31b1 : (t241 != 0) = true := bne_iff_ne.mpr c31
                  obtain rfl := Option.some.inj H
                  have hcz34_0 : wr.cell? ⟨gb231, 0, none⟩ = some (.int .i64 t236) := (blk_cell BK231.out 0).trans rfl
                  have hcz34_1 : wr.cell? ⟨gb231, 1, none⟩ = some (.string t237) := (blk_cell BK231.out 1).trans rfl
                  have hcz34_2 : wr.cell? ⟨gb231, 2, none⟩ = some (.string t238) := (blk_cell BK231.out 2).trans rfl
                  have hcz34_3 : wr.cell? ⟨gb231, 3, none⟩ = some (.int .i64 t239) := (blk_cell BK231.out 3).trans rfl
                  have hcz34_4 : wr.cell? ⟨gb231, 4, none⟩ = some (.int .i64 t240) := (blk_cell BK231.out 4).trans rfl
                  have hfz34_0 := blk_frozen BK231.out 0
                  have hfz34_1 := blk_frozen BK231.out 1
                  have hfz34_2 := blk_frozen BK231.out 2
                  have hfz34_3 := blk_frozen BK231.out 3
                  have hfz34_4 := blk_frozen BK231.out 4
                  go_wp2_with (first | (go_at_call 22; (with_reducible refine (eid_Right.calls t236 t237 t238 t239 t240 t248 _ A23.out).mono ?_); rintro e w35 ⟨rfl, hb⟩; have n0_ := Aside0.mk (Kd.R_below (by (with_reducible repeat (first | apply Kd.R_alloc | apply Kd.R_drewN | apply Kd.R_drew)); exact HO_0.out) hb); have n1_ := Aside0.mk (blk_below (g := gb231) (o := .cells #[.int .i64 t236, .string t237, .string t238, .int .i64 t239, .int .i64 t240] 37 (0, 0)) (by (with_reducible repeat (first | refine blk_drewN ?_ _ | refine blk_drew ?_ | refine blk_alloc ?_ _)); exact BK231.out) hb); have n2_ := Aside0.mk (below_step (by repeat (first | (with_reducible first | exact HB.out | apply below_alloc | apply pw_below_drewN | apply below_drew1 | refine below_set ?_ GE231.out) | exact HB.out)) hb); clear HO_0; clear BK231; clear HB; have HO_0 := n0_; have BK231 := n1_; have HB := n2_; clear n0_ n1_ n2_; (try clear hb); (try clear hb2); (try clear hk); (try clear hi)))
                  all_goals (first | (go_ret; exact ⟨by first | rfl | (simp [errW_none, errW_some] <;> rfl) | (simp [*, errW_none, errW_some] <;> rfl) | (simp_all; done) | fail, by repeat (first | (with_reducible first | exact HB.out | apply below_alloc | apply pw_below_drewN | apply below_drew1 | refine below_set ?_ GE231.out) | exact HB.out)⟩) | (exfalso; simp_all; done) | (exfalso; simp only [isEmpty_eq, isEmpty_ne] at *; simp_all; done) | (exfalso; exact isEmpty_clash (by assumption) (by assumption)) | (exfalso; exact isEmpty_clash' (by assumption) (by assumption)) | (exfalso; exact isEmpty_clash2 (by assumption) (by assumption)))
            · rw [if_neg c24] at H
              have c24b0 : ((t246 == 0) == t248) = false := by simpa using c24
              (try (have c24b1 : decide ((t246 == 0) = t248) = false := by simpa using c24))
              (try (have c24b2 : ((t246 == 0) == t248) = false := by simpa using c24))
              (try (have c24b3 : ¬ ((t246 == 0) = t248) := by simpa using c24))
              clear c24
              obtain rfl := Option.some.inj H
              have hcz36_0 : wr.cell? ⟨gb231, 0, none⟩ = some (.int .i64 t236) := (blk_cell BK231.out 0).trans rfl
              have hcz36_1 : wr.cell? ⟨gb231, 1, none⟩ = some (.string t237) := (blk_cell BK231.out 1).trans rfl
              have hcz36_2 : wr.cell? ⟨gb231, 2, none⟩ = some (.string t238) := (blk_cell BK231.out 2).trans rfl
              have hcz36_3 : wr.cell? ⟨gb231, 3, none⟩ = some (.int .i64 t239) := (blk_cell BK231.out 3).trans rfl
              have hcz36_4 : wr.cell? ⟨gb231, 4, none⟩ = some (.int .i64 t240) := (blk_cell BK231.out 4).trans rfl
              have hfz36_0 := blk_frozen BK231.out 0
              have hfz36_1 := blk_frozen BK231.out 1
              have hfz36_2 := blk_frozen BK231.out 2
              have hfz36_3 := blk_frozen BK231.out 3
              have hfz36_4 := blk_frozen BK231.out 4
              go_wp2_with (first | (go_at_call 22; (with_reducible refine (eid_Right.calls t236 t237 t238 t239 t240 t248 _ A23.out).mono ?_); rintro e w37 ⟨rfl, hb⟩; have n0_ := Aside0.mk (Kd.R_below (by (with_reducible repeat (first | apply Kd.R_alloc | apply Kd.R_drewN | apply Kd.R_drew)); exact HO_0.out) hb); have n1_ := Aside0.mk (blk_below (g := gb231) (o := .cells #[.int .i64 t236, .string t237, .string t238, .int .i64 t239, .int .i64 t240] 37 (0, 0)) (by (with_reducible repeat (first | refine blk_drewN ?_ _ | refine blk_drew ?_ | refine blk_alloc ?_ _)); exact BK231.out) hb); have n2_ := Aside0.mk (below_step (by repeat (first | (with_reducible first | exact HB.out | apply below_alloc | apply pw_below_drewN | apply below_drew1 | refine below_set ?_ GE231.out) | exact HB.out)) hb); clear HO_0; clear BK231; clear HB; have HO_0 := n0_; have BK231 := n1_; have HB := n2_; clear n0_ n1_ n2_; (try clear hb); (try clear hb2); (try clear hk); (try clear hi)))
              all_goals (first | (go_ret; exact ⟨by first | rfl | (simp [errW_none, errW_some] <;> rfl) | (simp [*, errW_none, errW_some] <;> rfl) | (simp_all; done) | fail, by repeat (first | (with_reducible first | exact HB.out | apply below_alloc | apply pw_below_drewN | apply below_drew1 | refine below_set ?_ GE231.out) | exact HB.out)⟩) | (exfalso; simp_all; done) | (exfalso; simp only [isEmpty_eq, isEmpty_ne] at *; simp_all; done) | (exfalso; exact isEmpty_clash (by assumption) (by assumption)) | (exfalso; exact isEmpty_clash' (by assumption) (by assumption)) | (exfalso; exact isEmpty_clash2 (by assumption) (by assumption)))
        · replace c21 := Bool.eq_false_iff.mpr c21
          subst c21
          have H1 : (some false) = some r := by rw [if_neg (show ¬ (false = true) by decide)] at H; exact H
          clear H
          have H := H1
          clear H1
          obtain rfl := Option.some.inj H
          go_wp2
          all_goals (first | (go_ret; exact ⟨by first | rfl | (simp [errW_none, errW_some] <;> rfl) | (simp [*, errW_none, errW_some] <;> rfl) | (simp_all; done) | fail, by repeat (first | (with_reducible first | exact HB.out | apply below_alloc | apply pw_below_drewN | apply below_drew1 | refine below_set ?_ GE231.out) | exact HB.out)⟩) | (exfalso; simp_all; done) | (exfalso; simp only [isEmpty_eq, isEmpty_ne] at *; simp_all; done) | (exfalso; exact isEmpty_clash (by assumption) (by assumption)) | (exfalso; exact isEmpty_clash' (by assumption) (by assumption)) | (exfalso; exact isEmpty_clash2 (by assumption) (by assumption)))
end Go.Proofs.YtaknknfcikdjiaaGreatDoor.RF
end
section
namespace Go.Proofs.YtaknknfcikdjiaaGreatDoor.Hand
open Go.RowKit Go.Proofs.YtaknknfcikdjiaaGreatDoorW Go.Proofs.YtaknknfcikdjiaaGreatDoorW.PrintWords Go.Proofs.YtaknknfcikdjiaaGreatDoor.SA Go.Proofs.YtaknknfcikdjiaaGreatDoor.RK Go.Proofs.YtaknknfcikdjiaaGreatDoor.RF
theorem RightE_is (n : Int) (a1 a2 : ByteArray) (a3 a4 : Int) (h1 : a1.size ≤ 21) (h2 : a2.size ≤ 21) : eid_Right.f n a1 a2 a3 a4 = some (rightS n a1 a2 a3 a4) := by
  unfold eid_Right.f
  rw [if_pos ⟨Nat.le_trans h1 (by decide), Nat.le_trans h2 (by decide)⟩]
theorem empty_from (l : List Rt) (at_ : Int) (ok : Bool) (e f : Int) (n : Int) (a1 a2 : ByteArray) (a3 a4 : Int) (h1 : a1.size ≤ 21) (h2 : a2.size ≤ 21) (hl : l.length ≤ 22)
    (hf : (f == 0) = rightS n a1 a2 a3 a4) (he : (e ≠ 0 → at_ = 0) ∧ (e = 0 → (l.any fun x => x.f0.toList == []) = true → ok = true)) :
    ∀ (d k i : Nat), l.length - i = d → i ≤ l.length → d < k → postriderlaw16_RouteEmpty.l0 k l true at_ ok e false f ((l.take i).any fun x => x.f0.toList == []) (i : Int) n a1 a2 a3 a4 = some true := by
  intro d
  induction d with
  | zero =>
    intro k i hd hi hk
    obtain ⟨k, rfl⟩ : ∃ m, k = m + 1 := ⟨k - 1, by omega⟩
    simp only [postriderlaw16_RouteEmpty.l0]
    rw [if_neg (by omega), if_pos trivial, if_neg (by simp), RightE_is n a1 a2 a3 a4 h1 h2]
    simp only [Option.bind_some]
    rw [if_pos (by rw [hf]; simp), List.take_of_length_le (by omega)]
    by_cases h0 : e = 0
    · rw [if_pos h0]
      cases hq : l.any fun x => x.f0.toList == [] with
      | true => rw [if_pos rfl, he.2 h0 hq]
      | false => rw [if_neg (by simp)]
    · rw [if_neg h0, if_pos (he.1 h0)]
  | succ d ih =>
    intro k i hd hi hk
    obtain ⟨k, rfl⟩ : ∃ m, k = m + 1 := ⟨k - 1, by omega⟩
    have hlt : i < l.length := by omega
    have ht : (l.take (i + 1)).any (fun x => x.f0.toList == []) = ((l.take i).any (fun x => x.f0.toList == []) || (l[i].f0.toList == [])) := by
      rw [List.take_succ_eq_append_getElem hlt, List.any_append]
      simp
    have hi' := ih k (i + 1) (by omega) (by omega) (by omega)
    rw [ht] at hi'
    simp only [postriderlaw16_RouteEmpty.l0]
    rw [if_pos (by omega), wrap_up i (by omega), rd_Rt hlt]
    cases hc : (l.take i).any fun x => x.f0.toList == [] with
    | true =>
      rw [hc, Bool.true_or] at hi'
      rw [if_pos rfl]
      exact hi'
    | false =>
      rw [hc, Bool.false_or] at hi'
      rw [if_neg (by simp), if_pos (by omega)]
      exact hi'
theorem routeEmpty_true (l0 : List Rt) (n : Int) (a1 a2 : ByteArray) (a3 a4 : Int) : postriderlaw16_RouteEmpty.f 100 l0 n a1 a2 a3 a4 = some true := by
  obtain ⟨b1, b2, hc, h1, h2⟩ := Cut_is n a1 a2 a3 a4
  have hl := cutR_len l0
  unfold postriderlaw16_RouteEmpty.f
  rw [shown_true, CutR_is l0 100 (by decide), hc]
  simp only [Option.bind_some]
  rw [Find_is _ n b1 b2 a3 a4 h1 h2, Find_is _ n b1 b2 a3 a4 h1 h2]
  simp only [Option.bind_some]
  generalize cutR l0 = l at *
  have hnil : findT [] n b1 b2 a3 a4 = (0, false, if rightS n b1 b2 a3 a4 = true then 0 else 60) := by
    unfold findT allT
    rw [if_pos (by decide)]
    cases rightS n b1 b2 a3 a4 with
    | true => rfl
    | false => rfl
  rw [hnil]
  have main := empty_from l (findT l n b1 b2 a3 a4).1 (findT l n b1 b2 a3 a4).2.1 (findT l n b1 b2 a3 a4).2.2 (if rightS n b1 b2 a3 a4 = true then 0 else 60) n b1 b2 a3 a4 h1 h2 hl (by cases rightS n b1 b2 a3 a4 <;> rfl) ?_ _ 100 0 rfl (Nat.zero_le _) (by omega)
  · exact main
  · unfold findT
    rcases all_cases l n b1 b2 a3 a4 with ⟨h, _⟩ | ⟨h, _⟩ | ⟨s, _, _, _, h⟩
    · rw [h]; exact ⟨fun _ => rfl, fun q => absurd q (by decide)⟩
    · rw [h]; exact ⟨fun _ => rfl, fun q => absurd q (by decide)⟩
    · rw [h]
      simp only
      cases hA : allP s.data.toList (pfx l) with
      | nil =>
        refine ⟨fun q => absurd rfl q, fun _ hq => ?_⟩
        obtain ⟨x, hx, hx2⟩ := List.any_eq_true.1 hq
        obtain ⟨i, hi, rfl⟩ := List.getElem_of_mem hx
        have hm : ((i : Int)) ∈ allP s.data.toList (pfx l) := place_is.2 ⟨by omega, by omega, by
          rw [rd_Rt hi]
          have : l[i].f0.toList = [] := by simpa using hx2
          rw [ByteArray.toList_eq] at this
          rw [this]
          rfl⟩
        rw [hA] at hm
        cases hm
      | cons a r => exact ⟨fun q => absurd rfl q, fun _ _ => rfl⟩
end Go.Proofs.YtaknknfcikdjiaaGreatDoor.Hand
end

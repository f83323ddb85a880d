/- Layer 6, by hand: eid.Join. -/
import Derived.Test.YtandbobinjhehaaDoorEidH
import Derived.Deep.DeepCutAuto
import Derived.Deep.CutBlock
import Derived.Laws.ResultCell
namespace Go.Proofs.YtandbobinjhehaaDoor.Hand
open Go.RowKit Go.Proofs.YtandbobinjhehaaDoor.SA Go.Proofs.YtandbobinjhehaaDoor.SB

/-- Are two texts a name's halves? -/
def isHalf (word rest : ByteArray) (x : Eid) : Bool := (halvesS x.s x.n x.v x.a x.b).2.2 == 0 && ((halvesS x.s x.n x.v x.a x.b).1.toList == word.toList && (halvesS x.s x.n x.v x.a x.b).2.1.toList == rest.toList)
def zeroEid : Eid := ⟨0, ⟨#[]⟩, ⟨#[]⟩, 0, 0⟩
/-- The name of two texts. -/
def joinS (word rest : ByteArray) : Option Eid := (cands word rest 3).find? (isHalf word rest)

def joinV : Option Eid → Value
  | some x => .tuple #[x.enc, .int .i64 0]
  | none => .tuple #[zeroEid.enc, .int .i64 60]

def eidCells (x : Eid) : Array Value := #[.int .i64 x.s, .string x.n, .string x.v, .int .i64 x.a, .int .i64 x.b]

attribute [local go_sem] Oper.semAt_some

theorem areAll3 (x y z : Bool) (g : Nat) (w : World) (h : w.heap[g]? = some (.cells #[.bool x, .bool y, .bool z] 4)) :
    Calls Tryd.prog 26 #[.slice (some ⟨g, 0, none⟩) 3 3] w fun e w' => e = .returned (.bool (x && (y && z))) ∧ Below w.heap.size w w' := by
  have hr : YtandbobinjhehaaDoorW.PrintWords.ReadsOf Value.bool false w (some ⟨g, 0, none⟩) 3 [x, y, z] := ⟨rfl, by decide, fun _ => ⟨_, rfl, fun j hj => by
    rw [YtandbobinjhehaaDoorW.PrintWords.add_plain, cell_blk h]
    rcases (show j = 0 ∨ j = 1 ∨ j = 2 by omega) with rfl | rfl | rfl <;> rfl⟩⟩
  have hc := YtandbobinjhehaaDoorW.PrintWords.Kd.C_of_reads (h1 := fun _ => rfl) hr
  refine (eid_areAll.calls 10 (some ⟨g, 0, none⟩) 3 [x, y, z] (x && (y && z)) w hc (Nat.le_refl _) ?_).mono fun _ _ h => ⟨h.1, h.2.below⟩
  rw [areAll_is _ _ (by simp) (by simp)]
  simp

theorem cands_size (word rest : ByteArray) (x : Eid) (h : x ∈ cands word rest 3) : x.n.size ≤ rest.size ∧ x.v.size ≤ rest.size := by
  have hp : (dtnParts rest).1.size ≤ rest.size ∧ (dtnParts rest).2.size ≤ rest.size := by
    unfold dtnParts
    have := cut_sizes (Lib.trimPrefix rest.data.toList [47, 47]) [47]
    have := trim_le rest
    simp only [txt_size]
    omega
  unfold cands at h
  simp only [List.mem_append] at h
  rcases h with h | h | h
  · split at h
    · simp only [List.mem_singleton] at h; subst h; exact ⟨Nat.zero_le _, Nat.zero_le _⟩
    · cases h
  · split at h
    · simp only [List.mem_singleton] at h; subst h; exact hp
    · cases h
  · split at h
    · simp only [List.mem_singleton] at h; subst h; exact ⟨Nat.zero_le _, Nat.zero_le _⟩
    · cases h

/-- What Join's own variables hold while no name was found. -/
def joinFr (word rest : ByteArray) (w W : World) : Prop :=
  Below w.heap.size w W ∧ W.heap[w.heap.size]? = some (.cells #[.string word] 9) ∧ W.heap[w.heap.size + 1]? = some (.cells #[.string rest] 9) ∧ W.heap[w.heap.size + 2]? = some (.cells (eidCells zeroEid) 23) ∧ W.heap[w.heap.size + 3]? = some (.cells #[.int .i64 0] 27)
def joinTo (word rest : ByteArray) (w W : World) : Prop :=
  Below w.heap.size w W ∧ ∃ x, joinS word rest = some x ∧ W.heap[w.heap.size + 2]? = some (.cells (eidCells x) 23) ∧ W.heap[w.heap.size + 3]? = some (.cells #[.int .i64 0] 27)

theorem joinFr_keep {word rest : ByteArray} {w A B : World} {B0 : Nat} (h : joinFr word rest w A) (hk : KeptX (fun _ => False) B0 A B) (h0 : w.heap.size ≤ B0) : joinFr word rest w B :=
  ⟨hk.below h.1 h0 (Nat.le_refl _) (fun _ _ => id), hk.blk h.2.1 id, hk.blk h.2.2.1 id, hk.blk h.2.2.2.1 id, hk.blk h.2.2.2.2 id⟩
theorem joinTo_keep {word rest : ByteArray} {w A B : World} {B0 : Nat} (h : joinTo word rest w A) (hk : KeptX (fun _ => False) B0 A B) (h0 : w.heap.size ≤ B0) : joinTo word rest w B := by
  obtain ⟨hb, x, hj, h2, h3⟩ := h
  exact ⟨hk.below hb h0 (Nat.le_refl _) (fun _ _ => id), x, hj, hk.blk h2 id, hk.blk h3 id⟩
theorem joinFr_below {word rest : ByteArray} {w A B : World} (h : joinFr word rest w A) (hb : Below A.heap.size A B) : joinFr word rest w B := joinFr_keep (B0 := w.heap.size) h ((KeptA.of_below hb).kx _) (Nat.le_refl _)

/-- The function's end: its two results are read where they lie, and the rounds' deferred calls are none. -/
theorem join_end (w W : World) (D : Nat) (x : Eid) (e : Int) (a : Act) (hd : a.defers = [{ target := .collected D, args := #[] }]) (h4 : a.tmps[4]? = some (.pointer (some ⟨w.heap.size + 1 + 1, 0, none⟩))) (h5 : a.tmps[5]? = some (.pointer (some ⟨w.heap.size + 1 + 1 + 1, 0, none⟩)))
    (h2 : W.heap[w.heap.size + 1 + 1]? = some (.cells (eidCells x) 23)) (h3 : W.heap[w.heap.size + 1 + 1 + 1]? = some (.cells #[.int .i64 e] 27)) (hD : W.heap[D]? = some (.deferred (some []))) (hDn : w.heap.size + 3 < D) (hb : Below w.heap.size w W) (v : Value) (hv : v = .tuple #[x.enc, .int .i64 e]) :
    bodyPostM Fence.wide 11 Tryd.prog Tryd.f13 (fun e w' => e = .returned v ∧ Below w.heap.size w w') .ret a W := by
  subst hv
  show LeavesInM Fence.wide 11 Tryd.prog Tryd.f13 a.tmps _ a.defers .returning W
  rw [hd]
  have hu := Tryd.underlying23
  have hb' : Below w.heap.size w (W.putObj D (.deferred none)) := hb.trans ⟨rfl, rfl, rfl, by simp, fun k hk => World.putObj_heap_other (by omega)⟩
  have g2 : (W.putObj D (.deferred none)).heap[w.heap.size + 1 + 1]? = some (.cells (eidCells x) 23) := (World.putObj_heap_other (by omega)).trans h2
  have g3 : (W.putObj D (.deferred none)).heap[w.heap.size + 1 + 1 + 1]? = some (.cells #[.int .i64 e] 27) := (World.putObj_heap_other (by omega)).trans h3
  refine ⟨by simp, .inl ⟨_, _, rfl, run_takeDeferred hD, ?_⟩⟩
  have c0 := cell_blk g2 0
  have c1 := cell_blk g2 1
  have c2 := cell_blk g2 2
  have c3 := cell_blk g2 3
  have c4 := cell_blk g2 4
  have d0 := cell_blk g3 0
  simp [eidCells] at c0 c1 c2 c3 c4 d0
  exact ⟨_, by simp [results, Tryd.f13, go_sem, Array.getD_eq_getD_getElem?, h4, h5, c0, c1, c2, c3, c4, d0, Eid.enc], rfl, hb'⟩

theorem set5 {W : World} {g : Nat} {t : TypeId} {y x : Eid} (h : W.heap[g]? = some (.cells (eidCells y) t)) :
    (((((W.setCell ⟨g, 0, none⟩ (.int .i64 x.s)).setCell ⟨g, 1, none⟩ (.string x.n)).setCell ⟨g, 2, none⟩ (.string x.v)).setCell ⟨g, 3, none⟩ (.int .i64 x.a)).setCell ⟨g, 4, none⟩ (.int .i64 x.b)).heap[g]? = some (.cells (eidCells x) t) :=
  YtandbobinjhehaaDoorW.PrintWords.blk_set (YtandbobinjhehaaDoorW.PrintWords.blk_set (YtandbobinjhehaaDoorW.PrintWords.blk_set (YtandbobinjhehaaDoorW.PrintWords.blk_set (YtandbobinjhehaaDoorW.PrintWords.blk_set h 0 _) 1 _) 2 _) 3 _) 4 _

theorem keepsOthers_below {A B : World} (h : Below A.heap.size A B) : KeepsOthers A B := ⟨h.size, fun _ _ hk _ => (h.block _ (Array.getElem?_eq_some_iff.1 hk).1).trans hk⟩
theorem keptR {n a b c k : Nat} (h1 : b = n + 6) (h2 : a = n + 4) (h3 : b ≤ c) (hk : k = a ∨ k = a + 1 ∨ k < NG) (h4 : 3 < n := by omega) : k < c := by
  rcases hk with rfl | rfl | hk
  · omega
  · omega
  · have : k < 4 := hk
    omega
theorem join_found {word rest : ByteArray} {pre : List Eid} {x : Eid} (hp : (pre ++ [x]) <+: cands word rest 3) (hn : ∀ z ∈ pre, isHalf word rest z = false) (hx : isHalf word rest x = true) : joinS word rest = some x := by
  obtain ⟨t, ht⟩ := hp
  unfold joinS
  rw [← ht, List.append_assoc, List.find?_append, List.find?_eq_none.2 (fun z hz => by rw [hn z hz]; decide)]
  simp [hx]

theorem alloc4 (w : World) (o0 o1 o2 o3 : Obj) : (((((w.alloc o0).alloc o1).alloc o2).alloc o3).heap.size = w.heap.size + 4) ∧ ((((w.alloc o0).alloc o1).alloc o2).alloc o3).heap[w.heap.size]? = some o0 ∧
    ((((w.alloc o0).alloc o1).alloc o2).alloc o3).heap[w.heap.size + 1]? = some o1 ∧ ((((w.alloc o0).alloc o1).alloc o2).alloc o3).heap[w.heap.size + 2]? = some o2 ∧ ((((w.alloc o0).alloc o1).alloc o2).alloc o3).heap[w.heap.size + 3]? = some o3 := by
  have h0 := World.alloc_heap_new w o0
  have h1 := World.alloc_heap_new (w.alloc o0) o1
  have h2 := World.alloc_heap_new ((w.alloc o0).alloc o1) o2
  have h3 := World.alloc_heap_new (((w.alloc o0).alloc o1).alloc o2) o3
  simp only [World.size_alloc] at h1 h2 h3
  refine ⟨by simp, ?_, ?_, ?_, h3⟩
  · exact YtandbobinjhehaaDoorW.PrintWords.blk_alloc (YtandbobinjhehaaDoorW.PrintWords.blk_alloc (YtandbobinjhehaaDoorW.PrintWords.blk_alloc h0 _) _) _
  · exact YtandbobinjhehaaDoorW.PrintWords.blk_alloc (YtandbobinjhehaaDoorW.PrintWords.blk_alloc h1 _) _
  · exact YtandbobinjhehaaDoorW.PrintWords.blk_alloc h2 _
theorem alloc2 (w : World) (o0 o1 : Obj) : (((w.alloc o0).alloc o1).heap.size = w.heap.size + 2) ∧ ((w.alloc o0).alloc o1).heap[w.heap.size]? = some o0 ∧ ((w.alloc o0).alloc o1).heap[w.heap.size + 1]? = some o1 := by
  have h0 := World.alloc_heap_new w o0
  have h1 := World.alloc_heap_new (w.alloc o0) o1
  simp only [World.size_alloc] at h1
  exact ⟨by simp, YtandbobinjhehaaDoorW.PrintWords.blk_alloc h0 _, h1⟩

set_option maxRecDepth 100000 in
set_option maxHeartbeats 4000000 in
theorem join_walk (word rest : ByteArray) (w : World) (hL : Laid w) (hr : rest.size < 4294967281) (h3 : 3 < w.heap.size) :
    Calls Tryd.prog 13 #[.string word, .string rest] w fun e w' =>
      e = .returned (joinV (joinS word rest)) ∧ Below w.heap.size w w' := by
  have hu := Tryd.underlying23
  have HL := Lib.hid hL
  clear hL
  refine (callsIn_wide (n := 11)).1 (callsIn_of_wp_marks Tryd.func13 rfl trivial (wpIn_wide.2 ?_) rfl)
  simp only [Tryd.ntmps13, List.size_toArray, List.length_cons, List.length_nil, Nat.reduceAdd, Nat.reduceSub, Array.replicate_succ, Array.replicate_zero, List.push_toArray, List.append_toArray, List.nil_append, List.cons_append]
  go_wp2_with (fail)
  obtain ⟨w1, hw1⟩ : ∃ w1, w1 = (((w.alloc (.cells #[.string word] 9)).alloc (.cells #[.string rest] 9)).alloc (.cells #[.int .i64 0, .string ⟨#[]⟩, .string ⟨#[]⟩, .int .i64 0, .int .i64 0] 23)).alloc (.cells #[.int .i64 0] 27) := ⟨_, rfl⟩
  have hb1 : Below w.heap.size w w1 := by rw [hw1]; exact b_alloc (b_alloc (b_alloc (b_alloc (Below.refl _ _) _) _) _) _
  obtain ⟨hs1, hz0, hz1, hz2, hz3⟩ := alloc4 w (.cells #[.string word] 9) (.cells #[.string rest] 9) (.cells #[.int .i64 0, .string ⟨#[]⟩, .string ⟨#[]⟩, .int .i64 0, .int .i64 0] 23) (.cells #[.int .i64 0] 27)
  rw [← hw1] at hs1 hz0 hz1 hz2 hz3
  rw [← hw1]
  clear hw1
  refine (readings_calls word rest w1).mono ?_
  rintro e w2' ⟨rfl, hw2⟩
  obtain ⟨hs2, hy0, hy1⟩ := alloc2 w1 (.cells #[.string word] 9) (.cells #[.string rest] 9)
  have hb2 : Below w1.heap.size w1 w2' := by rw [← hw2]; exact b_alloc (b_alloc (Below.refl _ _) _) _
  rw [hw2] at hs2 hy0 hy1
  clear hw2
  obtain ⟨w2, rfl⟩ : ∃ w2, w2 = w2' := ⟨_, rfl⟩
  have keep : ∀ (k : Nat) (o : Obj), w1.heap[k]? = some o → w2.heap[k]? = some o := fun k o h => (hb2.block _ (Array.getElem?_eq_some_iff.1 h).1).trans h
  have HZ0 := Lib.hid (keep _ _ hz0)
  have HZ1 := Lib.hid (keep _ _ hz1)
  have HZ2 := Lib.hid (keep _ _ hz2)
  have HZ3 := Lib.hid (keep _ _ hz3)
  have HB := Lib.hid (hb1.trans (hb2.mono hb1.size))
  have HL2 := Lib.hid (HL.out.below (hb1.trans (hb2.mono hb1.size)))
  have HY0 := Lib.hid hy0
  have HY1 := Lib.hid hy1
  have HS2 := Lib.hid (show w2.heap.size = w.heap.size + 6 by omega)
  have hS1 := Lib.hid hs1
  clear keep hz0 hz1 hz2 hz3 hb1 hb2 hy0 hy1 hs2 hs1
  go_wp2_with (fail)
  refine rangeFuncW (gf := 43) (lb := #[.pointer (some ⟨w1.heap.size, 0, none⟩), .pointer (some ⟨w1.heap.size + 1, 0, none⟩)]) rfl (Go.Proofs.enters_of Tryd.func43 (by kernel_rfl) rfl)
    (readings_iter word rest w1.heap.size (w1.heap.size + 1) w2 HL2.out hr HY0.out HY1.out (by have := HS2.out; omega)) (fun _ h => h.elim) ?hR (Below.refl _ _) (fun _ => rfl)
    (fun pre W => (∀ x ∈ pre, isHalf word rest x = false) ∧ joinFr word rest w W) (fun c _ W => c = .ret ∧ joinTo word rest w W)
    ?hI ?hIx ?h0 ?hround ?hdone ?hstop
  case hR =>
    have e1 := HS2.out
    have e2 := hS1.out
    rintro k (rfl | rfl | h)
    · omega
    · omega
    · have : k < 4 := h
      omega
  case hI => exact fun s A B hs hk => ⟨hs.1, joinFr_keep hs.2 hk (by have := HS2.out; omega)⟩
  case hIx => exact fun c s A B hs hk => ⟨hs.1, joinTo_keep hs.2 hk (by have := HS2.out; omega)⟩
  case h0 => exact ⟨(fun x hx => by cases hx), HB.out, HZ0.out, HZ1.out, HZ2.out, HZ3.out⟩
  case hround =>
    intro l pre x W K hlw hloop hi hpre hK
    obtain ⟨hno, hfr⟩ := hi
    have hxm : x ∈ cands word rest 3 := hpre.subset (by simp)
    obtain ⟨hxn, hxv⟩ := cands_size word rest x hxm
    have HK := Lib.hid hK
    have HFR := Lib.hid hfr
    have HNO := Lib.hid hno
    have HPRE := Lib.hid hpre
    clear hK hfr hno hpre hxm
    unfold Eid.enc
    dsimp only
    gi_wp2
    refine HK.out _ _ ((KeepsOthers.alloc _ _).from _) (fun k hk => Below.heap_alloc _ _ _ ?_) ?_
    · obtain ⟨r0, hr0⟩ := hloop
      have hl0 : l < W.heap.size := (Array.getElem?_eq_some_iff.1 hr0).1
      have e1 := HS2.out
      have e2 := hS1.out
      rcases hk with rfl | rfl | hk
      · omega
      · omega
      · have : k < 4 := hk
        omega
    · intro W1 hkx hl1 hsz1
      have hxb := hkx.blk (World.alloc_heap_new W (.cells #[.int .i64 x.s, .string x.n, .string x.v, .int .i64 x.a, .int .i64 x.b] 23)) id
      have hfr1 := joinFr_keep (joinFr_below HFR.out (b_alloc (Below.refl _ _) _)) hkx (by have := HS2.out; omega)
      have hxlt : W.heap.size < W1.heap.size := (Array.getElem?_eq_some_iff.1 hxb).1
      have x0 : W1.cell? ⟨W.heap.size, 0, none⟩ = some (.int .i64 x.s) := cell_blk hxb 0
      have x1 : W1.cell? ⟨W.heap.size, 1, none⟩ = some (.string x.n) := cell_blk hxb 1
      have x2 : W1.cell? ⟨W.heap.size, 2, none⟩ = some (.string x.v) := cell_blk hxb 2
      have x3 : W1.cell? ⟨W.heap.size, 3, none⟩ = some (.int .i64 x.a) := cell_blk hxb 3
      have x4 : W1.cell? ⟨W.heap.size, 4, none⟩ = some (.int .i64 x.b) := cell_blk hxb 4
      have HXB := Lib.hid hxb
      have HF1 := Lib.hid hfr1
      clear hxb hfr1 hkx hl1
      obtain ⟨y1, y2, y3, hy⟩ : ∃ y1 y2 y3, halvesS x.s x.n x.v x.a x.b = (y1, y2, y3) := ⟨_, _, _, rfl⟩
      have HYY := Lib.hid hy
      clear hy
      gi_wp2_with (fail)
      refine ⟨trivial, (CallsIn.inRound l (callsIn_wide.2 (eid_Halves.calls x.s x.n x.v x.a x.b y1 y2 y3 W1 (HL.out.below HF1.out.1) ?_))).mono ?_⟩
      · unfold eid_Halves.f
        rw [if_pos ⟨by unfold maxLen; omega, by unfold maxLen; omega⟩, HYY.out]
      · rintro e w4 ⟨rfl, hb4⟩
        have hfr4 := joinFr_below HF1.out hb4
        have hxb4 := (hb4.block _ hxlt).trans HXB.out
        have hw0 : w4.cell? ⟨w.heap.size, 0, none⟩ = some (.string word) := cell_blk hfr4.2.1 0
        have hw1 : w4.cell? ⟨w.heap.size + 1, 0, none⟩ = some (.string rest) := cell_blk hfr4.2.2.1 0
        have HF4 := Lib.hid hfr4
        have HX4 := Lib.hid hxb4
        have HB4 := Lib.hid hb4
        clear hfr4 hxb4 hb4
        gi_wp2_with (fail)
        refine ⟨trivial, (CallsIn.inRound l (callsIn_wide.2 (areAll3 (y3 == 0) (y1.toList == word.toList) (y2.toList == rest.toList) w4.heap.size _ (World.alloc_heap_new _ _)))).mono ?_⟩
        rintro e w5 ⟨rfl, hb5⟩
        have hb45 : Below w4.heap.size w4 w5 := (b_alloc (Below.refl _ _) _).trans (hb5.mono (by simp))
        have hfr5 := joinFr_below HF4.out hb45
        have hxlt4 : W.heap.size < w4.heap.size := (Array.getElem?_eq_some_iff.1 HX4.out).1
        have hxb5 := (hb45.block _ hxlt4).trans HX4.out
        have hb15 : Below W1.heap.size W1 w5 := HB4.out.trans (hb45.mono HB4.out.size)
        have hval : (y3 == 0 && (y1.toList == word.toList && y2.toList == rest.toList)) = isHalf word rest x := by unfold isHalf; rw [HYY.out]
        rw [hval]
        have HF5 := Lib.hid hfr5
        have HX5 := Lib.hid hxb5
        have HB15 := Lib.hid hb15
        clear hb5 hb45 hfr5 hxb5 hb15 hval hw0 hw1 x0 x1 x2 x3 x4
        cases hh : isHalf word rest x with
        | false =>
          have HH := Lib.hid hh
          clear hh
          gi_wp2
          exact ⟨(keepsOthers_below HB15.out).from _, fun k hk => HB15.out.block k (keptR HS2.out hS1.out hsz1 hk), fun z hz => by
            rcases List.mem_append.1 hz with hz | hz
            · exact HNO.out z hz
            · rw [List.mem_singleton.1 hz]; exact HH.out, HF5.out⟩
        | true =>
          have HH := Lib.hid hh
          clear hh
          have g0 : w5.cell? ⟨W.heap.size, 0, none⟩ = some (.int .i64 x.s) := cell_blk HX5.out 0
          have g1 : w5.cell? ⟨W.heap.size, 1, none⟩ = some (.string x.n) := cell_blk HX5.out 1
          have g2 : w5.cell? ⟨W.heap.size, 2, none⟩ = some (.string x.v) := cell_blk HX5.out 2
          have g3 : w5.cell? ⟨W.heap.size, 3, none⟩ = some (.int .i64 x.a) := cell_blk HX5.out 3
          have g4 : w5.cell? ⟨W.heap.size, 4, none⟩ = some (.int .i64 x.b) := cell_blk HX5.out 4
          gi_wp2_with (fail)
          refine ⟨trivial, (CallsIn.inRound l (callsIn_wide.2 (api_Eid.calls x.s x.n x.v x.a x.b true x.s x.n x.v x.a x.b 0 _ (by unfold api_Eid.f; rw [if_pos rfl])))).mono ?_⟩
          rintro e w6 ⟨rfl, hb6⟩
          have hfr6 := joinFr_below HF5.out hb6
          have k2 : w6.heap[w.heap.size + 1 + 1]? = some (.cells (eidCells zeroEid) 23) := hfr6.2.2.2.1
          have k3 : w6.heap[w.heap.size + 1 + 1 + 1]? = some (.cells #[.int .i64 0] 27) := hfr6.2.2.2.2
          have c0 : w6.cell? ⟨w.heap.size + 1 + 1, 0, none⟩ = some (.int .i64 0) := cell_blk k2 0
          have c1 : w6.cell? ⟨w.heap.size + 1 + 1, 1, none⟩ = some (.string ⟨#[]⟩) := cell_blk k2 1
          have c2 : w6.cell? ⟨w.heap.size + 1 + 1, 2, none⟩ = some (.string ⟨#[]⟩) := cell_blk k2 2
          have c3 : w6.cell? ⟨w.heap.size + 1 + 1, 3, none⟩ = some (.int .i64 0) := cell_blk k2 3
          have c4 : w6.cell? ⟨w.heap.size + 1 + 1, 4, none⟩ = some (.int .i64 0) := cell_blk k2 4
          have d0 : w6.cell? ⟨w.heap.size + 1 + 1 + 1, 0, none⟩ = some (.int .i64 0) := cell_blk k3 0
          have f0 : ∀ j, w6.frozen? ⟨w.heap.size + 1 + 1, j, none⟩ = false := fun j => frozen_blk k2 j
          have f1 : w6.frozen? ⟨w.heap.size + 1 + 1 + 1, 0, none⟩ = false := frozen_blk k3 0
          have HK2 := Lib.hid k2
          have HK3 := Lib.hid k3
          have HF6 := Lib.hid hfr6
          have HB6 := Lib.hid hb6
          clear k2 k3 hfr6 hb6 g0 g1 g2 g3 g4
          gi_wp2
          refine ⟨?_, rfl, ?_, x, ?_, ?_, ?_⟩
          · have hk : KeepsOthers W1 w6 := (keepsOthers_below HB15.out).trans (keepsOthers_below HB6.out)
            exact ((((((hk.trans (KeepsOthers.setCell _ _ _)).trans (KeepsOthers.setCell _ _ _)).trans (KeepsOthers.setCell _ _ _)).trans (KeepsOthers.setCell _ _ _)).trans (KeepsOthers.setCell _ _ _)).trans (KeepsOthers.setCell _ _ _)).from _
          · iterate 6 refine Below.setCell ?_ (by simp; omega) _
            exact HF6.out.1
          · exact join_found HPRE.out HNO.out HH.out
          · exact (Below.heap_setCell _ _ _ _ (by simp)).trans (set5 (x := x) HK2.out)
          · refine YtandbobinjhehaaDoorW.PrintWords.blk_set (?_ : _ = some (Obj.cells #[.int .i64 0] 27)) 0 _
            iterate 5 refine (Below.heap_setCell _ _ _ _ (by simp)).trans ?_
            exact HK3.out
  case hdone =>
    intro D W hD hi hd
    obtain ⟨hno, hb, hf0, hf1, hf2, hf3⟩ := hi
    have hj : joinS word rest = none := List.find?_eq_none.2 fun x hx => by rw [hno x hx]; decide
    have HD := Lib.hid hd
    have HBB := Lib.hid hb
    have HF2 := Lib.hid hf2
    have HF3 := Lib.hid hf3
    have HJN := Lib.hid hj
    have hs2 := HS2.out
    have hn2 : w.heap.size + 2 < W.heap.size := (Array.getElem?_eq_some_iff.1 hf2).1
    have hn3 : w.heap.size + 3 < W.heap.size := (Array.getElem?_eq_some_iff.1 hf3).1
    have hDW : D < W.heap.size := (Array.getElem?_eq_some_iff.1 hd).1
    have hDn : w.heap.size + 3 < D := by omega
    clear hd hb hf0 hf1 hf2 hf3 hno hj hs2 hD
    go_wp2_with (fail)
    refine (api_Eid.calls 0 ⟨#[]⟩ ⟨#[]⟩ 0 0 false 0 ⟨#[]⟩ ⟨#[]⟩ 0 0 60 _ (by unfold api_Eid.f; rw [if_neg (by decide)])).mono ?_
    rintro e w5 ⟨rfl, hb5⟩
    have k2 : w5.heap[w.heap.size + 1 + 1]? = some (.cells (eidCells zeroEid) 23) := (hb5.block _ hn2).trans HF2.out
    have k3 : w5.heap[w.heap.size + 1 + 1 + 1]? = some (.cells #[.int .i64 0] 27) := (hb5.block _ hn3).trans HF3.out
    have hD5 : w5.heap[D]? = some (.deferred (some [])) := (hb5.block _ hDW).trans HD.out
    have c0 : w5.cell? ⟨w.heap.size + 1 + 1, 0, none⟩ = some (.int .i64 0) := cell_blk k2 0
    have c1 : w5.cell? ⟨w.heap.size + 1 + 1, 1, none⟩ = some (.string ⟨#[]⟩) := cell_blk k2 1
    have c2 : w5.cell? ⟨w.heap.size + 1 + 1, 2, none⟩ = some (.string ⟨#[]⟩) := cell_blk k2 2
    have c3 : w5.cell? ⟨w.heap.size + 1 + 1, 3, none⟩ = some (.int .i64 0) := cell_blk k2 3
    have c4 : w5.cell? ⟨w.heap.size + 1 + 1, 4, none⟩ = some (.int .i64 0) := cell_blk k2 4
    have d0 : w5.cell? ⟨w.heap.size + 1 + 1 + 1, 0, none⟩ = some (.int .i64 0) := cell_blk k3 0
    have f0 : ∀ j, w5.frozen? ⟨w.heap.size + 1 + 1, j, none⟩ = false := fun j => frozen_blk k2 j
    have f1 : w5.frozen? ⟨w.heap.size + 1 + 1 + 1, 0, none⟩ = false := frozen_blk k3 0
    have HK2 := Lib.hid k2
    have HK3 := Lib.hid k3
    have HD5 := Lib.hid hD5
    have HB5 := Lib.hid hb5
    clear k2 k3 hD5 hb5
    go_wp2
    refine join_end w _ D zeroEid 60 _ rfl rfl rfl ?_ ?_ ?_ hDn ?_ _ (by rw [HJN.out]; rfl)
    · exact (Below.heap_setCell _ _ _ _ (by simp)).trans (set5 (x := zeroEid) HK2.out)
    · refine YtandbobinjhehaaDoorW.PrintWords.blk_set (?_ : _ = some (Obj.cells #[.int .i64 0] 27)) 0 _
      iterate 5 refine (Below.heap_setCell _ _ _ _ (by simp)).trans ?_
      exact HK3.out
    · iterate 6 refine (Below.heap_setCell _ _ _ _ (by simp; omega)).trans ?_
      exact HD5.out
    · have hbw := HBB.out.trans (HB5.out.mono HBB.out.size)
      iterate 6 refine Below.setCell ?_ (by simp; omega) _
      exact hbw
  case hstop =>
    intro D c pre W hD hp hx hd
    obtain ⟨rfl, hb, x, hj, hf2, hf3⟩ := hx
    have HJN := Lib.hid hj
    have hs2 := HS2.out
    have hDn : w.heap.size + 3 < D := by omega
    clear hj hs2 hD
    go_wp2
    exact join_end w W D x 0 _ rfl rfl rfl hf2 hf3 hd hDn hb _ (by rw [HJN.out]; rfl)

end Go.Proofs.YtandbobinjhehaaDoor.Hand

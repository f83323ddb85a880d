/- Layer 6, by hand: the iterator over the names that two texts may be halves of. -/
import Derived.Test.YtandbobinjhehaaDoorEidG
import Derived.Test.YtandbobinjhehaaDoorEidB
import Derived.Test.YtandbobinjhehaaDoorEidC
import Derived.Test.YtandbobinjhehaaDoorIter
import Derived.Outline
import Derived.WalkMore
import Derived.Deep.DeepCutAuto
import Derived.Deep.CutBlock
namespace Go.Proofs.YtandbobinjhehaaDoor.Hand
open Go.RowKit Go.Proofs.YtandbobinjhehaaDoor.SA Go.Proofs.YtandbobinjhehaaDoor.SB

structure Eid where
  s : Int
  n : ByteArray
  v : ByteArray
  a : Int
  b : Int

def Eid.enc (x : Eid) : Value := .agg #[.int .i64 x.s, .string x.n, .string x.v, .int .i64 x.a, .int .i64 x.b]

/-- The names that are tried up to scheme k. -/
def cands (word rest : ByteArray) (k : Nat) : List Eid :=
  (if 0 < k ∧ word.toList = [100, 116, 110] then [⟨0, ⟨#[]⟩, ⟨#[]⟩, 0, 0⟩] else []) ++ ((if 1 < k ∧ word.toList = [100, 116, 110] then [⟨1, (dtnParts rest).1, (dtnParts rest).2, 0, 0⟩] else []) ++
    (if 2 < k ∧ word.toList = [105, 112, 110] then [⟨2, ⟨#[]⟩, ⟨#[]⟩, (ipnParts rest).1, (ipnParts rest).2⟩] else []))

set_option maxRecDepth 100000 in
theorem readings_calls (word rest : ByteArray) (w : World) :
    Calls Tryd.prog 25 #[.string word, .string rest] w fun e w' =>
      e = .returned (.func (.func 43) #[] #[.pointer (some ⟨w.heap.size, 0, none⟩), .pointer (some ⟨w.heap.size + 1, 0, none⟩)]) ∧ (w.alloc (.cells #[.string word] 9)).alloc (.cells #[.string rest] 9) = w' := by
  go_enter Tryd.func25, Tryd.ntmps25
  go_wp2
  go_ret
  exact ⟨rfl, rfl⟩

attribute [local go_sem] Oper.semAt_some

theorem rounds_keep0 {word rest : ByteArray} {b1 b2 g : Nat} {wr w3 : World} (h1 : Hid (wr.heap[g]? = some (.map schs 3))) (h2 : Hid (wr.heap[b1]? = some (.cells #[.string word] 9))) (h3 : Hid (wr.heap[b2]? = some (.cells #[.string rest] 9))) (h4 : Hid (Laid wr)) (hb : Below wr.heap.size wr w3) :
    Hid (w3.heap[g]? = some (.map schs 3)) ∧ Hid (w3.heap[b1]? = some (.cells #[.string word] 9)) ∧ Hid (w3.heap[b2]? = some (.cells #[.string rest] 9)) ∧ Hid (Laid w3) := by
  have k : ∀ (j : Nat) (o : Obj), wr.heap[j]? = some o → w3.heap[j]? = some o := fun j o h => (hb.block _ (Array.getElem?_eq_some_iff.1 h).1).trans h
  exact ⟨k _ _ h1.out, k _ _ h2.out, k _ _ h3.out, h4.out.below hb⟩
theorem rounds_keep {word rest : ByteArray} {b1 b2 g : Nat} {wr w3 W' : World} (h1 : Hid (wr.heap[g]? = some (.map schs 3))) (h2 : Hid (wr.heap[b1]? = some (.cells #[.string word] 9))) (h3 : Hid (wr.heap[b2]? = some (.cells #[.string rest] 9))) (h4 : Hid (Laid wr)) (hb : Below wr.heap.size wr w3)
    (hs : SameX (fun k => k = b1 ∨ k = b2 ∨ k < NG) w3 W') (hk : KeepsFrom g w3 W') :
    Hid (W'.heap[g]? = some (.map schs 3)) ∧ Hid (W'.heap[b1]? = some (.cells #[.string word] 9)) ∧ Hid (W'.heap[b2]? = some (.cells #[.string rest] 9)) ∧ Hid (Laid W') := by
  obtain ⟨a1, a2, a3, a4⟩ := rounds_keep0 h1 h2 h3 h4 hb
  exact ⟨hk.same _ _ (Nat.le_refl _) a1.out rfl, (hs _ (.inl rfl)).trans a2.out, (hs _ (.inr (.inl rfl))).trans a3.out, a4.out.same fun k hk => hs _ (.inr (.inr hk))⟩

set_option maxRecDepth 100000 in
set_option maxHeartbeats 4000000 in
theorem readings_iter (word rest : ByteArray) (b1 b2 : Nat) (w0 : World) (hL : Laid w0) (hr : rest.size < 4294967281) (h1 : w0.heap[b1]? = some (.cells #[.string word] 9)) (h2 : w0.heap[b2]? = some (.cells #[.string rest] 9)) (h3 : 3 < w0.heap.size) :
    IterX Tryd.prog 43 #[.pointer (some ⟨b1, 0, none⟩), .pointer (some ⟨b2, 0, none⟩)] (fun x => #[Eid.enc x]) (fun _ => False) (fun k => k = b1 ∨ k = b2 ∨ k < NG) (cands word rest 3) w0 := by
  intro l J Jx W hW hJ hJx hY h0
  have hlt1 : b1 < w0.heap.size := (Array.getElem?_eq_some_iff.1 h1).1
  have hlt2 : b2 < w0.heap.size := (Array.getElem?_eq_some_iff.1 h2).1
  have hLW := hL.below hW
  have hbW1 := (hW.block _ hlt1).trans h1
  have hbW2 := (hW.block _ hlt2).trans h2
  have hsW : 3 < W.heap.size := Nat.lt_of_lt_of_le h3 hW.size
  have HJ := Lib.hid hJ
  have HJx := Lib.hid hJx
  have HY := Lib.hid hY
  have HLW := Lib.hid hLW
  have HB1 := Lib.hid hbW1
  have HB2 := Lib.hid hbW2
  have H0 := Lib.hid h0
  clear hL h1 h2 hW hJ hJx hY hLW hbW1 hbW2 h0 hlt1 hlt2 h3
  refine (callsIn_wide (n := 10)).2 ?_
  simp only [List.append_toArray, List.cons_append, List.nil_append]
  go_enter Tryd.func43, Tryd.ntmps43
  go_wp2
  go_step3
  go_wp2_with (go_at_call 23; refine (schemes_calls _).mono ?_; rintro e w' ⟨rfl, rfl⟩)
  go_step3
  go_wp2_with (fail)
  obtain ⟨w1, hw1⟩ : ∃ w1, w1 = W.alloc (.map schs 3) := ⟨_, rfl⟩
  have hb : Below W.heap.size W w1 := by rw [hw1]; exact b_alloc (Below.refl _ _) _
  have hm : w1.heap[W.heap.size]? = some (.map schs 3) := by rw [hw1]; exact World.alloc_heap_new _ _
  rw [← hw1]
  clear hw1
  have HJ1 := Lib.hid (HJ.out _ _ _ H0.out (KeptA.of_below hb))
  have HL1 := Lib.hid (HLW.out.below hb)
  have hb1' := (hb.block _ (Array.getElem?_eq_some_iff.1 HB1.out).1).trans HB1.out
  have hb2' := (hb.block _ (Array.getElem?_eq_some_iff.1 HB2.out).1).trans HB2.out
  have HM := Lib.hid hm
  have HB1' := Lib.hid hb1'
  have HB2' := Lib.hid hb2'
  clear hb hm hb1' hb2' H0
  go_loopw [9] (fun i wr => ∃ k : Nat, k ≤ 3 ∧ i = .int .i64 k ∧ Hid (J (cands word rest k) wr) ∧ Hid (wr.heap[W.heap.size]? = some (.map schs 3)) ∧ Hid (wr.heap[b1]? = some (.cells #[.string word] 9)) ∧ Hid (wr.heap[b2]? = some (.cells #[.string rest] 9)) ∧ Hid (Laid wr)) (fun i _ => 3 - (intOf i).toNat)
  case atStart => exact ⟨0, by omega, rfl, HJ1, HM, HB1', HB2', HL1⟩
  case round =>
    obtain ⟨k, hk, rfl, HJr, HMr, HBr1, HBr2, HLr⟩ := hrel
    clear HB1 HB2 HJ1 HM HB1' HB2' HL1 HLW
    have hm1 : b1 < wr.heap.size := (Array.getElem?_eq_some_iff.1 HBr1.out).1
    have hm2 : b2 < wr.heap.size := (Array.getElem?_eq_some_iff.1 HBr2.out).1
    have q1 : wr.cell? ⟨b1, 0, none⟩ = some (.string word) := (cell_blk HBr1.out 0).trans rfl
    have q2 : wr.cell? ⟨b2, 0, none⟩ = some (.string rest) := (cell_blk HBr2.out 0).trans rfl
    rcases (show k = 0 ∨ k = 1 ∨ k = 2 ∨ k = 3 by omega) with rfl | rfl | rfl | rfl
    · have hl := look_some (n := 0) (wd := wDtn) (by rw [schAt, if_pos rfl]; rfl) false wr W.heap.size HMr.out
      simp only [schOf, Bool.false_eq_true, if_false] at hl
      by_cases hw : word.toList = [100, 116, 110]
      · have t1 : ([100, 116, 110] == word.toList) = true := by rw [hw]; decide
        have t2 : ([100, 116, 110] != word.toList) = false := by rw [hw]; decide
        have HP := Lib.hid (show cands word rest 0 ++ [⟨0, ⟨#[]⟩, ⟨#[]⟩, 0, 0⟩] <+: cands word rest 3 by simp [cands, hw])
        have HN := Lib.hid (show cands word rest 0 ++ [⟨0, ⟨#[]⟩, ⟨#[]⟩, 0, 0⟩] = cands word rest 1 by simp [cands, hw])
        clear hw
        unfold wDtn at hl
        go_wp2_with (fail)
        have hbb0 : Below wr.heap.size wr ((wr.alloc (.cells #[.string ⟨#[100, 116, 110]⟩, .func (.func 33) #[] #[], .func (.func 34) #[] #[], .func (.func 35) #[] #[]] 43)).alloc (.cells #[.int .i64 0, .string ⟨#[]⟩, .string ⟨#[]⟩, .int .i64 0, .int .i64 0] 63)) := b_alloc (b_alloc (Below.refl _ _) _) _
        have hpb0 : ((wr.alloc (.cells #[.string ⟨#[100, 116, 110]⟩, .func (.func 33) #[] #[], .func (.func 34) #[] #[], .func (.func 35) #[] #[]] 43)).alloc (.cells #[.int .i64 0, .string ⟨#[]⟩, .string ⟨#[]⟩, .int .i64 0, .int .i64 0] 63)).heap[wr.heap.size + 1]? = some (.cells #[.int .i64 0, .string ⟨#[]⟩, .string ⟨#[]⟩, .int .i64 0, .int .i64 0] 63) := by
          have := World.alloc_heap_new (wr.alloc (.cells #[.string ⟨#[100, 116, 110]⟩, .func (.func 33) #[] #[], .func (.func 34) #[] #[], .func (.func 35) #[] #[]] 43)) (.cells #[.int .i64 0, .string ⟨#[]⟩, .string ⟨#[]⟩, .int .i64 0, .int .i64 0] 63)
          rwa [World.size_alloc] at this
        obtain ⟨w2, hw2⟩ : ∃ w2, w2 = ((wr.alloc (.cells #[.string ⟨#[100, 116, 110]⟩, .func (.func 33) #[] #[], .func (.func 34) #[] #[], .func (.func 35) #[] #[]] 43)).alloc (.cells #[.int .i64 0, .string ⟨#[]⟩, .string ⟨#[]⟩, .int .i64 0, .int .i64 0] 63)) := ⟨_, rfl⟩
        have hsz : w2.heap.size = wr.heap.size + 2 := by rw [hw2]; simp
        rw [← hw2] at hbb0 hpb0
        rw [← hw2]
        clear hw2
        have HPB := Lib.hid hpb0
        have HBB0 := Lib.hid hbb0
        have HL2 := Lib.hid (HLr.out.below hbb0)
        have hwr : 3 < wr.heap.size := by
          obtain ⟨_, _, ⟨_, _, h1⟩, ⟨_, _, h2⟩⟩ := HLr.out
          have := World.block_lt_of_cell? wr _ h2
          exact Nat.lt_of_le_of_lt (by decide) this
        refine (parse0_calls _ rest _).mono ?_
        rintro e w3 ⟨rfl, hb3⟩
        have hpb : w3.heap[wr.heap.size + 1]? = some (.cells #[.int .i64 0, .string ⟨#[]⟩, .string ⟨#[]⟩, .int .i64 0, .int .i64 0] 63) := (hb3.block _ (by rw [hsz]; omega)).trans HPB.out
        have hb3' : Below wr.heap.size wr w3 := HBB0.out.trans (hb3.mono (by rw [hsz]; omega))
        have p0 : w3.cell? ⟨wr.heap.size + 1, 0, none⟩ = some (.int .i64 0) := cell_blk hpb 0
        have p1 : w3.cell? ⟨wr.heap.size + 1, 1, none⟩ = some (.string ⟨#[]⟩) := cell_blk hpb 1
        have p2 : w3.cell? ⟨wr.heap.size + 1, 2, none⟩ = some (.string ⟨#[]⟩) := cell_blk hpb 2
        have p3 : w3.cell? ⟨wr.heap.size + 1, 3, none⟩ = some (.int .i64 0) := cell_blk hpb 3
        have p4 : w3.cell? ⟨wr.heap.size + 1, 4, none⟩ = some (.int .i64 0) := cell_blk hpb 4
        have HJ3 := Lib.hid (HJ.out _ _ _ HJr.out (KeptA.of_below hb3'))
        have HBB := Lib.hid hb3'
        obtain ⟨fn, tmps, assign, body, hy, hR⟩ := HY.out _ _ _ HJ3.out HP.out
        unfold Eid.enc at hy
        dsimp only at hy
        have HR := Lib.hid hR
        have hE1 : wr.heap.size ≤ w3.heap.size := hb3'.size
        have HS := Lib.hid hsz
        clear hb3 hpb hR hl q1 q2 t1 t2 hm1 hm2 hbb0 hpb0 hb3' hsz
        have HYY := Lib.hid hy
        clear hy
        go_upto_region 8 with (fail)
        refine (wpIn_wide (n := 10)).1 ?_
        have hy := HYY.out
        clear HYY
        gi_wp2
        refine HR.out.mono ?_
        rintro e W' (⟨rfl, hJ', hsame, hkf⟩ | ⟨rfl, hJx'⟩)
        · have HJ' := Lib.hid hJ'
          have HSame := Lib.hid hsame
          have HKF := Lib.hid hkf
          clear hJ' hsame hkf hy p0 p1 p2 p3 p4
          gi_wp2
          go_wp2
          go_roundw
          case rel => exact ⟨1, by omega, rfl, by rw [← HN.out]; exact HJ', rounds_keep HMr HBr1 HBr2 HLr HBB.out HSame.out HKF.out⟩
          case measure => simp [intOf]
        · have HJx' := Lib.hid hJx'
          clear hJx' hy p0 p1 p2 p3 p4
          gi_wp2
          go_wp2
          rw [show ∀ Q a w, Exit.noGoto Q .normal a w = Q .normal a w from fun _ _ _ => rfl]
          go_end0
          exact ⟨⟨_, rfl⟩, .inr ⟨_, HP.out, HJx'.out⟩⟩
      · have hne : ¬ [100, 116, 110] = word.toList := fun e => hw e.symm
        have t1 : ([100, 116, 110] == word.toList) = false := beq_eq_false_iff_ne.2 hne
        have t2 : ([100, 116, 110] != word.toList) = true := by rw [bne, t1]; rfl
        have HN := Lib.hid (show cands word rest 0 = cands word rest 1 by simp [cands, hw])
        unfold wDtn at hl
        clear hw hne
        go_wp2
        go_roundw
        case rel => exact ⟨1, by omega, rfl, by rw [← HN.out]; exact HJ.out _ _ _ HJr.out (KeptA.of_below (b_alloc (Below.refl _ _) _)), rounds_keep0 HMr HBr1 HBr2 HLr (b_alloc (Below.refl _ _) _)⟩
        case measure => simp [intOf]
    · have hl := look_some (n := 1) (wd := wDtn) (by rw [schAt, if_neg (by decide), if_pos rfl]; rfl) false wr W.heap.size HMr.out
      simp only [schOf, Bool.false_eq_true, if_false] at hl
      by_cases hw : word.toList = [100, 116, 110]
      · have t1 : ([100, 116, 110] == word.toList) = true := by rw [hw]; decide
        have t2 : ([100, 116, 110] != word.toList) = false := by rw [hw]; decide
        have HP := Lib.hid (show cands word rest 1 ++ [⟨1, (dtnParts rest).1, (dtnParts rest).2, 0, 0⟩] <+: cands word rest 3 by simp [cands, hw])
        have HN := Lib.hid (show cands word rest 1 ++ [⟨1, (dtnParts rest).1, (dtnParts rest).2, 0, 0⟩] = cands word rest 2 by simp [cands, hw])
        clear hw
        unfold wDtn at hl
        go_wp2_with (fail)
        have hbb0 : Below wr.heap.size wr ((wr.alloc (.cells #[.string ⟨#[100, 116, 110]⟩, .func (.func 36) #[] #[], .func (.func 37) #[] #[], .func (.func 38) #[] #[]] 43)).alloc (.cells #[.int .i64 1, .string ⟨#[]⟩, .string ⟨#[]⟩, .int .i64 0, .int .i64 0] 63)) := b_alloc (b_alloc (Below.refl _ _) _) _
        have hpb0 : ((wr.alloc (.cells #[.string ⟨#[100, 116, 110]⟩, .func (.func 36) #[] #[], .func (.func 37) #[] #[], .func (.func 38) #[] #[]] 43)).alloc (.cells #[.int .i64 1, .string ⟨#[]⟩, .string ⟨#[]⟩, .int .i64 0, .int .i64 0] 63)).heap[wr.heap.size + 1]? = some (.cells #[.int .i64 1, .string ⟨#[]⟩, .string ⟨#[]⟩, .int .i64 0, .int .i64 0] 63) := by
          have := World.alloc_heap_new (wr.alloc (.cells #[.string ⟨#[100, 116, 110]⟩, .func (.func 36) #[] #[], .func (.func 37) #[] #[], .func (.func 38) #[] #[]] 43)) (.cells #[.int .i64 1, .string ⟨#[]⟩, .string ⟨#[]⟩, .int .i64 0, .int .i64 0] 63)
          rwa [World.size_alloc] at this
        obtain ⟨w2, hw2⟩ : ∃ w2, w2 = ((wr.alloc (.cells #[.string ⟨#[100, 116, 110]⟩, .func (.func 36) #[] #[], .func (.func 37) #[] #[], .func (.func 38) #[] #[]] 43)).alloc (.cells #[.int .i64 1, .string ⟨#[]⟩, .string ⟨#[]⟩, .int .i64 0, .int .i64 0] 63)) := ⟨_, rfl⟩
        have hsz : w2.heap.size = wr.heap.size + 2 := by rw [hw2]; simp
        rw [← hw2] at hbb0 hpb0
        rw [← hw2]
        clear hw2
        have HPB := Lib.hid hpb0
        have HBB0 := Lib.hid hbb0
        have HL2 := Lib.hid (HLr.out.below hbb0)
        have hwr : 3 < wr.heap.size := by
          obtain ⟨_, _, ⟨_, _, h1⟩, ⟨_, _, h2⟩⟩ := HLr.out
          have := World.block_lt_of_cell? wr _ h2
          exact Nat.lt_of_le_of_lt (by decide) this
        refine (parse1_calls (wr.heap.size + 1) 1 ⟨#[]⟩ ⟨#[]⟩ 0 0 rest _ HL2.out hr HPB.out).mono ?_
        rintro e w3 ⟨rfl, hb3, hpb⟩
        have hb3' : Below wr.heap.size wr w3 := HBB0.out.trans (hb3.mono (by omega))
        have p0 : w3.cell? ⟨wr.heap.size + 1, 0, none⟩ = some (.int .i64 1) := cell_blk hpb 0
        have p1 : w3.cell? ⟨wr.heap.size + 1, 1, none⟩ = some (.string (dtnParts rest).1) := cell_blk hpb 1
        have p2 : w3.cell? ⟨wr.heap.size + 1, 2, none⟩ = some (.string (dtnParts rest).2) := cell_blk hpb 2
        have p3 : w3.cell? ⟨wr.heap.size + 1, 3, none⟩ = some (.int .i64 0) := cell_blk hpb 3
        have p4 : w3.cell? ⟨wr.heap.size + 1, 4, none⟩ = some (.int .i64 0) := cell_blk hpb 4
        have HJ3 := Lib.hid (HJ.out _ _ _ HJr.out (KeptA.of_below hb3'))
        have HBB := Lib.hid hb3'
        obtain ⟨fn, tmps, assign, body, hy, hR⟩ := HY.out _ _ _ HJ3.out HP.out
        unfold Eid.enc at hy
        dsimp only at hy
        have HR := Lib.hid hR
        have hE1 : wr.heap.size ≤ w3.heap.size := hb3'.size
        have HS := Lib.hid hsz
        clear hb3 hpb hR hl q1 q2 t1 t2 hm1 hm2 hbb0 hpb0 hb3' hsz
        have HYY := Lib.hid hy
        clear hy
        go_upto_region 8 with (fail)
        refine (wpIn_wide (n := 10)).1 ?_
        have hy := HYY.out
        clear HYY
        gi_wp2
        refine HR.out.mono ?_
        rintro e W' (⟨rfl, hJ', hsame, hkf⟩ | ⟨rfl, hJx'⟩)
        · have HJ' := Lib.hid hJ'
          have HSame := Lib.hid hsame
          have HKF := Lib.hid hkf
          clear hJ' hsame hkf hy p0 p1 p2 p3 p4
          gi_wp2
          go_wp2
          go_roundw
          case rel => exact ⟨2, by omega, rfl, by rw [← HN.out]; exact HJ', rounds_keep HMr HBr1 HBr2 HLr HBB.out HSame.out HKF.out⟩
          case measure => simp [intOf]
        · have HJx' := Lib.hid hJx'
          clear hJx' hy p0 p1 p2 p3 p4
          gi_wp2
          go_wp2
          rw [show ∀ Q a w, Exit.noGoto Q .normal a w = Q .normal a w from fun _ _ _ => rfl]
          go_end0
          exact ⟨⟨_, rfl⟩, .inr ⟨_, HP.out, HJx'.out⟩⟩
      · have hne : ¬ [100, 116, 110] = word.toList := fun e => hw e.symm
        have t1 : ([100, 116, 110] == word.toList) = false := beq_eq_false_iff_ne.2 hne
        have t2 : ([100, 116, 110] != word.toList) = true := by rw [bne, t1]; rfl
        have HN := Lib.hid (show cands word rest 1 = cands word rest 2 by simp [cands, hw])
        unfold wDtn at hl
        clear hw hne
        go_wp2
        go_roundw
        case rel => exact ⟨2, by omega, rfl, by rw [← HN.out]; exact HJ.out _ _ _ HJr.out (KeptA.of_below (b_alloc (Below.refl _ _) _)), rounds_keep0 HMr HBr1 HBr2 HLr (b_alloc (Below.refl _ _) _)⟩
        case measure => simp [intOf]
    · have hl := look_some (n := 2) (wd := wIpn) (by rw [schAt, if_neg (by decide), if_neg (by decide), if_pos rfl]; rfl) false wr W.heap.size HMr.out
      simp only [schOf, Bool.false_eq_true, if_false] at hl
      by_cases hw : word.toList = [105, 112, 110]
      · have t1 : ([105, 112, 110] == word.toList) = true := by rw [hw]; decide
        have t2 : ([105, 112, 110] != word.toList) = false := by rw [hw]; decide
        have HP := Lib.hid (show cands word rest 2 ++ [⟨2, ⟨#[]⟩, ⟨#[]⟩, (ipnParts rest).1, (ipnParts rest).2⟩] <+: cands word rest 3 by simp [cands, hw])
        have HN := Lib.hid (show cands word rest 2 ++ [⟨2, ⟨#[]⟩, ⟨#[]⟩, (ipnParts rest).1, (ipnParts rest).2⟩] = cands word rest 3 by simp [cands, hw])
        clear hw
        unfold wIpn at hl
        go_wp2_with (fail)
        have hbb0 : Below wr.heap.size wr ((wr.alloc (.cells #[.string ⟨#[105, 112, 110]⟩, .func (.func 39) #[] #[], .func (.func 40) #[] #[], .func (.func 42) #[] #[]] 43)).alloc (.cells #[.int .i64 2, .string ⟨#[]⟩, .string ⟨#[]⟩, .int .i64 0, .int .i64 0] 63)) := b_alloc (b_alloc (Below.refl _ _) _) _
        have hpb0 : ((wr.alloc (.cells #[.string ⟨#[105, 112, 110]⟩, .func (.func 39) #[] #[], .func (.func 40) #[] #[], .func (.func 42) #[] #[]] 43)).alloc (.cells #[.int .i64 2, .string ⟨#[]⟩, .string ⟨#[]⟩, .int .i64 0, .int .i64 0] 63)).heap[wr.heap.size + 1]? = some (.cells #[.int .i64 2, .string ⟨#[]⟩, .string ⟨#[]⟩, .int .i64 0, .int .i64 0] 63) := by
          have := World.alloc_heap_new (wr.alloc (.cells #[.string ⟨#[105, 112, 110]⟩, .func (.func 39) #[] #[], .func (.func 40) #[] #[], .func (.func 42) #[] #[]] 43)) (.cells #[.int .i64 2, .string ⟨#[]⟩, .string ⟨#[]⟩, .int .i64 0, .int .i64 0] 63)
          rwa [World.size_alloc] at this
        obtain ⟨w2, hw2⟩ : ∃ w2, w2 = ((wr.alloc (.cells #[.string ⟨#[105, 112, 110]⟩, .func (.func 39) #[] #[], .func (.func 40) #[] #[], .func (.func 42) #[] #[]] 43)).alloc (.cells #[.int .i64 2, .string ⟨#[]⟩, .string ⟨#[]⟩, .int .i64 0, .int .i64 0] 63)) := ⟨_, rfl⟩
        have hsz : w2.heap.size = wr.heap.size + 2 := by rw [hw2]; simp
        rw [← hw2] at hbb0 hpb0
        rw [← hw2]
        clear hw2
        have HPB := Lib.hid hpb0
        have HBB0 := Lib.hid hbb0
        have HL2 := Lib.hid (HLr.out.below hbb0)
        have hwr : 3 < wr.heap.size := by
          obtain ⟨_, _, ⟨_, _, h1⟩, ⟨_, _, h2⟩⟩ := HLr.out
          have := World.block_lt_of_cell? wr _ h2
          exact Nat.lt_of_le_of_lt (by decide) this
        refine (parse2_calls (wr.heap.size + 1) 2 ⟨#[]⟩ ⟨#[]⟩ 0 0 rest _ HL2.out hr HPB.out (by omega)).mono ?_
        rintro e w3 ⟨rfl, hb3, hpb⟩
        have hb3' : Below wr.heap.size wr w3 := HBB0.out.trans (hb3.mono (by omega))
        have p0 : w3.cell? ⟨wr.heap.size + 1, 0, none⟩ = some (.int .i64 2) := cell_blk hpb 0
        have p1 : w3.cell? ⟨wr.heap.size + 1, 1, none⟩ = some (.string ⟨#[]⟩) := cell_blk hpb 1
        have p2 : w3.cell? ⟨wr.heap.size + 1, 2, none⟩ = some (.string ⟨#[]⟩) := cell_blk hpb 2
        have p3 : w3.cell? ⟨wr.heap.size + 1, 3, none⟩ = some (.int .i64 (ipnParts rest).1) := cell_blk hpb 3
        have p4 : w3.cell? ⟨wr.heap.size + 1, 4, none⟩ = some (.int .i64 (ipnParts rest).2) := cell_blk hpb 4
        have HJ3 := Lib.hid (HJ.out _ _ _ HJr.out (KeptA.of_below hb3'))
        have HBB := Lib.hid hb3'
        obtain ⟨fn, tmps, assign, body, hy, hR⟩ := HY.out _ _ _ HJ3.out HP.out
        unfold Eid.enc at hy
        dsimp only at hy
        have HR := Lib.hid hR
        have hE1 : wr.heap.size ≤ w3.heap.size := hb3'.size
        have HS := Lib.hid hsz
        clear hb3 hpb hR hl q1 q2 t1 t2 hm1 hm2 hbb0 hpb0 hb3' hsz
        have HYY := Lib.hid hy
        clear hy
        go_upto_region 8 with (fail)
        refine (wpIn_wide (n := 10)).1 ?_
        have hy := HYY.out
        clear HYY
        gi_wp2
        refine HR.out.mono ?_
        rintro e W' (⟨rfl, hJ', hsame, hkf⟩ | ⟨rfl, hJx'⟩)
        · have HJ' := Lib.hid hJ'
          have HSame := Lib.hid hsame
          have HKF := Lib.hid hkf
          clear hJ' hsame hkf hy p0 p1 p2 p3 p4
          gi_wp2
          go_wp2
          go_roundw
          case rel => exact ⟨3, by omega, rfl, by rw [← HN.out]; exact HJ', rounds_keep HMr HBr1 HBr2 HLr HBB.out HSame.out HKF.out⟩
          case measure => simp [intOf]
        · have HJx' := Lib.hid hJx'
          clear hJx' hy p0 p1 p2 p3 p4
          gi_wp2
          go_wp2
          rw [show ∀ Q a w, Exit.noGoto Q .normal a w = Q .normal a w from fun _ _ _ => rfl]
          go_end0
          exact ⟨⟨_, rfl⟩, .inr ⟨_, HP.out, HJx'.out⟩⟩
      · have hne : ¬ [105, 112, 110] = word.toList := fun e => hw e.symm
        have t1 : ([105, 112, 110] == word.toList) = false := beq_eq_false_iff_ne.2 hne
        have t2 : ([105, 112, 110] != word.toList) = true := by rw [bne, t1]; rfl
        have HN := Lib.hid (show cands word rest 2 = cands word rest 3 by simp [cands, hw])
        unfold wIpn at hl
        clear hw hne
        go_wp2
        go_roundw
        case rel => exact ⟨3, by omega, rfl, by rw [← HN.out]; exact HJ.out _ _ _ HJr.out (KeptA.of_below (b_alloc (Below.refl _ _) _)), rounds_keep0 HMr HBr1 HBr2 HLr (b_alloc (Below.refl _ _) _)⟩
        case measure => simp [intOf]
    · go_wp2
      rw [show ∀ Q a w, Exit.noGoto Q .normal a w = Q .normal a w from fun _ _ _ => rfl]
      go_end0
      exact ⟨⟨_, rfl⟩, .inl HJr.out⟩

end Go.Proofs.YtandbobinjhehaaDoor.Hand

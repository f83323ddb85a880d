import Derived.Test.YtandbobinjhehaaDoorZEidTexts2
import Derived.ArgAppend
import Derived.Below
import Derived.BigQuiet
import Derived.Deep.AppendLies
import Derived.Deep.CutBlock
import Derived.Deep.DeepCutAuto
import Derived.Deep.DeepHandedRow
import Derived.Deep.DeepWitnessRowRef
import Derived.Deep.Draws
import Derived.Deep.LoopGhost
import Derived.Deep.OwnRows
import Derived.Deep.QuietTactic
import Derived.Deep.RegionHeld3
import Derived.KernelRfl
import Derived.LaidMore
import Derived.Laws.BitsLemmas
import Derived.Laws.BytesArg
import Derived.Laws.IdiomCopy
import Derived.Laws.MakeOwn
import Derived.Laws.OwnMore
import Derived.Laws.ResultCell
import Derived.Laws.Rows
import Derived.Laws.Slices
import Derived.Lib.AppendStr
import Derived.Lib.ConvBytes
import Derived.Lib.LaidTab
import Derived.Lib.SmallJoins
import Derived.LoopIn
import Derived.LoopNIn
import Derived.MakeChecks
import Derived.Maps.AppendAt
import Derived.OpenShut
import Derived.OrdersHeld
import Derived.Outline
import Derived.OwnWalk
import Derived.OwnWalkIn
import Derived.ProofKit
import Derived.RangeFuncBound
import Derived.RangeFuncCalls
import Derived.RangeFuncLeaves
import Derived.RangeFuncNested
import Derived.RowKit
import Derived.RowKit3
import Derived.Shelf.Abstract
import Derived.Stop.LaidErr
import Derived.Tactics
import Derived.TacticsInMore
import Derived.Test.YtandbobinjhehaaDoorCards
import Derived.Test.YtandbobinjhehaaDoorProg
import Derived.Test.YtandbobinjhehaaDoorTie
import Derived.WalkKit
import Derived.WalkMore
import Derived.WideLaws
section
namespace Go.Proofs.YtandbobinjhehaaDoor.Hand
open Go.RowKit
structure KeptX (X : Nat → Prop) (B0 : Nat) (A B : World) : Prop where
  os : B.os = A.os
  tape : B.tape = A.tape
  output : B.output = A.output
  size : A.heap.size ≤ B.heap.size
  block : ∀ k o, A.heap[k]? = some o → ¬ X k → (k < B0 ∨ o.isCells = true) → B.heap[k]? = some o
structure KeptA (X : Nat → Prop) (A B : World) : Prop where
  os : B.os = A.os
  tape : B.tape = A.tape
  output : B.output = A.output
  size : A.heap.size ≤ B.heap.size
  block : ∀ k o, A.heap[k]? = some o → ¬ X k → B.heap[k]? = some o
theorem KeptA.kx {X : Nat → Prop} {A B : World} (h : KeptA X A B) (B0 : Nat) : KeptX X B0 A B := ⟨h.os, h.tape, h.output, h.size, fun k o hk hx _ => h.block k o hk hx⟩
theorem KeptA.refl (X : Nat → Prop) (A : World) : KeptA X A A := ⟨rfl, rfl, rfl, Nat.le_refl _, fun _ _ h _ => h⟩
theorem KeptA.trans {X : Nat → Prop} {A B C : World} (h : KeptA X A B) (k : KeptA X B C) : KeptA X A C := ⟨k.os.trans h.os, k.tape.trans h.tape, k.output.trans h.output, Nat.le_trans h.size k.size, fun i o hi hx => k.block i o (h.block i o hi hx) hx⟩
theorem KeptA.of_below {X : Nat → Prop} {A B : World} (h : Below A.heap.size A B) : KeptA X A B := ⟨h.os, h.tape, h.output, h.size, fun k o hk _ => by rw [h.block k (Array.getElem?_eq_some_iff.1 hk).1]; exact hk⟩
theorem KeptA.setCell {X : Nat → Prop} {A B : World} (h : KeptA X A B) {p : Addr} (hp : X p.block) (v : Value) : KeptA X A (B.setCell p v) :=
  h.trans ⟨rfl, rfl, rfl, by simp [World.setCell], fun k o hk hx => by rw [Below.heap_setCell B p v k (fun e => hx (by rw [e]; exact hp))]; exact hk⟩
theorem KeptX.below {X : Nat → Prop} {B0 n : Nat} {W0 A B : World} (h : KeptX X B0 A B) (hb : Below n W0 A) (h0 : n ≤ B0) (h1 : n ≤ W0.heap.size) (hx : ∀ k, k < n → ¬ X k) : Below n W0 B :=
  ⟨h.os.trans hb.os, h.tape.trans hb.tape, h.output.trans hb.output, Nat.le_trans hb.size h.size, fun k hk => by
    have hlt : k < W0.heap.size := by omega
    have e : W0.heap[k]? = some W0.heap[k] := Array.getElem?_eq_getElem hlt
    have e2 := (hb.block k hk).trans e
    rw [h.block k _ e2 (hx k hk) (.inl (by omega)), e]⟩
theorem KeptX.blk {X : Nat → Prop} {B0 : Nat} {A B : World} (h : KeptX X B0 A B) {k : Nat} {c : Array Value} {t : TypeId} {fr : Nat × Nat} (hk : A.heap[k]? = some (.cells c t fr)) (hx : ¬ X k) : B.heap[k]? = some (.cells c t fr) := h.block k _ hk hx (.inr rfl)
theorem KeptX.obj {X : Nat → Prop} {B0 : Nat} {A B : World} (h : KeptX X B0 A B) {k : Nat} {o : Obj} (hk : A.heap[k]? = some o) (hx : ¬ X k) (h0 : k < B0) : B.heap[k]? = some o := h.block k _ hk hx (.inl h0)
def SameX (X : Nat → Prop) (A B : World) : Prop := ∀ k, X k → B.heap[k]? = A.heap[k]?
theorem SameX.trans {X : Nat → Prop} {A B C : World} (h : SameX X A B) (h2 : SameX X B C) : SameX X A C := fun i hi => (h2 i hi).trans (h i hi)
theorem SameX.putObj {X : Nat → Prop} (W : World) {l : Nat} (o : Obj) (h : ¬ X l) : SameX X W (W.putObj l o) := fun _ hk => World.putObj_heap_other (fun e => h (e ▸ hk))
def IterX {α : Type} (P : Program) (gf : Nat) (lb : Array Value) (encs : α → Array Value) (X R : Nat → Prop) (xs : List α) (w0 : World) : Prop :=
  ∀ (l : Nat) (J Jx : List α → World → Prop) (W : World), Below w0.heap.size w0 W → (∀ s A B, J s A → KeptA X A B → J s B) → (∀ s A B, Jx s A → KeptA X A B → Jx s B) →
    (∀ pre x W1, J pre W1 → (pre ++ [x]) <+: xs → YieldAt Fence.wide 9 P l (encs x) W1 fun e W' =>
      (e = .returned (.bool true) ∧ J (pre ++ [x]) W' ∧ SameX R W1 W' ∧ KeepsFrom W.heap.size W1 W') ∨ (e = .returned (.bool false) ∧ Jx (pre ++ [x]) W')) →
    J [] W →
    CallsIn Fence.wide 10 P gf (#[.func (.yield l) #[] #[]] ++ lb) W fun e W' => (∃ v, e = .returned v) ∧ (J xs W' ∨ ∃ pre, pre <+: xs ∧ Jx pre W')
def postX {α : Type} (B : Nat) (R : Nat → Prop) (I : List α → World → Prop) (Ix : Code → List α → World → Prop) (xs : List α) (W : World) : Exit → Act → World → Prop
  | .normal, _, W' => KeepsFrom B W W' ∧ SameX R W W' ∧ I xs W'
  | .ret, _, W' => KeepsFrom B W W' ∧ Ix .ret xs W'
  | .exit id, _, W' => KeepsFrom B W W' ∧ Ix (.exit id) xs W'
  | .goto t, _, W' => KeepsFrom B W W' ∧ Ix (.goto t) xs W'
  | .panic _, _, _ => False
  | .outgrown, _, _ => False
theorem keptX_putObj {X : Nat → Prop} {B0 l : Nat} {W : World} {o : Obj} (o' : Obj) (hB : B0 ≤ l) (hl : W.heap[l]? = some o) (ho : o.isCells = false) : KeptX X B0 W (W.putObj l o') :=
  ⟨rfl, rfl, rfl, by simp, fun k oo hk _ hh => by
    have hne : k ≠ l := by
      rintro rfl
      rcases hh with hh | hh
      · omega
      · rw [hl] at hk; cases hk; rw [ho] at hh; cases hh
    rw [World.putObj_heap_other hne]; exact hk⟩
theorem kf_up {B B' : Nat} {W W' : World} (h : KeepsFrom B W W') (hB : B ≤ B') : KeepsFrom B' W W' := ⟨h.size, fun k o hk ho hc => h.same k o (by omega) ho hc⟩
theorem keepsFrom_putObj {B l : Nat} {W : World} (o : Obj) (h : l < B) : KeepsFrom B W (W.putObj l o) := ⟨by simp, fun k o' hk ho _ => by rw [World.putObj_heap_other (by omega)]; exact ho⟩
theorem rangeFuncX {P : Program} {α : Type} {g : Operand} {ps : Array Tmp} {assign body : Code} {Q : Exit → Act → World → Prop} {a : Act} {w : World}
    {gf : Nat} {lb : Array Value} (hg : a.eval g = .func (.func gf) #[] lb) (eg : ∀ args w, (callFunc gf args).run P w = .ok (.enter gf args) w)
    {encs : α → Array Value} {X R : Nat → Prop} {xs : List α} {w0 : World} (hseq : IterX P gf lb encs X R xs w0) (hX : ∀ k, X k → k < w.heap.size) (hR : ∀ k, R k → k < w.heap.size)
    (hb0 : Below w0.heap.size w0 w) (hps : ∀ x, (encs x).size = ps.size)
    (I : List α → World → Prop) (Ix : Code → List α → World → Prop) (hI : ∀ s A B, I s A → KeptX X w.heap.size A B → I s B) (hIx : ∀ c s A B, Ix c s A → KeptX X w.heap.size A B → Ix c s B) (h0 : I [] w)
    (hround : ∀ (l : Nat) (pre : List α) (x : α) (W : World) (K : Act → World → Prop), w.heap.size ≤ l → (∃ r, W.heap[l]? = some (.loop r)) → I pre W → (pre ++ [x]) <+: xs →
      (∀ a' W', KeepsFrom w.heap.size W W' → SameX R W W' → (∀ W1, KeptX X w.heap.size W' W1 → (∃ r, W1.heap[l]? = some (.loop r)) → w.heap.size ≤ W1.heap.size → body.wpIn (Fence.wide.inRound l) 9 P (postX w.heap.size R I Ix (pre ++ [x]) W1) a' W1) → K a' W') →
      assign.wpIn (Fence.wide.inRound l) 9 P (Exit.then K (fun _ _ _ => False)) { tmps := (ps.zip (encs x)).foldl (fun t (p, v) => t.setIfInBounds p v) a.tmps, defers := [] } W)
    (hdone : ∀ (D : Nat) (W : World), w.heap.size ≤ D → I xs W → W.heap[D]? = some (.deferred (some [])) → Q .normal { a with defers := { target := .collected D, args := #[] } :: a.defers } W)
    (hstop : ∀ (D : Nat) (c : Code) (pre : List α) (W : World), w.heap.size ≤ D → pre <+: xs → Ix c pre W → W.heap[D]? = some (.deferred (some [])) → c.wpIn Fence.wide 11 P Q { a with defers := { target := .collected D, args := #[] } :: a.defers } W) :
    (Code.rangeFunc g ps assign body).wpIn Fence.wide 11 P Q a w := by
  refine wpIn_rangeFunc ?_
  intro fn hfn
  rw [show Fence.wide.round = none from rfl]
  obtain ⟨rec, hrec⟩ : ∃ rec : LoopState → Option Code → Loop, rec = fun st pe => { state := st, pending := pe, fn, tmps := a.tmps, params := ps, assign, body, defers := w.heap.size } := ⟨_, rfl⟩
  obtain ⟨W1, hW1⟩ : ∃ W1, (w.alloc (.deferred (some []))).alloc (.loop (rec .ready none)) = W1 := ⟨_, rfl⟩
  have hL1 : W1.heap[w.heap.size + 1]? = some (.loop (rec .ready none)) := by
    rw [← hW1]; have := World.alloc_heap_new (w.alloc (.deferred (some []))) (.loop (rec .ready none)); rwa [World.size_alloc] at this
  have hK1 : W1.heap[w.heap.size]? = some (.deferred (some [])) := by
    rw [← hW1]; exact (Below.heap_alloc _ _ _ (by simp)).trans (World.alloc_heap_new w _)
  have hbW : Below w.heap.size w W1 := by rw [← hW1]; exact ((Below.refl _ w).alloc (Nat.le_refl _) _).alloc (by simp) _
  have hI1 : I [] W1 := hI _ _ _ h0 ((KeptA.of_below hbW).kx _)
  have hb1 : Below w0.heap.size w0 W1 := hb0.trans (hbW.mono hb0.size)
  have hnX : ¬ X w.heap.size := fun h => by have := hX _ h; omega
  have hnX1 : ¬ X (w.heap.size + 1) := fun h => by have := hX _ h; omega
  have hnR1 : ¬ R (w.heap.size + 1) := fun h => by have := hR _ h; omega
  refine ⟨w.heap.size + 1, [{ target := .collected w.heap.size, args := #[] }], W1, { target := .fn (.func gf) lb, args := #[.func (.yield (w.heap.size + 1)) #[] #[]] }, W1, gf,
    #[.func (.yield (w.heap.size + 1)) #[] #[]] ++ lb, W1, ?_, ?_, ?_, ?_, fun _ => by decide, ?_⟩
  · rw [← hW1, hrec]; exact run_enterLoop_outer _ _ _ _ _
  · simp only [resolve, hg]
    simp [go_sem]
  · intro f' hf'; exact trivial
  · simp [invoke, go_sem, eg]
  · refine (hseq (w.heap.size + 1)
      (fun pre W => I pre W ∧ W.heap[w.heap.size + 1]? = some (.loop (rec .ready none)) ∧ W.heap[w.heap.size]? = some (.deferred (some [])))
      (fun pre W => ∃ c, Ix c pre W ∧ W.heap[w.heap.size + 1]? = some (.loop (rec .done (some c))) ∧ W.heap[w.heap.size]? = some (.deferred (some [])))
      W1 hb1
      (fun s A B hs hk => ⟨hI s A B hs.1 (hk.kx _), hk.block _ _ hs.2.1 hnX1, hk.block _ _ hs.2.2 hnX⟩)
      (fun s A B hs hk => by
        obtain ⟨c, hc, hl, hd⟩ := hs
        exact ⟨c, hIx c s A B hc (hk.kx _), hk.block _ _ hl hnX1, hk.block _ _ hd hnX⟩)
      ?_ ⟨hI1, hL1, hK1⟩).mono ?_
    · have hsz1 : w.heap.size ≤ W1.heap.size := hbW.size
      have hsz2 : w.heap.size + 1 < W1.heap.size := (Array.getElem?_eq_some_iff.1 hL1).1
      rintro pre x W ⟨hi, hl, hk⟩ hpre
      have hlt : w.heap.size + 1 < W.heap.size := (Array.getElem?_eq_some_iff.1 hl).1
      have hy := run_yield (P := P) (args := encs x) hl (by rw [hrec]; exact hps x)
      rw [hrec] at hy
      refine ⟨fn, _, assign, body, hy, roundIn_of_wpIn hfn (hround _ pre x W _ (by omega) ⟨_, hl⟩ hi hpre ?_)⟩
      clear hy
      intro a' Wa hkfa hkpa hbody
      replace hl := hkfa.same _ _ (by omega) hl rfl
      replace hk := hkfa.same _ _ (Nat.le_refl _) hk rfl
      replace hlt : w.heap.size + 1 < Wa.heap.size := (Array.getElem?_eq_some_iff.1 hl).1
      refine ⟨_, run_beginRound hl (by rw [hrec]), ?_⟩
      have hl2 : (Wa.putObj (w.heap.size + 1) (.loop { rec .ready none with state := .busy })).heap[w.heap.size + 1]? = some (.loop { rec .ready none with state := .busy }) := World.putObj_heap_same hlt
      have hk2 : (Wa.putObj (w.heap.size + 1) (.loop { rec .ready none with state := .busy })).heap[w.heap.size]? = some (.deferred (some [])) := (World.putObj_heap_other (by omega)).trans hk
      have hw2 : SameX R Wa (Wa.putObj (w.heap.size + 1) (.loop { rec .ready none with state := .busy })) := SameX.putObj _ _ hnR1
      refine wpIn_mono (hbody _ (keptX_putObj _ (by omega) hl rfl) ⟨_, hl2⟩ (by simp; omega)) ?_
      have fin : ∀ (jump : Option Code) (W3 : World), KeepsFrom w.heap.size (Wa.putObj (w.heap.size + 1) (.loop { rec .ready none with state := .busy })) W3 →
          (Instr.endRound (w.heap.size + 1) jump).run P W3 = .ok (.bool jump.isNone) (W3.putObj (w.heap.size + 1) (.loop (rec (if jump.isNone then .ready else .done) jump))) ∧
          W3.heap[w.heap.size + 1]? = some (.loop { rec .ready none with state := .busy }) ∧
          (W3.putObj (w.heap.size + 1) (.loop (rec (if jump.isNone then .ready else .done) jump))).heap[w.heap.size + 1]? = some (.loop (rec (if jump.isNone then .ready else .done) jump)) ∧
          (W3.putObj (w.heap.size + 1) (.loop (rec (if jump.isNone then .ready else .done) jump))).heap[w.heap.size]? = some (.deferred (some [])) := fun jump W3 hk3 => by
        have hl3 := hk3.same _ _ (by omega) hl2 rfl
        have := run_endRound (P := P) jump hl3
        rw [hrec] at this ⊢
        exact ⟨this, by rw [hrec] at hl3; exact hl3, World.putObj_heap_same (Array.getElem?_eq_some_iff.1 hl3).1, (World.putObj_heap_other (by omega)).trans (hk3.same _ _ (Nat.le_refl _) hk2 rfl)⟩
      rintro e a3 W3 hp
      cases e with
      | normal =>
        obtain ⟨hk3, hkp3, hi3⟩ := hp
        obtain ⟨hr, hl3, hl4, hk4⟩ := fin none W3 hk3
        exact ⟨_, _, hr, .inl ⟨rfl, ⟨hI _ _ _ hi3 (keptX_putObj _ (by omega) hl3 rfl), hl4, hk4⟩, hkpa.trans ((hw2.trans hkp3).trans (SameX.putObj _ _ hnR1)), (kf_up hkfa hsz1).trans (((keepsFrom_putObj _ (by omega)).trans (kf_up hk3 hsz1)).trans (keepsFrom_putObj _ (by omega)))⟩⟩
      | ret =>
        obtain ⟨hk3, hi3⟩ := hp
        obtain ⟨hr, hl3, hl4, hk4⟩ := fin (some .ret) W3 hk3
        exact ⟨_, _, hr, .inr ⟨rfl, .ret, hIx _ _ _ _ hi3 (keptX_putObj _ (by omega) hl3 rfl), hl4, hk4⟩⟩
      | exit id =>
        obtain ⟨hk3, hi3⟩ := hp
        obtain ⟨hr, hl3, hl4, hk4⟩ := fin (some (.exit id)) W3 hk3
        exact ⟨_, _, hr, .inr ⟨rfl, .exit id, hIx _ _ _ _ hi3 (keptX_putObj _ (by omega) hl3 rfl), hl4, hk4⟩⟩
      | goto t =>
        obtain ⟨hk3, hi3⟩ := hp
        obtain ⟨hr, hl3, hl4, hk4⟩ := fin (some (.goto t)) W3 hk3
        exact ⟨_, _, hr, .inr ⟨rfl, .goto t, hIx _ _ _ _ hi3 (keptX_putObj _ (by omega) hl3 rfl), hl4, hk4⟩⟩
      | panic ch => exact hp.elim
      | outgrown => exact hp.elim
    · rintro e W2 ⟨⟨v, rfl⟩, (⟨hi, hl, hk⟩ | ⟨pre, hSp, c, hi, hl, hk⟩)⟩
      · exact ⟨none, _, by have := run_endLoop (P := P) hl (by rw [hrec]; simp); rw [hrec] at this; exact this, hdone _ _ (Nat.le_refl _) (hI _ _ _ hi (keptX_putObj _ (by omega) hl rfl)) ((World.putObj_heap_other (by omega)).trans hk)⟩
      · exact ⟨some c, _, by have := run_endLoop (P := P) hl (by rw [hrec]; simp); rw [hrec] at this; exact this, hstop _ c pre _ (Nat.le_refl _) hSp (hIx _ _ _ _ hi (keptX_putObj _ (by omega) hl rfl)) ((World.putObj_heap_other (by omega)).trans hk)⟩
theorem rangeFuncW {P : Program} {α : Type} {g : Operand} {ps : Array Tmp} {assign body : Code} {Q : Exit → Act → World → Prop} {a : Act} {w : World}
    {gf : Nat} {lb : Array Value} (hg : a.eval g = .func (.func gf) #[] lb) (eg : ∀ args w, (callFunc gf args).run P w = .ok (.enter gf args) w)
    {encs : α → Array Value} {X R : Nat → Prop} {xs : List α} {w0 : World} (hseq : IterX P gf lb encs X R xs w0) (hX : ∀ k, X k → k < w.heap.size) (hR : ∀ k, R k → k < w.heap.size)
    (hb0 : Below w0.heap.size w0 w) (hps : ∀ x, (encs x).size = ps.size)
    (I : List α → World → Prop) (Ix : Code → List α → World → Prop) (hI : ∀ s A B, I s A → KeptX X w.heap.size A B → I s B) (hIx : ∀ c s A B, Ix c s A → KeptX X w.heap.size A B → Ix c s B) (h0 : I [] w)
    (hround : ∀ (l : Nat) (pre : List α) (x : α) (W : World) (K : Act → World → Prop), w.heap.size ≤ l → (∃ r, W.heap[l]? = some (.loop r)) → I pre W → (pre ++ [x]) <+: xs →
      (∀ a' W', KeepsFrom w.heap.size W W' → SameX R W W' → (∀ W1, KeptX X w.heap.size W' W1 → (∃ r, W1.heap[l]? = some (.loop r)) → w.heap.size ≤ W1.heap.size → body.wpIn (Fence.wide.inRound l) 9 P (postX w.heap.size R I Ix (pre ++ [x]) W1) a' W1) → K a' W') →
      assign.wpIn (Fence.wide.inRound l) 9 P (Exit.then K (fun _ _ _ => False)) { tmps := (ps.zip (encs x)).foldl (fun t (p, v) => t.setIfInBounds p v) a.tmps, defers := [] } W)
    (hdone : ∀ (D : Nat) (W : World), w.heap.size ≤ D → I xs W → W.heap[D]? = some (.deferred (some [])) → Q .normal { a with defers := { target := .collected D, args := #[] } :: a.defers } W)
    (hstop : ∀ (D : Nat) (c : Code) (pre : List α) (W : World), w.heap.size ≤ D → pre <+: xs → Ix c pre W → W.heap[D]? = some (.deferred (some [])) → c.wp P Q { a with defers := { target := .collected D, args := #[] } :: a.defers } W) :
    (Code.rangeFunc g ps assign body).wp P Q a w :=
  wpIn_wide.1 (rangeFuncX hg eg hseq hX hR hb0 hps I Ix hI hIx h0 hround hdone (fun D c pre W h1 h2 h3 h4 => wpIn_wide.2 (hstop D c pre W h1 h2 h3 h4)))
end Go.Proofs.YtandbobinjhehaaDoor.Hand
end
section
namespace Go.Proofs.YtandbobinjhehaaDoor.Hand
open Go.RowKit Go.Proofs.YtandbobinjhehaaDoor.SA Go.Proofs.YtandbobinjhehaaDoor.SB
structure Eid where
  s : Int
  n : ByteArray
  v : ByteArray
  a : Int
  b : Int
def Eid.enc (x : Eid) : Value := .agg #[.int .i64 x.s, .string x.n, .string x.v, .int .i64 x.a, .int .i64 x.b]
def cands (word rest : ByteArray) (k : Nat) : List Eid :=
  (if 0 < k ∧ word.toList = [100, 116, 110] then [⟨0, ⟨#[]⟩, ⟨#[]⟩, 0, 0⟩] else []) ++ ((if 1 < k ∧ word.toList = [100, 116, 110] then [⟨1, (dtnParts rest).1, (dtnParts rest).2, 0, 0⟩] else []) ++
    (if 2 < k ∧ word.toList = [105, 112, 110] then [⟨2, ⟨#[]⟩, ⟨#[]⟩, (ipnParts rest).1, (ipnParts rest).2⟩] else []))
set_option maxRecDepth 100000 in
theorem readings_calls (word rest : ByteArray) (w : World) :
    Calls Tryd.prog 25 #[.string word, .string rest] w fun e w' =>
      e = .returned (.func (.func 43) #[] #[.pointer (some ⟨w.heap.size, 0, none⟩), .pointer (some ⟨w.heap.size + 1, 0, none⟩)]) ∧ (w.alloc (.cells #[.string word] 9)).alloc (.cells #[.string rest] 9) = w' := by
  go_enter Tryd.func25, Tryd.ntmps25
  go_wp2
  go_ret
  exact ⟨rfl, rfl⟩
attribute [local go_sem] Oper.semAt_some
theorem rounds_keep0 {word rest : ByteArray} {b1 b2 g : Nat} {wr w3 : World} (h1 : Hid (wr.heap[g]? = some (.map schs 3))) (h2 : Hid (wr.heap[b1]? = some (.cells #[.string word] 9))) (h3 : Hid (wr.heap[b2]? = some (.cells #[.string rest] 9))) (h4 : Hid (Laid wr)) (hb : Below wr.heap.size wr w3) :
    Hid (w3.heap[g]? = some (.map schs 3)) ∧ Hid (w3.heap[b1]? = some (.cells #[.string word] 9)) ∧ Hid (w3.heap[b2]? = some (.cells #[.string rest] 9)) ∧ Hid (Laid w3) := by
  have k : ∀ (j : Nat) (o : Obj), wr.heap[j]? = some o → w3.heap[j]? = some o := fun j o h => (hb.block _ (Array.getElem?_eq_some_iff.1 h).1).trans h
  exact ⟨k _ _ h1.out, k _ _ h2.out, k _ _ h3.out, h4.out.below hb⟩
theorem rounds_keep {word rest : ByteArray} {b1 b2 g : Nat} {wr w3 W' : World} (h1 : Hid (wr.heap[g]? = some (.map schs 3))) (h2 : Hid (wr.heap[b1]? = some (.cells #[.string word] 9))) (h3 : Hid (wr.heap[b2]? = some (.cells #[.string rest] 9))) (h4 : Hid (Laid wr)) (hb : Below wr.heap.size wr w3)
    (hs : SameX (fun k => k = b1 ∨ k = b2 ∨ k < NG) w3 W') (hk : KeepsFrom g w3 W') :
    Hid (W'.heap[g]? = some (.map schs 3)) ∧ Hid (W'.heap[b1]? = some (.cells #[.string word] 9)) ∧ Hid (W'.heap[b2]? = some (.cells #[.string rest] 9)) ∧ Hid (Laid W') := by
  obtain ⟨a1, a2, a3, a4⟩ := rounds_keep0 h1 h2 h3 h4 hb
  exact ⟨hk.same _ _ (Nat.le_refl _) a1.out rfl, (hs _ (.inl rfl)).trans a2.out, (hs _ (.inr (.inl rfl))).trans a3.out, a4.out.same fun k hk => hs _ (.inr (.inr hk))⟩
set_option maxRecDepth 100000 in
set_option maxHeartbeats 4000000 in
theorem readings_iter (word rest : ByteArray) (b1 b2 : Nat) (w0 : World) (hL : Laid w0) (hr : rest.size < 4294967281) (h1 : w0.heap[b1]? = some (.cells #[.string word] 9)) (h2 : w0.heap[b2]? = some (.cells #[.string rest] 9)) (h3 : 3 < w0.heap.size) :
    IterX Tryd.prog 43 #[.pointer (some ⟨b1, 0, none⟩), .pointer (some ⟨b2, 0, none⟩)] (fun x => #[Eid.enc x]) (fun _ => False) (fun k => k = b1 ∨ k = b2 ∨ k < NG) (cands word rest 3) w0 := by
  intro l J Jx W hW hJ hJx hY h0
  have hlt1 : b1 < w0.heap.size := (Array.getElem?_eq_some_iff.1 h1).1
  have hlt2 : b2 < w0.heap.size := (Array.getElem?_eq_some_iff.1 h2).1
  have hLW := hL.below hW
  have hbW1 := (hW.block _ hlt1).trans h1
  have hbW2 := (hW.block _ hlt2).trans h2
  have hsW : 3 < W.heap.size := Nat.lt_of_lt_of_le h3 hW.size
  have HJ := Lib.hid hJ
  have HJx := Lib.hid hJx
  have HY := Lib.hid hY
  have HLW := Lib.hid hLW
  have HB1 := Lib.hid hbW1
  have HB2 := Lib.hid hbW2
  have H0 := Lib.hid h0
  clear hL h1 h2 hW hJ hJx hY hLW hbW1 hbW2 h0 hlt1 hlt2 h3
  refine (callsIn_wide (n := 10)).2 ?_
  simp only [List.append_toArray, List.cons_append, List.nil_append]
  go_enter Tryd.func43, Tryd.ntmps43
  go_wp2
  go_step3
  go_wp2_with (go_at_call 23; refine (schemes_calls _).mono ?_; rintro e w' ⟨rfl, rfl⟩)
  go_step3
  go_wp2_with (fail)
  obtain ⟨w1, hw1⟩ : ∃ w1, w1 = W.alloc (.map schs 3) := ⟨_, rfl⟩
  have hb : Below W.heap.size W w1 := by rw [hw1]; exact b_alloc (Below.refl _ _) _
  have hm : w1.heap[W.heap.size]? = some (.map schs 3) := by rw [hw1]; exact World.alloc_heap_new _ _
  rw [← hw1]
  clear hw1
  have HJ1 := Lib.hid (HJ.out _ _ _ H0.out (KeptA.of_below hb))
  have HL1 := Lib.hid (HLW.out.below hb)
  have hb1' := (hb.block _ (Array.getElem?_eq_some_iff.1 HB1.out).1).trans HB1.out
  have hb2' := (hb.block _ (Array.getElem?_eq_some_iff.1 HB2.out).1).trans HB2.out
  have HM := Lib.hid hm
  have HB1' := Lib.hid hb1'
  have HB2' := Lib.hid hb2'
  clear hb hm hb1' hb2' H0
  go_loopw [9] (fun i wr => ∃ k : Nat, k ≤ 3 ∧ i = .int .i64 k ∧ Hid (J (cands word rest k) wr) ∧ Hid (wr.heap[W.heap.size]? = some (.map schs 3)) ∧ Hid (wr.heap[b1]? = some (.cells #[.string word] 9)) ∧ Hid (wr.heap[b2]? = some (.cells #[.string rest] 9)) ∧ Hid (Laid wr)) (fun i _ => 3 - (intOf i).toNat)
  case atStart => exact ⟨0, by omega, rfl, HJ1, HM, HB1', HB2', HL1⟩
  case round =>
    obtain ⟨k, hk, rfl, HJr, HMr, HBr1, HBr2, HLr⟩ := hrel
    clear HB1 HB2 HJ1 HM HB1' HB2' HL1 HLW
    have hm1 : b1 < wr.heap.size := (Array.getElem?_eq_some_iff.1 HBr1.out).1
    have hm2 : b2 < wr.heap.size := (Array.getElem?_eq_some_iff.1 HBr2.out).1
    have q1 : wr.cell? ⟨b1, 0, none⟩ = some (.string word) := (cell_blk HBr1.out 0).trans rfl
    have q2 : wr.cell? ⟨b2, 0, none⟩ = some (.string rest) := (cell_blk HBr2.out 0).trans rfl
    rcases (show k = 0 ∨ k = 1 ∨ k = 2 ∨ k = 3 by omega) with rfl | rfl | rfl | rfl
    · have hl := look_some (n := 0) (wd := wDtn) (by rw [schAt, if_pos rfl]; rfl) false wr W.heap.size HMr.out
      simp only [schOf, Bool.false_eq_true, if_false] at hl
      by_cases hw : word.toList = [100, 116, 110]
      · have t1 : ([100, 116, 110] == word.toList) = true := by rw [hw]; decide
        have t2 : ([100, 116, 110] != word.toList) = false := by rw [hw]; decide
        have HP := Lib.hid (show cands word rest 0 ++ [⟨0, ⟨#[]⟩, ⟨#[]⟩, 0, 0⟩] <+: cands word rest 3 by simp [cands, hw])
        have HN := Lib.hid (show cands word rest 0 ++ [⟨0, ⟨#[]⟩, ⟨#[]⟩, 0, 0⟩] = cands word rest 1 by simp [cands, hw])
        clear hw
        unfold wDtn at hl
        go_wp2_with (fail)
        have hbb0 : Below wr.heap.size wr ((wr.alloc (.cells #[.string ⟨#[100, 116, 110]⟩, .func (.func 33) #[] #[], .func (.func 34) #[] #[], .func (.func 35) #[] #[]] 43)).alloc (.cells #[.int .i64 0, .string ⟨#[]⟩, .string ⟨#[]⟩, .int .i64 0, .int .i64 0] 63)) := b_alloc (b_alloc (Below.refl _ _) _) _
        have hpb0 : ((wr.alloc (.cells #[.string ⟨#[100, 116, 110]⟩, .func (.func 33) #[] #[], .func (.func 34) #[] #[], .func (.func 35) #[] #[]] 43)).alloc (.cells #[.int .i64 0, .string ⟨#[]⟩, .string ⟨#[]⟩, .int .i64 0, .int .i64 0] 63)).heap[wr.heap.size + 1]? = some (.cells #[.int .i64 0, .string ⟨#[]⟩, .string ⟨#[]⟩, .int .i64 0, .int .i64 0] 63) := by
          have := World.alloc_heap_new (wr.alloc (.cells #[.string ⟨#[100, 116, 110]⟩, .func (.func 33) #[] #[], .func (.func 34) #[] #[], .func (.func 35) #[] #[]] 43)) (.cells #[.int .i64 0, .string ⟨#[]⟩, .string ⟨#[]⟩, .int .i64 0, .int .i64 0] 63)
          rwa [World.size_alloc] at this
        obtain ⟨w2, hw2⟩ : ∃ w2, w2 = ((wr.alloc (.cells #[.string ⟨#[100, 116, 110]⟩, .func (.func 33) #[] #[], .func (.func 34) #[] #[], .func (.func 35) #[] #[]] 43)).alloc (.cells #[.int .i64 0, .string ⟨#[]⟩, .string ⟨#[]⟩, .int .i64 0, .int .i64 0] 63)) := ⟨_, rfl⟩
        have hsz : w2.heap.size = wr.heap.size + 2 := by rw [hw2]; simp
        rw [← hw2] at hbb0 hpb0
        rw [← hw2]
        clear hw2
        have HPB := Lib.hid hpb0
        have HBB0 := Lib.hid hbb0
        have HL2 := Lib.hid (HLr.out.below hbb0)
        have hwr : 3 < wr.heap.size := by
          obtain ⟨_, _, ⟨_, _, h1⟩, ⟨_, _, h2⟩⟩ := HLr.out
          have := World.block_lt_of_cell? wr _ h2
          exact Nat.lt_of_le_of_lt (by decide) this
        refine (parse0_calls _ rest _).mono ?_
        rintro e w3 ⟨rfl, hb3⟩
        have hpb : w3.heap[wr.heap.size + 1]? = some (.cells #[.int .i64 0, .string ⟨#[]⟩, .string ⟨#[]⟩, .int .i64 0, .int .i64 0] 63) := (hb3.block _ (by rw [hsz]; omega)).trans HPB.out
        have hb3' : Below wr.heap.size wr w3 := HBB0.out.trans (hb3.mono (by rw [hsz]; omega))
        have p0 : w3.cell? ⟨wr.heap.size + 1, 0, none⟩ = some (.int .i64 0) := cell_blk hpb 0
        have p1 : w3.cell? ⟨wr.heap.size + 1, 1, none⟩ = some (.string ⟨#[]⟩) := cell_blk hpb 1
        have p2 : w3.cell? ⟨wr.heap.size + 1, 2, none⟩ = some (.string ⟨#[]⟩) := cell_blk hpb 2
        have p3 : w3.cell? ⟨wr.heap.size + 1, 3, none⟩ = some (.int .i64 0) := cell_blk hpb 3
        have p4 : w3.cell? ⟨wr.heap.size + 1, 4, none⟩ = some (.int .i64 0) := cell_blk hpb 4
        have HJ3 := Lib.hid (HJ.out _ _ _ HJr.out (KeptA.of_below hb3'))
        have HBB := Lib.hid hb3'
        obtain ⟨fn, tmps, assign, body, hy, hR⟩ := HY.out _ _ _ HJ3.out HP.out
        unfold Eid.enc at hy
        dsimp only at hy
        have HR := Lib.hid hR
        have hE1 : wr.heap.size ≤ w3.heap.size := hb3'.size
        have HS := Lib.hid hsz
        clear hb3 hpb hR hl q1 q2 t1 t2 hm1 hm2 hbb0 hpb0 hb3' hsz
        have HYY := Lib.hid hy
        clear hy
        go_upto_region 8 with (fail)
        refine (wpIn_wide (n := 10)).1 ?_
        have hy := HYY.out
        clear HYY
        gi_wp2
        refine HR.out.mono ?_
        rintro e W' (⟨rfl, hJ', hsame, hkf⟩ | ⟨rfl, hJx'⟩)
        · have HJ' := Lib.hid hJ'
          have HSame := Lib.hid hsame
          have HKF := Lib.hid hkf
          clear hJ' hsame hkf hy p0 p1 p2 p3 p4
          gi_wp2
          go_wp2
          go_roundw
          case rel => exact ⟨1, by omega, rfl, by rw [← HN.out]; exact HJ', rounds_keep HMr HBr1 HBr2 HLr HBB.out HSame.out HKF.out⟩
          case measure => simp [intOf]
        · have HJx' := Lib.hid hJx'
          clear hJx' hy p0 p1 p2 p3 p4
          gi_wp2
          go_wp2
          rw [show ∀ Q a w, Exit.noGoto Q .normal a w = Q .normal a w from fun _ _ _ => rfl]
          go_end0
          exact ⟨⟨_, rfl⟩, .inr ⟨_, HP.out, HJx'.out⟩⟩
      · have hne : ¬ [100, 116, 110] = word.toList := fun e => hw e.symm
        have t1 : ([100, 116, 110] == word.toList) = false := beq_eq_false_iff_ne.2 hne
        have t2 : ([100, 116, 110] != word.toList) = true := by rw [bne, t1]; rfl
        have HN := Lib.hid (show cands word rest 0 = cands word rest 1 by simp [cands, hw])
        unfold wDtn at hl
        clear hw hne
        go_wp2
        go_roundw
        case rel => exact ⟨1, by omega, rfl, by rw [← HN.out]; exact HJ.out _ _ _ HJr.out (KeptA.of_below (b_alloc (Below.refl _ _) _)), rounds_keep0 HMr HBr1 HBr2 HLr (b_alloc (Below.refl _ _) _)⟩
        case measure => simp [intOf]
    · have hl := look_some (n := 1) (wd := wDtn) (by rw [schAt, if_neg (by decide), if_pos rfl]; rfl) false wr W.heap.size HMr.out
      simp only [schOf, Bool.false_eq_true, if_false] at hl
      by_cases hw : word.toList = [100, 116, 110]
      · have t1 : ([100, 116, 110] == word.toList) = true := by rw [hw]; decide
        have t2 : ([100, 116, 110] != word.toList) = false := by rw [hw]; decide
        have HP := Lib.hid (show cands word rest 1 ++ [⟨1, (dtnParts rest).1, (dtnParts rest).2, 0, 0⟩] <+: cands word rest 3 by simp [cands, hw])
        have HN := Lib.hid (show cands word rest 1 ++ [⟨1, (dtnParts rest).1, (dtnParts rest).2, 0, 0⟩] = cands word rest 2 by simp [cands, hw])
        clear hw
        unfold wDtn at hl
        go_wp2_with (fail)
        have hbb0 : Below wr.heap.size wr ((wr.alloc (.cells #[.string ⟨#[100, 116, 110]⟩, .func (.func 36) #[] #[], .func (.func 37) #[] #[], .func (.func 38) #[] #[]] 43)).alloc (.cells #[.int .i64 1, .string ⟨#[]⟩, .string ⟨#[]⟩, .int .i64 0, .int .i64 0] 63)) := b_alloc (b_alloc (Below.refl _ _) _) _
        have hpb0 : ((wr.alloc (.cells #[.string ⟨#[100, 116, 110]⟩, .func (.func 36) #[] #[], .func (.func 37) #[] #[], .func (.func 38) #[] #[]] 43)).alloc (.cells #[.int .i64 1, .string ⟨#[]⟩, .string ⟨#[]⟩, .int .i64 0, .int .i64 0] 63)).heap[wr.heap.size + 1]? = some (.cells #[.int .i64 1, .string ⟨#[]⟩, .string ⟨#[]⟩, .int .i64 0, .int .i64 0] 63) := by
          have := World.alloc_heap_new (wr.alloc (.cells #[.string ⟨#[100, 116, 110]⟩, .func (.func 36) #[] #[], .func (.func 37) #[] #[], .func (.func 38) #[] #[]] 43)) (.cells #[.int .i64 1, .string ⟨#[]⟩, .string ⟨#[]⟩, .int .i64 0, .int .i64 0] 63)
          rwa [World.size_alloc] at this
        obtain ⟨w2, hw2⟩ : ∃ w2, w2 = ((wr.alloc (.cells #[.string ⟨#[100, 116, 110]⟩, .func (.func 36) #[] #[], .func (.func 37) #[] #[], .func (.func 38) #[] #[]] 43)).alloc (.cells #[.int .i64 1, .string ⟨#[]⟩, .string ⟨#[]⟩, .int .i64 0, .int .i64 0] 63)) := ⟨_, rfl⟩
        have hsz : w2.heap.size = wr.heap.size + 2 := by rw [hw2]; simp
        rw [← hw2] at hbb0 hpb0
        rw [← hw2]
        clear hw2
        have HPB := Lib.hid hpb0
        have HBB0 := Lib.hid hbb0
        have HL2 := Lib.hid (HLr.out.below hbb0)
        have hwr : 3 < wr.heap.size := by
          obtain ⟨_, _, ⟨_, _, h1⟩, ⟨_, _, h2⟩⟩ := HLr.out
          have := World.block_lt_of_cell? wr _ h2
          exact Nat.lt_of_le_of_lt (by decide) this
        refine (parse1_calls (wr.heap.size + 1) 1 ⟨#[]⟩ ⟨#[]⟩ 0 0 rest _ HL2.out hr HPB.out).mono ?_
        rintro e w3 ⟨rfl, hb3, hpb⟩
        have hb3' : Below wr.heap.size wr w3 := HBB0.out.trans (hb3.mono (by omega))
        have p0 : w3.cell? ⟨wr.heap.size + 1, 0, none⟩ = some (.int .i64 1) := cell_blk hpb 0
        have p1 : w3.cell? ⟨wr.heap.size + 1, 1, none⟩ = some (.string (dtnParts rest).1) := cell_blk hpb 1
        have p2 : w3.cell? ⟨wr.heap.size + 1, 2, none⟩ = some (.string (dtnParts rest).2) := cell_blk hpb 2
        have p3 : w3.cell? ⟨wr.heap.size + 1, 3, none⟩ = some (.int .i64 0) := cell_blk hpb 3
        have p4 : w3.cell? ⟨wr.heap.size + 1, 4, none⟩ = some (.int .i64 0) := cell_blk hpb 4
        have HJ3 := Lib.hid (HJ.out _ _ _ HJr.out (KeptA.of_below hb3'))
        have HBB := Lib.hid hb3'
        obtain ⟨fn, tmps, assign, body, hy, hR⟩ := HY.out _ _ _ HJ3.out HP.out
        unfold Eid.enc at hy
        dsimp only at hy
        have HR := Lib.hid hR
        have hE1 : wr.heap.size ≤ w3.heap.size := hb3'.size
        have HS := Lib.hid hsz
        clear hb3 hpb hR hl q1 q2 t1 t2 hm1 hm2 hbb0 hpb0 hb3' hsz
        have HYY := Lib.hid hy
        clear hy
        go_upto_region 8 with (fail)
        refine (wpIn_wide (n := 10)).1 ?_
        have hy := HYY.out
        clear HYY
        gi_wp2
        refine HR.out.mono ?_
        rintro e W' (⟨rfl, hJ', hsame, hkf⟩ | ⟨rfl, hJx'⟩)
        · have HJ' := Lib.hid hJ'
          have HSame := Lib.hid hsame
          have HKF := Lib.hid hkf
          clear hJ' hsame hkf hy p0 p1 p2 p3 p4
          gi_wp2
          go_wp2
          go_roundw
          case rel => exact ⟨2, by omega, rfl, by rw [← HN.out]; exact HJ', rounds_keep HMr HBr1 HBr2 HLr HBB.out HSame.out HKF.out⟩
          case measure => simp [intOf]
        · have HJx' := Lib.hid hJx'
          clear hJx' hy p0 p1 p2 p3 p4
          gi_wp2
          go_wp2
          rw [show ∀ Q a w, Exit.noGoto Q .normal a w = Q .normal a w from fun _ _ _ => rfl]
          go_end0
          exact ⟨⟨_, rfl⟩, .inr ⟨_, HP.out, HJx'.out⟩⟩
      · have hne : ¬ [100, 116, 110] = word.toList := fun e => hw e.symm
        have t1 : ([100, 116, 110] == word.toList) = false := beq_eq_false_iff_ne.2 hne
        have t2 : ([100, 116, 110] != word.toList) = true := by rw [bne, t1]; rfl
        have HN := Lib.hid (show cands word rest 1 = cands word rest 2 by simp [cands, hw])
        unfold wDtn at hl
        clear hw hne
        go_wp2
        go_roundw
        case rel => exact ⟨2, by omega, rfl, by rw [← HN.out]; exact HJ.out _ _ _ HJr.out (KeptA.of_below (b_alloc (Below.refl _ _) _)), rounds_keep0 HMr HBr1 HBr2 HLr (b_alloc (Below.refl _ _) _)⟩
        case measure => simp [intOf]
    · have hl := look_some (n := 2) (wd := wIpn) (by rw [schAt, if_neg (by decide), if_neg (by decide), if_pos rfl]; rfl) false wr W.heap.size HMr.out
      simp only [schOf, Bool.false_eq_true, if_false] at hl
      by_cases hw : word.toList = [105, 112, 110]
      · have t1 : ([105, 112, 110] == word.toList) = true := by rw [hw]; decide
        have t2 : ([105, 112, 110] != word.toList) = false := by rw [hw]; decide
        have HP := Lib.hid (show cands word rest 2 ++ [⟨2, ⟨#[]⟩, ⟨#[]⟩, (ipnParts rest).1, (ipnParts rest).2⟩] <+: cands word rest 3 by simp [cands, hw])
        have HN := Lib.hid (show cands word rest 2 ++ [⟨2, ⟨#[]⟩, ⟨#[]⟩, (ipnParts rest).1, (ipnParts rest).2⟩] = cands word rest 3 by simp [cands, hw])
        clear hw
        unfold wIpn at hl
        go_wp2_with (fail)
        have hbb0 : Below wr.heap.size wr ((wr.alloc (.cells #[.string ⟨#[105, 112, 110]⟩, .func (.func 39) #[] #[], .func (.func 40) #[] #[], .func (.func 42) #[] #[]] 43)).alloc (.cells #[.int .i64 2, .string ⟨#[]⟩, .string ⟨#[]⟩, .int .i64 0, .int .i64 0] 63)) := b_alloc (b_alloc (Below.refl _ _) _) _
        have hpb0 : ((wr.alloc (.cells #[.string ⟨#[105, 112, 110]⟩, .func (.func 39) #[] #[], .func (.func 40) #[] #[], .func (.func 42) #[] #[]] 43)).alloc (.cells #[.int .i64 2, .string ⟨#[]⟩, .string ⟨#[]⟩, .int .i64 0, .int .i64 0] 63)).heap[wr.heap.size + 1]? = some (.cells #[.int .i64 2, .string ⟨#[]⟩, .string ⟨#[]⟩, .int .i64 0, .int .i64 0] 63) := by
          have := World.alloc_heap_new (wr.alloc (.cells #[.string ⟨#[105, 112, 110]⟩, .func (.func 39) #[] #[], .func (.func 40) #[] #[], .func (.func 42) #[] #[]] 43)) (.cells #[.int .i64 2, .string ⟨#[]⟩, .string ⟨#[]⟩, .int .i64 0, .int .i64 0] 63)
          rwa [World.size_alloc] at this
        obtain ⟨w2, hw2⟩ : ∃ w2, w2 = ((wr.alloc (.cells #[.string ⟨#[105, 112, 110]⟩, .func (.func 39) #[] #[], .func (.func 40) #[] #[], .func (.func 42) #[] #[]] 43)).alloc (.cells #[.int .i64 2, .string ⟨#[]⟩, .string ⟨#[]⟩, .int .i64 0, .int .i64 0] 63)) := ⟨_, rfl⟩
        have hsz : w2.heap.size = wr.heap.size + 2 := by rw [hw2]; simp
        rw [← hw2] at hbb0 hpb0
        rw [← hw2]
        clear hw2
        have HPB := Lib.hid hpb0
        have HBB0 := Lib.hid hbb0
        have HL2 := Lib.hid (HLr.out.below hbb0)
        have hwr : 3 < wr.heap.size := by
          obtain ⟨_, _, ⟨_, _, h1⟩, ⟨_, _, h2⟩⟩ := HLr.out
          have := World.block_lt_of_cell? wr _ h2
          exact Nat.lt_of_le_of_lt (by decide) this
        refine (parse2_calls (wr.heap.size + 1) 2 ⟨#[]⟩ ⟨#[]⟩ 0 0 rest _ HL2.out hr HPB.out (by omega)).mono ?_
        rintro e w3 ⟨rfl, hb3, hpb⟩
        have hb3' : Below wr.heap.size wr w3 := HBB0.out.trans (hb3.mono (by omega))
        have p0 : w3.cell? ⟨wr.heap.size + 1, 0, none⟩ = some (.int .i64 2) := cell_blk hpb 0
        have p1 : w3.cell? ⟨wr.heap.size + 1, 1, none⟩ = some (.string ⟨#[]⟩) := cell_blk hpb 1
        have p2 : w3.cell? ⟨wr.heap.size + 1, 2, none⟩ = some (.string ⟨#[]⟩) := cell_blk hpb 2
        have p3 : w3.cell? ⟨wr.heap.size + 1, 3, none⟩ = some (.int .i64 (ipnParts rest).1) := cell_blk hpb 3
        have p4 : w3.cell? ⟨wr.heap.size + 1, 4, none⟩ = some (.int .i64 (ipnParts rest).2) := cell_blk hpb 4
        have HJ3 := Lib.hid (HJ.out _ _ _ HJr.out (KeptA.of_below hb3'))
        have HBB := Lib.hid hb3'
        obtain ⟨fn, tmps, assign, body, hy, hR⟩ := HY.out _ _ _ HJ3.out HP.out
        unfold Eid.enc at hy
        dsimp only at hy
        have HR := Lib.hid hR
        have hE1 : wr.heap.size ≤ w3.heap.size := hb3'.size
        have HS := Lib.hid hsz
        clear hb3 hpb hR hl q1 q2 t1 t2 hm1 hm2 hbb0 hpb0 hb3' hsz
        have HYY := Lib.hid hy
        clear hy
        go_upto_region 8 with (fail)
        refine (wpIn_wide (n := 10)).1 ?_
        have hy := HYY.out
        clear HYY
        gi_wp2
        refine HR.out.mono ?_
        rintro e W' (⟨rfl, hJ', hsame, hkf⟩ | ⟨rfl, hJx'⟩)
        · have HJ' := Lib.hid hJ'
          have HSame := Lib.hid hsame
          have HKF := Lib.hid hkf
          clear hJ' hsame hkf hy p0 p1 p2 p3 p4
          gi_wp2
          go_wp2
          go_roundw
          case rel => exact ⟨3, by omega, rfl, by rw [← HN.out]; exact HJ', rounds_keep HMr HBr1 HBr2 HLr HBB.out HSame.out HKF.out⟩
          case measure => simp [intOf]
        · have HJx' := Lib.hid hJx'
          clear hJx' hy p0 p1 p2 p3 p4
          gi_wp2
          go_wp2
          rw [show ∀ Q a w, Exit.noGoto Q .normal a w = Q .normal a w from fun _ _ _ => rfl]
          go_end0
          exact ⟨⟨_, rfl⟩, .inr ⟨_, HP.out, HJx'.out⟩⟩
      · have hne : ¬ [105, 112, 110] = word.toList := fun e => hw e.symm
        have t1 : ([105, 112, 110] == word.toList) = false := beq_eq_false_iff_ne.2 hne
        have t2 : ([105, 112, 110] != word.toList) = true := by rw [bne, t1]; rfl
        have HN := Lib.hid (show cands word rest 2 = cands word rest 3 by simp [cands, hw])
        unfold wIpn at hl
        clear hw hne
        go_wp2
        go_roundw
        case rel => exact ⟨3, by omega, rfl, by rw [← HN.out]; exact HJ.out _ _ _ HJr.out (KeptA.of_below (b_alloc (Below.refl _ _) _)), rounds_keep0 HMr HBr1 HBr2 HLr (b_alloc (Below.refl _ _) _)⟩
        case measure => simp [intOf]
    · go_wp2
      rw [show ∀ Q a w, Exit.noGoto Q .normal a w = Q .normal a w from fun _ _ _ => rfl]
      go_end0
      exact ⟨⟨_, rfl⟩, .inl HJr.out⟩
end Go.Proofs.YtandbobinjhehaaDoor.Hand
end
section
namespace Go.Proofs.YtandbobinjhehaaDoor.Hand
open Go.RowKit Go.Proofs.YtandbobinjhehaaDoor.SA Go.Proofs.YtandbobinjhehaaDoor.SB
def isHalf (word rest : ByteArray) (x : Eid) : Bool := (halvesS x.s x.n x.v x.a x.b).2.2 == 0 && ((halvesS x.s x.n x.v x.a x.b).1.toList == word.toList && (halvesS x.s x.n x.v x.a x.b).2.1.toList == rest.toList)
def zeroEid : Eid := ⟨0, ⟨#[]⟩, ⟨#[]⟩, 0, 0⟩
def joinS (word rest : ByteArray) : Option Eid := (cands word rest 3).find? (isHalf word rest)
def joinV : Option Eid → Value
  | some x => .tuple #[x.enc, .int .i64 0]
  | none => .tuple #[zeroEid.enc, .int .i64 60]
def eidCells (x : Eid) : Array Value := #[.int .i64 x.s, .string x.n, .string x.v, .int .i64 x.a, .int .i64 x.b]
attribute [local go_sem] Oper.semAt_some
theorem areAll3 (x y z : Bool) (g : Nat) (w : World) (h : w.heap[g]? = some (.cells #[.bool x, .bool y, .bool z] 4)) :
    Calls Tryd.prog 26 #[.slice (some ⟨g, 0, none⟩) 3 3] w fun e w' => e = .returned (.bool (x && (y && z))) ∧ Below w.heap.size w w' := by
  have hr : YtandbobinjhehaaDoorW.PrintWords.ReadsOf Value.bool false w (some ⟨g, 0, none⟩) 3 [x, y, z] := ⟨rfl, by decide, fun _ => ⟨_, rfl, fun j hj => by
    rw [YtandbobinjhehaaDoorW.PrintWords.add_plain, cell_blk h]
    rcases (show j = 0 ∨ j = 1 ∨ j = 2 by omega) with rfl | rfl | rfl <;> rfl⟩⟩
  have hc := YtandbobinjhehaaDoorW.PrintWords.Kd.C_of_reads (h1 := fun _ => rfl) hr
  refine (eid_areAll.calls 10 (some ⟨g, 0, none⟩) 3 [x, y, z] (x && (y && z)) w hc (Nat.le_refl _) ?_).mono fun _ _ h => ⟨h.1, h.2.below⟩
  rw [areAll_is _ _ (by simp) (by simp)]
  simp
theorem cands_size (word rest : ByteArray) (x : Eid) (h : x ∈ cands word rest 3) : x.n.size ≤ rest.size ∧ x.v.size ≤ rest.size := by
  have hp : (dtnParts rest).1.size ≤ rest.size ∧ (dtnParts rest).2.size ≤ rest.size := by
    unfold dtnParts
    have := cut_sizes (Lib.trimPrefix rest.data.toList [47, 47]) [47]
    have := trim_le rest
    simp only [txt_size]
    omega
  unfold cands at h
  simp only [List.mem_append] at h
  rcases h with h | h | h
  · split at h
    · simp only [List.mem_singleton] at h; subst h; exact ⟨Nat.zero_le _, Nat.zero_le _⟩
    · cases h
  · split at h
    · simp only [List.mem_singleton] at h; subst h; exact hp
    · cases h
  · split at h
    · simp only [List.mem_singleton] at h; subst h; exact ⟨Nat.zero_le _, Nat.zero_le _⟩
    · cases h
def joinFr (word rest : ByteArray) (w W : World) : Prop :=
  Below w.heap.size w W ∧ W.heap[w.heap.size]? = some (.cells #[.string word] 9) ∧ W.heap[w.heap.size + 1]? = some (.cells #[.string rest] 9) ∧ W.heap[w.heap.size + 2]? = some (.cells (eidCells zeroEid) 23) ∧ W.heap[w.heap.size + 3]? = some (.cells #[.int .i64 0] 27)
def joinTo (word rest : ByteArray) (w W : World) : Prop :=
  Below w.heap.size w W ∧ ∃ x, joinS word rest = some x ∧ W.heap[w.heap.size + 2]? = some (.cells (eidCells x) 23) ∧ W.heap[w.heap.size + 3]? = some (.cells #[.int .i64 0] 27)
theorem joinFr_keep {word rest : ByteArray} {w A B : World} {B0 : Nat} (h : joinFr word rest w A) (hk : KeptX (fun _ => False) B0 A B) (h0 : w.heap.size ≤ B0) : joinFr word rest w B :=
  ⟨hk.below h.1 h0 (Nat.le_refl _) (fun _ _ => id), hk.blk h.2.1 id, hk.blk h.2.2.1 id, hk.blk h.2.2.2.1 id, hk.blk h.2.2.2.2 id⟩
theorem joinTo_keep {word rest : ByteArray} {w A B : World} {B0 : Nat} (h : joinTo word rest w A) (hk : KeptX (fun _ => False) B0 A B) (h0 : w.heap.size ≤ B0) : joinTo word rest w B := by
  obtain ⟨hb, x, hj, h2, h3⟩ := h
  exact ⟨hk.below hb h0 (Nat.le_refl _) (fun _ _ => id), x, hj, hk.blk h2 id, hk.blk h3 id⟩
theorem joinFr_below {word rest : ByteArray} {w A B : World} (h : joinFr word rest w A) (hb : Below A.heap.size A B) : joinFr word rest w B := joinFr_keep (B0 := w.heap.size) h ((KeptA.of_below hb).kx _) (Nat.le_refl _)
theorem join_end (w W : World) (D : Nat) (x : Eid) (e : Int) (a : Act) (hd : a.defers = [{ target := .collected D, args := #[] }]) (h4 : a.tmps[4]? = some (.pointer (some ⟨w.heap.size + 1 + 1, 0, none⟩))) (h5 : a.tmps[5]? = some (.pointer (some ⟨w.heap.size + 1 + 1 + 1, 0, none⟩)))
    (h2 : W.heap[w.heap.size + 1 + 1]? = some (.cells (eidCells x) 23)) (h3 : W.heap[w.heap.size + 1 + 1 + 1]? = some (.cells #[.int .i64 e] 27)) (hD : W.heap[D]? = some (.deferred (some []))) (hDn : w.heap.size + 3 < D) (hb : Below w.heap.size w W) (v : Value) (hv : v = .tuple #[x.enc, .int .i64 e]) :
    bodyPostM Fence.wide 11 Tryd.prog Tryd.f13 (fun e w' => e = .returned v ∧ Below w.heap.size w w') .ret a W := by
  subst hv
  show LeavesInM Fence.wide 11 Tryd.prog Tryd.f13 a.tmps _ a.defers .returning W
  rw [hd]
  have hu := Tryd.underlying23
  have hb' : Below w.heap.size w (W.putObj D (.deferred none)) := hb.trans ⟨rfl, rfl, rfl, by simp, fun k hk => World.putObj_heap_other (by omega)⟩
  have g2 : (W.putObj D (.deferred none)).heap[w.heap.size + 1 + 1]? = some (.cells (eidCells x) 23) := (World.putObj_heap_other (by omega)).trans h2
  have g3 : (W.putObj D (.deferred none)).heap[w.heap.size + 1 + 1 + 1]? = some (.cells #[.int .i64 e] 27) := (World.putObj_heap_other (by omega)).trans h3
  refine ⟨by simp, .inl ⟨_, _, rfl, run_takeDeferred hD, ?_⟩⟩
  have c0 := cell_blk g2 0
  have c1 := cell_blk g2 1
  have c2 := cell_blk g2 2
  have c3 := cell_blk g2 3
  have c4 := cell_blk g2 4
  have d0 := cell_blk g3 0
  simp [eidCells] at c0 c1 c2 c3 c4 d0
  exact ⟨_, by simp [results, Tryd.f13, go_sem, Array.getD_eq_getD_getElem?, h4, h5, c0, c1, c2, c3, c4, d0, Eid.enc], rfl, hb'⟩
theorem set5 {W : World} {g : Nat} {t : TypeId} {y x : Eid} (h : W.heap[g]? = some (.cells (eidCells y) t)) :
    (((((W.setCell ⟨g, 0, none⟩ (.int .i64 x.s)).setCell ⟨g, 1, none⟩ (.string x.n)).setCell ⟨g, 2, none⟩ (.string x.v)).setCell ⟨g, 3, none⟩ (.int .i64 x.a)).setCell ⟨g, 4, none⟩ (.int .i64 x.b)).heap[g]? = some (.cells (eidCells x) t) :=
  YtandbobinjhehaaDoorW.PrintWords.blk_set (YtandbobinjhehaaDoorW.PrintWords.blk_set (YtandbobinjhehaaDoorW.PrintWords.blk_set (YtandbobinjhehaaDoorW.PrintWords.blk_set (YtandbobinjhehaaDoorW.PrintWords.blk_set h 0 _) 1 _) 2 _) 3 _) 4 _
theorem keepsOthers_below {A B : World} (h : Below A.heap.size A B) : KeepsOthers A B := ⟨h.size, fun _ _ hk _ => (h.block _ (Array.getElem?_eq_some_iff.1 hk).1).trans hk⟩
theorem keptR {n a b c k : Nat} (h1 : b = n + 6) (h2 : a = n + 4) (h3 : b ≤ c) (hk : k = a ∨ k = a + 1 ∨ k < NG) (h4 : 3 < n := by omega) : k < c := by
  rcases hk with rfl | rfl | hk
  · omega
  · omega
  · have : k < 3 + 1 := hk
    omega
theorem join_found {word rest : ByteArray} {pre : List Eid} {x : Eid} (hp : (pre ++ [x]) <+: cands word rest 3) (hn : ∀ z ∈ pre, isHalf word rest z = false) (hx : isHalf word rest x = true) : joinS word rest = some x := by
  obtain ⟨t, ht⟩ := hp
  unfold joinS
  rw [← ht, List.append_assoc, List.find?_append, List.find?_eq_none.2 (fun z hz => by rw [hn z hz]; decide)]
  simp [hx]
theorem alloc4 (w : World) (o0 o1 o2 o3 : Obj) : (((((w.alloc o0).alloc o1).alloc o2).alloc o3).heap.size = w.heap.size + 4) ∧ ((((w.alloc o0).alloc o1).alloc o2).alloc o3).heap[w.heap.size]? = some o0 ∧
    ((((w.alloc o0).alloc o1).alloc o2).alloc o3).heap[w.heap.size + 1]? = some o1 ∧ ((((w.alloc o0).alloc o1).alloc o2).alloc o3).heap[w.heap.size + 2]? = some o2 ∧ ((((w.alloc o0).alloc o1).alloc o2).alloc o3).heap[w.heap.size + 3]? = some o3 := by
  have h0 := World.alloc_heap_new w o0
  have h1 := World.alloc_heap_new (w.alloc o0) o1
  have h2 := World.alloc_heap_new ((w.alloc o0).alloc o1) o2
  have h3 := World.alloc_heap_new (((w.alloc o0).alloc o1).alloc o2) o3
  simp only [World.size_alloc] at h1 h2 h3
  refine ⟨by simp, ?_, ?_, ?_, h3⟩
  · exact YtandbobinjhehaaDoorW.PrintWords.blk_alloc (YtandbobinjhehaaDoorW.PrintWords.blk_alloc (YtandbobinjhehaaDoorW.PrintWords.blk_alloc h0 _) _) _
  · exact YtandbobinjhehaaDoorW.PrintWords.blk_alloc (YtandbobinjhehaaDoorW.PrintWords.blk_alloc h1 _) _
  · exact YtandbobinjhehaaDoorW.PrintWords.blk_alloc h2 _
theorem alloc2 (w : World) (o0 o1 : Obj) : (((w.alloc o0).alloc o1).heap.size = w.heap.size + 2) ∧ ((w.alloc o0).alloc o1).heap[w.heap.size]? = some o0 ∧ ((w.alloc o0).alloc o1).heap[w.heap.size + 1]? = some o1 := by
  have h0 := World.alloc_heap_new w o0
  have h1 := World.alloc_heap_new (w.alloc o0) o1
  simp only [World.size_alloc] at h1
  exact ⟨by simp, YtandbobinjhehaaDoorW.PrintWords.blk_alloc h0 _, h1⟩
set_option maxRecDepth 100000 in
set_option maxHeartbeats 4000000 in
theorem join_walk (word rest : ByteArray) (w : World) (hL : Laid w) (hr : rest.size < 4294967281) (h3 : 3 < w.heap.size) :
    Calls Tryd.prog 13 #[.string word, .string rest] w fun e w' =>
      e = .returned (joinV (joinS word rest)) ∧ Below w.heap.size w w' := by
  have hu := Tryd.underlying23
  have HL := Lib.hid hL
  clear hL
  refine (callsIn_wide (n := 11)).1 (callsIn_of_wp_marks Tryd.func13 rfl trivial (wpIn_wide.2 ?_) rfl)
  simp only [Tryd.ntmps13, List.size_toArray, List.length_cons, List.length_nil, Nat.reduceAdd, Nat.reduceSub, Array.replicate_succ, Array.replicate_zero, List.push_toArray, List.append_toArray, List.nil_append, List.cons_append]
  go_wp2_with (fail)
  obtain ⟨w1, hw1⟩ : ∃ w1, w1 = (((w.alloc (.cells #[.string word] 9)).alloc (.cells #[.string rest] 9)).alloc (.cells #[.int .i64 0, .string ⟨#[]⟩, .string ⟨#[]⟩, .int .i64 0, .int .i64 0] 23)).alloc (.cells #[.int .i64 0] 27) := ⟨_, rfl⟩
  have hb1 : Below w.heap.size w w1 := by rw [hw1]; exact b_alloc (b_alloc (b_alloc (b_alloc (Below.refl _ _) _) _) _) _
  obtain ⟨hs1, hz0, hz1, hz2, hz3⟩ := alloc4 w (.cells #[.string word] 9) (.cells #[.string rest] 9) (.cells #[.int .i64 0, .string ⟨#[]⟩, .string ⟨#[]⟩, .int .i64 0, .int .i64 0] 23) (.cells #[.int .i64 0] 27)
  rw [← hw1] at hs1 hz0 hz1 hz2 hz3
  rw [← hw1]
  clear hw1
  refine (readings_calls word rest w1).mono ?_
  rintro e w2' ⟨rfl, hw2⟩
  obtain ⟨hs2, hy0, hy1⟩ := alloc2 w1 (.cells #[.string word] 9) (.cells #[.string rest] 9)
  have hb2 : Below w1.heap.size w1 w2' := by rw [← hw2]; exact b_alloc (b_alloc (Below.refl _ _) _) _
  rw [hw2] at hs2 hy0 hy1
  clear hw2
  obtain ⟨w2, rfl⟩ : ∃ w2, w2 = w2' := ⟨_, rfl⟩
  have keep : ∀ (k : Nat) (o : Obj), w1.heap[k]? = some o → w2.heap[k]? = some o := fun k o h => (hb2.block _ (Array.getElem?_eq_some_iff.1 h).1).trans h
  have HZ0 := Lib.hid (keep _ _ hz0)
  have HZ1 := Lib.hid (keep _ _ hz1)
  have HZ2 := Lib.hid (keep _ _ hz2)
  have HZ3 := Lib.hid (keep _ _ hz3)
  have HB := Lib.hid (hb1.trans (hb2.mono hb1.size))
  have HL2 := Lib.hid (HL.out.below (hb1.trans (hb2.mono hb1.size)))
  have HY0 := Lib.hid hy0
  have HY1 := Lib.hid hy1
  have HS2 := Lib.hid (show w2.heap.size = w.heap.size + 6 by omega)
  have hS1 := Lib.hid hs1
  clear keep hz0 hz1 hz2 hz3 hb1 hb2 hy0 hy1 hs2 hs1
  go_wp2_with (fail)
  refine rangeFuncW (gf := 43) (lb := #[.pointer (some ⟨w1.heap.size, 0, none⟩), .pointer (some ⟨w1.heap.size + 1, 0, none⟩)]) rfl (Go.Proofs.enters_of Tryd.func43 (by kernel_rfl) rfl)
    (readings_iter word rest w1.heap.size (w1.heap.size + 1) w2 HL2.out hr HY0.out HY1.out (by have := HS2.out; omega)) (fun _ h => h.elim) ?hR (Below.refl _ _) (fun _ => rfl)
    (fun pre W => (∀ x ∈ pre, isHalf word rest x = false) ∧ joinFr word rest w W) (fun c _ W => c = .ret ∧ joinTo word rest w W)
    ?hI ?hIx ?h0 ?hround ?hdone ?hstop
  case hR =>
    have e1 := HS2.out
    have e2 := hS1.out
    rintro k (rfl | rfl | h)
    · omega
    · omega
    · have : k < 3 + 1 := h
      omega
  case hI => exact fun s A B hs hk => ⟨hs.1, joinFr_keep hs.2 hk (by have := HS2.out; omega)⟩
  case hIx => exact fun c s A B hs hk => ⟨hs.1, joinTo_keep hs.2 hk (by have := HS2.out; omega)⟩
  case h0 => exact ⟨(fun x hx => by cases hx), HB.out, HZ0.out, HZ1.out, HZ2.out, HZ3.out⟩
  case hround =>
    intro l pre x W K hlw hloop hi hpre hK
    obtain ⟨hno, hfr⟩ := hi
    have hxm : x ∈ cands word rest 3 := hpre.subset (by simp)
    obtain ⟨hxn, hxv⟩ := cands_size word rest x hxm
    have HK := Lib.hid hK
    have HFR := Lib.hid hfr
    have HNO := Lib.hid hno
    have HPRE := Lib.hid hpre
    clear hK hfr hno hpre hxm
    unfold Eid.enc
    dsimp only
    gi_wp2
    refine HK.out _ _ ((KeepsOthers.alloc _ _).from _) (fun k hk => Below.heap_alloc _ _ _ ?_) ?_
    · obtain ⟨r0, hr0⟩ := hloop
      have hl0 : l < W.heap.size := (Array.getElem?_eq_some_iff.1 hr0).1
      have e1 := HS2.out
      have e2 := hS1.out
      rcases hk with rfl | rfl | hk
      · omega
      · omega
      · have : k < 3 + 1 := hk
        omega
    · intro W1 hkx hl1 hsz1
      have hxb := hkx.blk (World.alloc_heap_new W (.cells #[.int .i64 x.s, .string x.n, .string x.v, .int .i64 x.a, .int .i64 x.b] 23)) id
      have hfr1 := joinFr_keep (joinFr_below HFR.out (b_alloc (Below.refl _ _) _)) hkx (by have := HS2.out; omega)
      have hxlt : W.heap.size < W1.heap.size := (Array.getElem?_eq_some_iff.1 hxb).1
      have x0 : W1.cell? ⟨W.heap.size, 0, none⟩ = some (.int .i64 x.s) := cell_blk hxb 0
      have x1 : W1.cell? ⟨W.heap.size, 1, none⟩ = some (.string x.n) := cell_blk hxb 1
      have x2 : W1.cell? ⟨W.heap.size, 2, none⟩ = some (.string x.v) := cell_blk hxb 2
      have x3 : W1.cell? ⟨W.heap.size, 3, none⟩ = some (.int .i64 x.a) := cell_blk hxb 3
      have x4 : W1.cell? ⟨W.heap.size, 4, none⟩ = some (.int .i64 x.b) := cell_blk hxb 4
      have HXB := Lib.hid hxb
      have HF1 := Lib.hid hfr1
      clear hxb hfr1 hkx hl1
      obtain ⟨y1, y2, y3, hy⟩ : ∃ y1 y2 y3, halvesS x.s x.n x.v x.a x.b = (y1, y2, y3) := ⟨_, _, _, rfl⟩
      have HYY := Lib.hid hy
      clear hy
      gi_wp2_with (fail)
      refine ⟨trivial, (CallsIn.inRound l (callsIn_wide.2 (eid_Halves.calls x.s x.n x.v x.a x.b y1 y2 y3 W1 (HL.out.below HF1.out.1) ?_))).mono ?_⟩
      · unfold eid_Halves.f
        rw [if_pos ⟨by unfold maxLen; omega, by unfold maxLen; omega⟩, HYY.out]
      · rintro e w4 ⟨rfl, hb4⟩
        have hfr4 := joinFr_below HF1.out hb4
        have hxb4 := (hb4.block _ hxlt).trans HXB.out
        have hw0 : w4.cell? ⟨w.heap.size, 0, none⟩ = some (.string word) := cell_blk hfr4.2.1 0
        have hw1 : w4.cell? ⟨w.heap.size + 1, 0, none⟩ = some (.string rest) := cell_blk hfr4.2.2.1 0
        have HF4 := Lib.hid hfr4
        have HX4 := Lib.hid hxb4
        have HB4 := Lib.hid hb4
        clear hfr4 hxb4 hb4
        gi_wp2_with (fail)
        refine ⟨trivial, (CallsIn.inRound l (callsIn_wide.2 (areAll3 (y3 == 0) (y1.toList == word.toList) (y2.toList == rest.toList) w4.heap.size _ (World.alloc_heap_new _ _)))).mono ?_⟩
        rintro e w5 ⟨rfl, hb5⟩
        have hb45 : Below w4.heap.size w4 w5 := (b_alloc (Below.refl _ _) _).trans (hb5.mono (by simp))
        have hfr5 := joinFr_below HF4.out hb45
        have hxlt4 : W.heap.size < w4.heap.size := (Array.getElem?_eq_some_iff.1 HX4.out).1
        have hxb5 := (hb45.block _ hxlt4).trans HX4.out
        have hb15 : Below W1.heap.size W1 w5 := HB4.out.trans (hb45.mono HB4.out.size)
        have hval : (y3 == 0 && (y1.toList == word.toList && y2.toList == rest.toList)) = isHalf word rest x := by unfold isHalf; rw [HYY.out]
        rw [hval]
        have HF5 := Lib.hid hfr5
        have HX5 := Lib.hid hxb5
        have HB15 := Lib.hid hb15
        clear hb5 hb45 hfr5 hxb5 hb15 hval hw0 hw1 x0 x1 x2 x3 x4
        cases hh : isHalf word rest x with
        | false =>
          have HH := Lib.hid hh
          clear hh
          gi_wp2
          exact ⟨(keepsOthers_below HB15.out).from _, fun k hk => HB15.out.block k (keptR HS2.out hS1.out hsz1 hk), fun z hz => by
            rcases List.mem_append.1 hz with hz | hz
            · exact HNO.out z hz
            · rw [List.mem_singleton.1 hz]; exact HH.out, HF5.out⟩
        | true =>
          have HH := Lib.hid hh
          clear hh
          have g0 : w5.cell? ⟨W.heap.size, 0, none⟩ = some (.int .i64 x.s) := cell_blk HX5.out 0
          have g1 : w5.cell? ⟨W.heap.size, 1, none⟩ = some (.string x.n) := cell_blk HX5.out 1
          have g2 : w5.cell? ⟨W.heap.size, 2, none⟩ = some (.string x.v) := cell_blk HX5.out 2
          have g3 : w5.cell? ⟨W.heap.size, 3, none⟩ = some (.int .i64 x.a) := cell_blk HX5.out 3
          have g4 : w5.cell? ⟨W.heap.size, 4, none⟩ = some (.int .i64 x.b) := cell_blk HX5.out 4
          gi_wp2_with (fail)
          refine ⟨trivial, (CallsIn.inRound l (callsIn_wide.2 (api_Eid.calls x.s x.n x.v x.a x.b true x.s x.n x.v x.a x.b 0 _ (by unfold api_Eid.f; rw [if_pos rfl])))).mono ?_⟩
          rintro e w6 ⟨rfl, hb6⟩
          have hfr6 := joinFr_below HF5.out hb6
          have k2 : w6.heap[w.heap.size + 1 + 1]? = some (.cells (eidCells zeroEid) 23) := hfr6.2.2.2.1
          have k3 : w6.heap[w.heap.size + 1 + 1 + 1]? = some (.cells #[.int .i64 0] 27) := hfr6.2.2.2.2
          have c0 : w6.cell? ⟨w.heap.size + 1 + 1, 0, none⟩ = some (.int .i64 0) := cell_blk k2 0
          have c1 : w6.cell? ⟨w.heap.size + 1 + 1, 1, none⟩ = some (.string ⟨#[]⟩) := cell_blk k2 1
          have c2 : w6.cell? ⟨w.heap.size + 1 + 1, 2, none⟩ = some (.string ⟨#[]⟩) := cell_blk k2 2
          have c3 : w6.cell? ⟨w.heap.size + 1 + 1, 3, none⟩ = some (.int .i64 0) := cell_blk k2 3
          have c4 : w6.cell? ⟨w.heap.size + 1 + 1, 4, none⟩ = some (.int .i64 0) := cell_blk k2 4
          have d0 : w6.cell? ⟨w.heap.size + 1 + 1 + 1, 0, none⟩ = some (.int .i64 0) := cell_blk k3 0
          have f0 : ∀ j, w6.frozen? ⟨w.heap.size + 1 + 1, j, none⟩ = false := fun j => frozen_blk k2 j
          have f1 : w6.frozen? ⟨w.heap.size + 1 + 1 + 1, 0, none⟩ = false := frozen_blk k3 0
          have HK2 := Lib.hid k2
          have HK3 := Lib.hid k3
          have HF6 := Lib.hid hfr6
          have HB6 := Lib.hid hb6
          clear k2 k3 hfr6 hb6 g0 g1 g2 g3 g4
          gi_wp2
          refine ⟨?_, rfl, ?_, x, ?_, ?_, ?_⟩
          · have hk : KeepsOthers W1 w6 := (keepsOthers_below HB15.out).trans (keepsOthers_below HB6.out)
            exact ((((((hk.trans (KeepsOthers.setCell _ _ _)).trans (KeepsOthers.setCell _ _ _)).trans (KeepsOthers.setCell _ _ _)).trans (KeepsOthers.setCell _ _ _)).trans (KeepsOthers.setCell _ _ _)).trans (KeepsOthers.setCell _ _ _)).from _
          · iterate 6 refine Below.setCell ?_ (by simp; omega) _
            exact HF6.out.1
          · exact join_found HPRE.out HNO.out HH.out
          · exact (Below.heap_setCell _ _ _ _ (by simp)).trans (set5 (x := x) HK2.out)
          · refine YtandbobinjhehaaDoorW.PrintWords.blk_set (?_ : _ = some (Obj.cells #[.int .i64 0] 27)) 0 _
            iterate 5 refine (Below.heap_setCell _ _ _ _ (by simp)).trans ?_
            exact HK3.out
  case hdone =>
    intro D W hD hi hd
    obtain ⟨hno, hb, hf0, hf1, hf2, hf3⟩ := hi
    have hj : joinS word rest = none := List.find?_eq_none.2 fun x hx => by rw [hno x hx]; decide
    have HD := Lib.hid hd
    have HBB := Lib.hid hb
    have HF2 := Lib.hid hf2
    have HF3 := Lib.hid hf3
    have HJN := Lib.hid hj
    have hs2 := HS2.out
    have hn2 : w.heap.size + 2 < W.heap.size := (Array.getElem?_eq_some_iff.1 hf2).1
    have hn3 : w.heap.size + 3 < W.heap.size := (Array.getElem?_eq_some_iff.1 hf3).1
    have hDW : D < W.heap.size := (Array.getElem?_eq_some_iff.1 hd).1
    have hDn : w.heap.size + 3 < D := by omega
    clear hd hb hf0 hf1 hf2 hf3 hno hj hs2 hD
    go_wp2_with (fail)
    refine (api_Eid.calls 0 ⟨#[]⟩ ⟨#[]⟩ 0 0 false 0 ⟨#[]⟩ ⟨#[]⟩ 0 0 60 _ (by unfold api_Eid.f; rw [if_neg (by decide)])).mono ?_
    rintro e w5 ⟨rfl, hb5⟩
    have k2 : w5.heap[w.heap.size + 1 + 1]? = some (.cells (eidCells zeroEid) 23) := (hb5.block _ hn2).trans HF2.out
    have k3 : w5.heap[w.heap.size + 1 + 1 + 1]? = some (.cells #[.int .i64 0] 27) := (hb5.block _ hn3).trans HF3.out
    have hD5 : w5.heap[D]? = some (.deferred (some [])) := (hb5.block _ hDW).trans HD.out
    have c0 : w5.cell? ⟨w.heap.size + 1 + 1, 0, none⟩ = some (.int .i64 0) := cell_blk k2 0
    have c1 : w5.cell? ⟨w.heap.size + 1 + 1, 1, none⟩ = some (.string ⟨#[]⟩) := cell_blk k2 1
    have c2 : w5.cell? ⟨w.heap.size + 1 + 1, 2, none⟩ = some (.string ⟨#[]⟩) := cell_blk k2 2
    have c3 : w5.cell? ⟨w.heap.size + 1 + 1, 3, none⟩ = some (.int .i64 0) := cell_blk k2 3
    have c4 : w5.cell? ⟨w.heap.size + 1 + 1, 4, none⟩ = some (.int .i64 0) := cell_blk k2 4
    have d0 : w5.cell? ⟨w.heap.size + 1 + 1 + 1, 0, none⟩ = some (.int .i64 0) := cell_blk k3 0
    have f0 : ∀ j, w5.frozen? ⟨w.heap.size + 1 + 1, j, none⟩ = false := fun j => frozen_blk k2 j
    have f1 : w5.frozen? ⟨w.heap.size + 1 + 1 + 1, 0, none⟩ = false := frozen_blk k3 0
    have HK2 := Lib.hid k2
    have HK3 := Lib.hid k3
    have HD5 := Lib.hid hD5
    have HB5 := Lib.hid hb5
    clear k2 k3 hD5 hb5
    go_wp2
    refine join_end w _ D zeroEid 60 _ rfl rfl rfl ?_ ?_ ?_ hDn ?_ _ (by rw [HJN.out]; rfl)
    · exact (Below.heap_setCell _ _ _ _ (by simp)).trans (set5 (x := zeroEid) HK2.out)
    · refine YtandbobinjhehaaDoorW.PrintWords.blk_set (?_ : _ = some (Obj.cells #[.int .i64 0] 27)) 0 _
      iterate 5 refine (Below.heap_setCell _ _ _ _ (by simp)).trans ?_
      exact HK3.out
    · iterate 6 refine (Below.heap_setCell _ _ _ _ (by simp; omega)).trans ?_
      exact HD5.out
    · have hbw := HBB.out.trans (HB5.out.mono HBB.out.size)
      iterate 6 refine Below.setCell ?_ (by simp; omega) _
      exact hbw
  case hstop =>
    intro D c pre W hD hp hx hd
    obtain ⟨rfl, hb, x, hj, hf2, hf3⟩ := hx
    have HJN := Lib.hid hj
    have hs2 := HS2.out
    have hDn : w.heap.size + 3 < D := by omega
    clear hj hs2 hD
    go_wp2
    exact join_end w W D x 0 _ rfl rfl rfl hf2 hf3 hd hDn hb _ (by rw [HJN.out]; rfl)
end Go.Proofs.YtandbobinjhehaaDoor.Hand
end
section
namespace Go.Proofs.YtandbobinjhehaaDoor.Hand
open Go.RowKit
theorem Laid.size {w : World} (h : Laid w) : 3 < w.heap.size := by
  obtain ⟨_, _, _, ⟨_, _, h2⟩⟩ := h
  have := World.block_lt_of_cell? w _ h2
  exact Nat.lt_of_le_of_lt (by decide) this
def joinT (a0 a1 : ByteArray) : Int × ByteArray × ByteArray × Int × Int × Int :=
  match joinS a0 a1 with
  | some x => (x.s, x.n, x.v, x.a, x.b, 0)
  | none => (0, ⟨#[]⟩, ⟨#[]⟩, 0, 0, 60)
def eid_Join.f (a0 a1 : ByteArray) : Option (Int × ByteArray × ByteArray × Int × Int × Int) := if a1.size < 4294967281 then some (joinT a0 a1) else none
theorem eid_Join.calls (a0 a1 : ByteArray) (r1 : Int) (r2 r3 : ByteArray) (r4 r5 r6 : Int) (w : World) (hLd : Laid w) (h : eid_Join.f a0 a1 = some (r1, r2, r3, r4, r5, r6)) :
    Calls Tryd.prog 13 #[.string a0, .string a1] w fun e w' => e = .returned (.tuple #[.agg #[.int .i64 r1, .string r2, .string r3, .int .i64 r4, .int .i64 r5], .int .i64 r6]) ∧ Below w.heap.size w w' := by
  unfold eid_Join.f at h
  split at h
  case isFalse => cases h
  rename_i hs
  obtain h := Option.some.inj h
  refine (join_walk a0 a1 w hLd hs hLd.size).mono fun e w' he => ⟨?_, he.2⟩
  rw [he.1]
  unfold joinT at h
  cases hj : joinS a0 a1 with
  | none =>
    rw [hj] at h
    simp only [Prod.mk.injEq] at h
    obtain ⟨rfl, rfl, rfl, rfl, rfl, rfl⟩ := h
    rfl
  | some x =>
    rw [hj] at h
    simp only [Prod.mk.injEq] at h
    obtain ⟨rfl, rfl, rfl, rfl, rfl, rfl⟩ := h
    rfl
end Go.Proofs.YtandbobinjhehaaDoor.Hand
end
section
namespace Go.Proofs.YtandbobinjhehaaDoor.SC
open Go.Proofs.YtandbobinjhehaaDoor.Hand
open Go.Proofs.YtandbobinjhehaaDoor.SA
open Go.RowKit Go.Proofs.YtandbobinjhehaaDoorW.PrintWords Go.Proofs.YtandbobinjhehaaDoorW.PrintLast Go.Proofs.YtandbobinjhehaaDoorW.PrintMore
attribute [local go_sem] max2_int min2_int max_two min_two max_three min_three max_four min_four
set_option linter.unusedVariables false
set_option linter.unusedSimpArgs false
def errW : Option Int → Value
  | none => .nilIface
  | some c => .iface 0 (.int .i64 c)
theorem errW_none : errW none = .nilIface := rfl
theorem errW_some (c : Int) : errW (some c) = .iface 0 (.int .i64 c) := rfl
end Go.Proofs.YtandbobinjhehaaDoor.SC
end
section
namespace Go.Proofs.YtandbobinjhehaaDoor.SC
open Go.Proofs.YtandbobinjhehaaDoor.Hand
open Go.Proofs.YtandbobinjhehaaDoor.SA
open Go.RowKit Go.Proofs.YtandbobinjhehaaDoorW.PrintWords Go.Proofs.YtandbobinjhehaaDoorW.PrintLast Go.Proofs.YtandbobinjhehaaDoorW.PrintMore
attribute [local go_sem] max2_int min2_int max_two min_two max_three min_three max_four min_four
set_option linter.unusedVariables false
set_option linter.unusedSimpArgs false
def eid_Print.f (a0_0 : Int) (a0_1 : ByteArray) (a0_2 : ByteArray) (a0_3 : Int) (a0_4 : Int) : Option (ByteArray × Int) := (eid_Halves.f a0_0 a0_1 a0_2 a0_3 a0_4).bind fun bt102 => (if bt102.1.size + 1 ≤ 9223372036854775807 then (if bt102.1.size + 1 + bt102.2.1.size ≤ 9223372036854775807 then ((eid_either_string.f ((bt102.1 ++ (⟨#[58]⟩ : ByteArray)) ++ bt102.2.1) (bt102.2.2 == 0)).bind fun bt105 => (some (bt105.1, bt105.2))) else (none)) else (none))
set_option maxHeartbeats 8000000 in
set_option maxRecDepth 100000 in
theorem eid_Print.calls (a0_0 : Int) (a0_1 : ByteArray) (a0_2 : ByteArray) (a0_3 : Int) (a0_4 : Int) (r1 : ByteArray) (r2 : Int) (w : World) (hLd : Laid w) (h : eid_Print.f a0_0 a0_1 a0_2 a0_3 a0_4 = some (r1, r2)) :
    Calls Tryd.prog 15 #[.agg #[.int .i64 a0_0, .string a0_1, .string a0_2, .int .i64 a0_3, .int .i64 a0_4]] w fun e w' => e = .returned (.tuple #[.string r1, .int .i64 r2]) ∧ Below w.heap.size w w' := by
  have hu23 := Tryd.underlying23
  have HLD := Aside0.mk hLd
  clear hLd
  have HB := Aside0.mk (Below.refl w.heap.size w)
  have H : ((eid_Halves.f a0_0 a0_1 a0_2 a0_3 a0_4).bind fun bt102 => (if bt102.1.size + 1 ≤ 9223372036854775807 then (if bt102.1.size + 1 + bt102.2.1.size ≤ 9223372036854775807 then ((eid_either_string.f ((bt102.1 ++ (⟨#[58]⟩ : ByteArray)) ++ bt102.2.1) (bt102.2.2 == 0)).bind fun bt105 => (some (bt105.1, bt105.2))) else (none)) else (none))) = some (r1, r2) := h
  clear h
  replace H := Option.bind_eq_some_iff.mp H
  obtain ⟨⟨t102, t103, t104⟩, A20, H⟩ := H
  replace H : (if t102.size + 1 ≤ 9223372036854775807 then (if t102.size + 1 + t103.size ≤ 9223372036854775807 then ((eid_either_string.f ((t102 ++ (⟨#[58]⟩ : ByteArray)) ++ t103) (t104 == 0)).bind fun bt105 => (some (bt105.1, bt105.2))) else (none)) else (none)) = some (r1, r2) := H
  have A2 := Aside0.mk A20
  clear A20
  by_cases c3 : t102.size + 1 ≤ 9223372036854775807
  · rw [if_pos c3] at H
    have c3b0 := eq_true c3
    have c3b1 : decide (t102.size + 1 ≤ 9223372036854775807) = true := decide_eq_true c3
    try have c3b2 : (9223372036854775807 < t102.size + 1) = False := eq_false (Nat.not_lt.2 c3)
    by_cases c4 : t102.size + 1 + t103.size ≤ 9223372036854775807
    · rw [if_pos c4] at H
      have c4b0 := eq_true c4
      have c4b1 : decide (t102.size + 1 + t103.size ≤ 9223372036854775807) = true := decide_eq_true c4
      try have c4b2 : (9223372036854775807 < t102.size + 1 + t103.size) = False := eq_false (Nat.not_lt.2 c4)
      replace H := Option.bind_eq_some_iff.mp H
      obtain ⟨⟨t105, t106⟩, A50, H⟩ := H
      replace H : (some (t105, t106)) = some (r1, r2) := H
      have A5 := Aside0.mk A50
      clear A50
      simp only [Option.some.injEq, Prod.mk.injEq] at H
      obtain ⟨rfl, rfl⟩ := H
      go_enter Tryd.func15, Tryd.ntmps15
      go_wp2_with (first | ((with_reducible refine gate_dst (N := 1) rfl ?_); refine box_event ?hg (N := 1) ?hd (cs := #[.int .i64 a0_0, .string a0_1, .string a0_2, .int .i64 a0_3, .int .i64 a0_4]) (t := 23) ?hr ?_; (case hd => rfl); (case hg => rfl); (case hr => first | (go_simp; done) | (go_simp; rfl) | (go_simp; simp only [isEmpty_ne, isEmpty_eq]; done) | (go_simp; simp only [isEmpty_ne, isEmpty_eq]; rfl)); intro gb101 hg w6 hbox hb; have n0_ := Aside0.mk (below_step (by repeat (first | (with_reducible first | exact HB.out | apply below_alloc | apply pw_below_drewN | apply below_drew1) | exact HB.out)) hb); have n1_ := Aside0.mk (hbox); have n2_ := Aside0.mk ((by rw [hg]; exact (below_size (by repeat (first | (with_reducible first | exact HB.out | apply below_alloc | apply pw_below_drewN | apply below_drew1) | exact HB.out))) : w.heap.size ≤ gb101)); have n3_ := Aside0.mk ((by rw [hg]; exact (below_size (by repeat (first | (with_reducible first | exact HB.out | apply below_alloc | apply pw_below_drewN | apply below_drew1) | exact HB.out))) : w.heap.size ≤ gb101)); clear HB; have HB := n0_; have BK101 := n1_; have GW101 := n2_; have GE101 := n3_; clear n0_ n1_ n2_ n3_; clear hb hbox hg; have hcz7_0 : w6.cell? ⟨gb101, 0, none⟩ = some (.int .i64 a0_0) := (blk_cell BK101.out 0).trans rfl; have hcz7_1 : w6.cell? ⟨gb101, 1, none⟩ = some (.string a0_1) := (blk_cell BK101.out 1).trans rfl; have hcz7_2 : w6.cell? ⟨gb101, 2, none⟩ = some (.string a0_2) := (blk_cell BK101.out 2).trans rfl; have hcz7_3 : w6.cell? ⟨gb101, 3, none⟩ = some (.int .i64 a0_3) := (blk_cell BK101.out 3).trans rfl; have hcz7_4 : w6.cell? ⟨gb101, 4, none⟩ = some (.int .i64 a0_4) := (blk_cell BK101.out 4).trans rfl; have hfz7_0 := blk_frozen BK101.out 0; have hfz7_1 := blk_frozen BK101.out 1; have hfz7_2 := blk_frozen BK101.out 2; have hfz7_3 := blk_frozen BK101.out 3; have hfz7_4 := blk_frozen BK101.out 4) | ((with_reducible refine gate_callee (f := 11) rfl ?_); refine goesL_ (some 9) rfl rfl Tryd.func11 (by kernel_rfl) rfl #[.agg #[.int .i64 a0_0, .string a0_1, .string a0_2, .int .i64 a0_3, .int .i64 a0_4]] rfl (by (try simp only [List.map_toArray, List.map_cons, List.map_nil]); first | done | rfl | (simp only [List.length_drop, List.length_take]; rfl)) ?_; (with_reducible refine (eid_Halves.calls a0_0 a0_1 a0_2 a0_3 a0_4 t102 t103 t104 _ ?side1 A2.out).mono ?_); (case side1 => exact Laid.below HLD.out (by repeat (first | (with_reducible first | exact HB.out | apply below_alloc | apply pw_below_drewN | apply below_drew1 | refine below_set ?_ GE101.out) | exact HB.out))); rintro e w8 ⟨rfl, hb⟩; refine ⟨_, rfl, ?_⟩; have n0_ := Aside0.mk (blk_below (g := gb101) (o := .cells #[.int .i64 a0_0, .string a0_1, .string a0_2, .int .i64 a0_3, .int .i64 a0_4] 23 (0, 0)) (by (with_reducible repeat (first | refine blk_drewN ?_ _ | refine blk_drew ?_ | refine blk_alloc ?_ _)); exact BK101.out) hb); have n1_ := Aside0.mk (below_step (by repeat (first | (with_reducible first | exact HB.out | apply below_alloc | apply pw_below_drewN | apply below_drew1 | refine below_set ?_ GE101.out) | exact HB.out)) hb); clear BK101; clear HB; have BK101 := n0_; have HB := n1_; clear n0_ n1_; (try clear hb); (try clear hb2); (try clear hk); (try clear hi)) | ((with_reducible refine gate_callee (f := 30) rfl ?_); refine goesL_ (some 19) rfl rfl Tryd.func30 (by kernel_rfl) rfl #[.string ((t102 ++ (⟨#[58]⟩ : ByteArray)) ++ t103), .bool (t104 == 0)] rfl (by (try simp only [List.map_toArray, List.map_cons, List.map_nil]); first | done | rfl | (simp only [List.length_drop, List.length_take]; rfl)) ?_; (with_reducible refine (eid_either_string.calls ((t102 ++ (⟨#[58]⟩ : ByteArray)) ++ t103) (t104 == 0) t105 t106 _ A5.out).mono ?_); rintro e w' ⟨rfl, ⟨nd, rfl⟩⟩; refine ⟨_, rfl, ?_⟩))
      all_goals (first | (go_ret2; exact ⟨by first | rfl | (simp [errW_none, errW_some] <;> rfl) | (simp [*, errW_none, errW_some] <;> rfl) | (simp_all; done), by repeat (first | (with_reducible first | exact HB.out | apply below_alloc | apply pw_below_drewN | apply below_drew1 | refine below_set ?_ GE101.out) | exact HB.out)⟩) | (exfalso; simp_all; done))
    · rw [if_neg c4] at H
      exact absurd H (by simp)
  · rw [if_neg c3] at H
    exact absurd H (by simp)
def eid_Parse.f (a0 : ByteArray) : Option (Int × ByteArray × ByteArray × Int × Int × Int) := (strings_Cut.f a0 (⟨#[58]⟩ : ByteArray)).bind fun bt108 => (if bt108.2.2 = true then ((eid_Join.f bt108.1 bt108.2.1).bind fun bt111 => (some (bt111.1, bt111.2.1, bt111.2.2.1, bt111.2.2.2.1, bt111.2.2.2.2.1, bt111.2.2.2.2.2))) else ((api_Eid.f 0 (⟨#[]⟩ : ByteArray) (⟨#[]⟩ : ByteArray) 0 0 false).bind fun bt117 => (some (bt117.1, bt117.2.1, bt117.2.2.1, bt117.2.2.2.1, bt117.2.2.2.2.1, bt117.2.2.2.2.2))))
set_option maxHeartbeats 8000000 in
set_option maxRecDepth 100000 in
theorem eid_Parse.calls (a0 : ByteArray) (r1 : Int) (r2 : ByteArray) (r3 : ByteArray) (r4 : Int) (r5 : Int) (r6 : Int) (w : World) (hLd : Laid w) (h : eid_Parse.f a0 = some (r1, r2, r3, r4, r5, r6)) :
    Calls Tryd.prog 17 #[.string a0] w fun e w' => e = .returned (.tuple #[.agg #[.int .i64 r1, .string r2, .string r3, .int .i64 r4, .int .i64 r5], .int .i64 r6]) ∧ Below w.heap.size w w' := by
  have hu23 := Tryd.underlying23
  have HLD := Aside0.mk hLd
  clear hLd
  have HB := Aside0.mk (Below.refl w.heap.size w)
  have H : ((strings_Cut.f a0 (⟨#[58]⟩ : ByteArray)).bind fun bt108 => (if bt108.2.2 = true then ((eid_Join.f bt108.1 bt108.2.1).bind fun bt111 => (some (bt111.1, bt111.2.1, bt111.2.2.1, bt111.2.2.2.1, bt111.2.2.2.2.1, bt111.2.2.2.2.2))) else ((api_Eid.f 0 (⟨#[]⟩ : ByteArray) (⟨#[]⟩ : ByteArray) 0 0 false).bind fun bt117 => (some (bt117.1, bt117.2.1, bt117.2.2.1, bt117.2.2.2.1, bt117.2.2.2.2.1, bt117.2.2.2.2.2))))) = some (r1, r2, r3, r4, r5, r6) := h
  clear h
  replace H := Option.bind_eq_some_iff.mp H
  obtain ⟨⟨t108, t109, t110⟩, A20, H⟩ := H
  replace H : (if t110 = true then ((eid_Join.f t108 t109).bind fun bt111 => (some (bt111.1, bt111.2.1, bt111.2.2.1, bt111.2.2.2.1, bt111.2.2.2.2.1, bt111.2.2.2.2.2))) else ((api_Eid.f 0 (⟨#[]⟩ : ByteArray) (⟨#[]⟩ : ByteArray) 0 0 false).bind fun bt117 => (some (bt117.1, bt117.2.1, bt117.2.2.1, bt117.2.2.2.1, bt117.2.2.2.2.1, bt117.2.2.2.2.2)))) = some (r1, r2, r3, r4, r5, r6) := H
  have A2 := Aside0.mk A20
  clear A20
  by_cases c3 : t110 = true
  · subst c3
    have H1 : ((eid_Join.f t108 t109).bind fun bt111 => (some (bt111.1, bt111.2.1, bt111.2.2.1, bt111.2.2.2.1, bt111.2.2.2.2.1, bt111.2.2.2.2.2))) = some (r1, r2, r3, r4, r5, r6) := by rw [if_pos rfl] at H; exact H
    clear H
    have H := H1
    clear H1
    replace H := Option.bind_eq_some_iff.mp H
    obtain ⟨⟨t111, t112, t113, t114, t115, t116⟩, A40, H⟩ := H
    replace H : (some (t111, t112, t113, t114, t115, t116)) = some (r1, r2, r3, r4, r5, r6) := H
    have A4 := Aside0.mk A40
    clear A40
    simp only [Option.some.injEq, Prod.mk.injEq] at H
    obtain ⟨rfl, rfl, rfl, rfl, rfl, rfl⟩ := H
    go_enter Tryd.func17, Tryd.ntmps17
    go_wp2_with (first | ((with_reducible refine gate_dst (N := 2) rfl ?_); refine box_event ?hg (N := 2) ?hd (cs := #[.int .i64 0, .string (⟨#[]⟩ : ByteArray), .string (⟨#[]⟩ : ByteArray), .int .i64 0, .int .i64 0]) (t := 23) ?hr ?_; (case hd => rfl); (case hg => rfl); (case hr => first | (go_simp; done) | (go_simp; rfl) | (go_simp; simp only [isEmpty_ne, isEmpty_eq]; done) | (go_simp; simp only [isEmpty_ne, isEmpty_eq]; rfl)); intro gb107 hg w5 hbox hb; have n0_ := Aside0.mk (below_step (by repeat (first | (with_reducible first | exact HB.out | apply below_alloc | apply pw_below_drewN | apply below_drew1) | exact HB.out)) hb); have n1_ := Aside0.mk (hbox); have n2_ := Aside0.mk ((by rw [hg]; exact (below_size (by repeat (first | (with_reducible first | exact HB.out | apply below_alloc | apply pw_below_drewN | apply below_drew1) | exact HB.out))) : w.heap.size ≤ gb107)); have n3_ := Aside0.mk ((by rw [hg]; exact (below_size (by repeat (first | (with_reducible first | exact HB.out | apply below_alloc | apply pw_below_drewN | apply below_drew1) | exact HB.out))) : w.heap.size ≤ gb107)); clear HB; have HB := n0_; have BK107 := n1_; have GW107 := n2_; have GE107 := n3_; clear n0_ n1_ n2_ n3_; clear hb hbox hg) | ((with_reducible refine gate_callee (f := 31) rfl ?_); refine goesL_ (some 9) rfl rfl Tryd.func31 (by kernel_rfl) rfl #[.string a0, .string (⟨#[58]⟩ : ByteArray)] rfl (by (try simp only [List.map_toArray, List.map_cons, List.map_nil]); first | done | rfl | (simp only [List.length_drop, List.length_take]; rfl)) ?_; (with_reducible refine (strings_Cut.calls a0 (⟨#[58]⟩ : ByteArray) t108 t109 true _ ?side1 A2.out).mono ?_); (case side1 => exact Laid.below HLD.out (by repeat (first | (with_reducible first | exact HB.out | apply below_alloc | apply pw_below_drewN | apply below_drew1 | refine below_set ?_ GE107.out) | exact HB.out))); rintro e w6 ⟨rfl, hb⟩; refine ⟨_, rfl, ?_⟩; have n0_ := Aside0.mk (blk_below (g := gb107) (o := .cells #[.int .i64 0, .string (⟨#[]⟩ : ByteArray), .string (⟨#[]⟩ : ByteArray), .int .i64 0, .int .i64 0] 23 (0, 0)) (by (with_reducible repeat (first | refine blk_drewN ?_ _ | refine blk_drew ?_ | refine blk_alloc ?_ _)); exact BK107.out) hb); have n1_ := Aside0.mk (below_step (by repeat (first | (with_reducible first | exact HB.out | apply below_alloc | apply pw_below_drewN | apply below_drew1 | refine below_set ?_ GE107.out) | exact HB.out)) hb); clear BK107; clear HB; have BK107 := n0_; have HB := n1_; clear n0_ n1_; (try clear hb); (try clear hb2); (try clear hk); (try clear hi)) | ((with_reducible refine gate_callee (f := 13) rfl ?_); refine goesL_ (some 21) rfl rfl Tryd.func13 (by kernel_rfl) rfl #[.string t108, .string t109] rfl (by (try simp only [List.map_toArray, List.map_cons, List.map_nil]); first | done | rfl | (simp only [List.length_drop, List.length_take]; rfl)) ?_; (with_reducible refine (eid_Join.calls t108 t109 t111 t112 t113 t114 t115 t116 _ ?side1 A4.out).mono ?_); (case side1 => exact Laid.below HLD.out (by repeat (first | (with_reducible first | exact HB.out | apply below_alloc | apply pw_below_drewN | apply below_drew1 | refine below_set ?_ GE107.out) | exact HB.out))); rintro e w7 ⟨rfl, hb⟩; refine ⟨_, rfl, ?_⟩; have n0_ := Aside0.mk (blk_below (g := gb107) (o := .cells #[.int .i64 0, .string (⟨#[]⟩ : ByteArray), .string (⟨#[]⟩ : ByteArray), .int .i64 0, .int .i64 0] 23 (0, 0)) (by (with_reducible repeat (first | refine blk_drewN ?_ _ | refine blk_drew ?_ | refine blk_alloc ?_ _)); exact BK107.out) hb); have n1_ := Aside0.mk (below_step (by repeat (first | (with_reducible first | exact HB.out | apply below_alloc | apply pw_below_drewN | apply below_drew1 | refine below_set ?_ GE107.out) | exact HB.out)) hb); clear BK107; clear HB; have BK107 := n0_; have HB := n1_; clear n0_ n1_; (try clear hb); (try clear hb2); (try clear hk); (try clear hi); have hcz8_0 : w7.cell? ⟨gb107, 0, none⟩ = some (.int .i64 0) := (blk_cell BK107.out 0).trans rfl; have hcz8_1 : w7.cell? ⟨gb107, 1, none⟩ = some (.string (⟨#[]⟩ : ByteArray)) := (blk_cell BK107.out 1).trans rfl; have hcz8_2 : w7.cell? ⟨gb107, 2, none⟩ = some (.string (⟨#[]⟩ : ByteArray)) := (blk_cell BK107.out 2).trans rfl; have hcz8_3 : w7.cell? ⟨gb107, 3, none⟩ = some (.int .i64 0) := (blk_cell BK107.out 3).trans rfl; have hcz8_4 : w7.cell? ⟨gb107, 4, none⟩ = some (.int .i64 0) := (blk_cell BK107.out 4).trans rfl; have hfz8_0 := blk_frozen BK107.out 0; have hfz8_1 := blk_frozen BK107.out 1; have hfz8_2 := blk_frozen BK107.out 2; have hfz8_3 := blk_frozen BK107.out 3; have hfz8_4 := blk_frozen BK107.out 4))
    refine bodyPost_ret (results_ct rfl _ _ gb107 23 #[.int .i64 t111, .string t112, .string t113, .int .i64 t114, .int .i64 t115] (0, 0) _ rfl (by (with_reducible repeat (first | refine blk_drewN ?_ _ | refine blk_drew ?_ | refine blk_alloc ?_ _)); refine blk_put (cs := #[.int .i64 t111, .string t112, .string t113, .int .i64 t114, .int .i64 0]) ?_ 4 _ rfl; (with_reducible repeat (first | refine blk_drewN ?_ _ | refine blk_drew ?_ | refine blk_alloc ?_ _)); refine blk_put (cs := #[.int .i64 t111, .string t112, .string t113, .int .i64 0, .int .i64 0]) ?_ 3 _ rfl; (with_reducible repeat (first | refine blk_drewN ?_ _ | refine blk_drew ?_ | refine blk_alloc ?_ _)); refine blk_put (cs := #[.int .i64 t111, .string t112, .string (⟨#[]⟩ : ByteArray), .int .i64 0, .int .i64 0]) ?_ 2 _ rfl; (with_reducible repeat (first | refine blk_drewN ?_ _ | refine blk_drew ?_ | refine blk_alloc ?_ _)); refine blk_put (cs := #[.int .i64 t111, .string (⟨#[]⟩ : ByteArray), .string (⟨#[]⟩ : ByteArray), .int .i64 0, .int .i64 0]) ?_ 1 _ rfl; (with_reducible repeat (first | refine blk_drewN ?_ _ | refine blk_drew ?_ | refine blk_alloc ?_ _)); refine blk_put (cs := #[.int .i64 0, .string (⟨#[]⟩ : ByteArray), .string (⟨#[]⟩ : ByteArray), .int .i64 0, .int .i64 0]) ?_ 0 _ rfl; (with_reducible repeat (first | refine blk_drewN ?_ _ | refine blk_drew ?_ | refine blk_alloc ?_ _)); exact BK107.out) Tryd.underlying23 rfl (by kernel_rfl)) rfl ?_
    exact ⟨by first | rfl | (simp [errW_none, errW_some] <;> rfl) | (simp [*, errW_none, errW_some] <;> rfl), by repeat (first | (with_reducible first | exact HB.out | apply below_alloc | apply pw_below_drewN | apply below_drew1 | refine below_set ?_ GE107.out) | exact HB.out)⟩
  · replace c3 := Bool.eq_false_iff.mpr c3
    subst c3
    have H1 : ((api_Eid.f 0 (⟨#[]⟩ : ByteArray) (⟨#[]⟩ : ByteArray) 0 0 false).bind fun bt117 => (some (bt117.1, bt117.2.1, bt117.2.2.1, bt117.2.2.2.1, bt117.2.2.2.2.1, bt117.2.2.2.2.2))) = some (r1, r2, r3, r4, r5, r6) := by rw [if_neg (show ¬ (false = true) by decide)] at H; exact H
    clear H
    have H := H1
    clear H1
    replace H := Option.bind_eq_some_iff.mp H
    obtain ⟨⟨t117, t118, t119, t120, t121, t122⟩, A90, H⟩ := H
    replace H : (some (t117, t118, t119, t120, t121, t122)) = some (r1, r2, r3, r4, r5, r6) := H
    have A9 := Aside0.mk A90
    clear A90
    simp only [Option.some.injEq, Prod.mk.injEq] at H
    obtain ⟨rfl, rfl, rfl, rfl, rfl, rfl⟩ := H
    go_enter Tryd.func17, Tryd.ntmps17
    go_wp2_with (first | ((with_reducible refine gate_dst (N := 2) rfl ?_); refine box_event ?hg (N := 2) ?hd (cs := #[.int .i64 0, .string (⟨#[]⟩ : ByteArray), .string (⟨#[]⟩ : ByteArray), .int .i64 0, .int .i64 0]) (t := 23) ?hr ?_; (case hd => rfl); (case hg => rfl); (case hr => first | (go_simp; done) | (go_simp; rfl) | (go_simp; simp only [isEmpty_ne, isEmpty_eq]; done) | (go_simp; simp only [isEmpty_ne, isEmpty_eq]; rfl)); intro gb107 hg w10 hbox hb; have n0_ := Aside0.mk (below_step (by repeat (first | (with_reducible first | exact HB.out | apply below_alloc | apply pw_below_drewN | apply below_drew1) | exact HB.out)) hb); have n1_ := Aside0.mk (hbox); have n2_ := Aside0.mk ((by rw [hg]; exact (below_size (by repeat (first | (with_reducible first | exact HB.out | apply below_alloc | apply pw_below_drewN | apply below_drew1) | exact HB.out))) : w.heap.size ≤ gb107)); have n3_ := Aside0.mk ((by rw [hg]; exact (below_size (by repeat (first | (with_reducible first | exact HB.out | apply below_alloc | apply pw_below_drewN | apply below_drew1) | exact HB.out))) : w.heap.size ≤ gb107)); clear HB; have HB := n0_; have BK107 := n1_; have GW107 := n2_; have GE107 := n3_; clear n0_ n1_ n2_ n3_; clear hb hbox hg) | ((with_reducible refine gate_callee (f := 31) rfl ?_); refine goesL_ (some 9) rfl rfl Tryd.func31 (by kernel_rfl) rfl #[.string a0, .string (⟨#[58]⟩ : ByteArray)] rfl (by (try simp only [List.map_toArray, List.map_cons, List.map_nil]); first | done | rfl | (simp only [List.length_drop, List.length_take]; rfl)) ?_; (with_reducible refine (strings_Cut.calls a0 (⟨#[58]⟩ : ByteArray) t108 t109 false _ ?side1 A2.out).mono ?_); (case side1 => exact Laid.below HLD.out (by repeat (first | (with_reducible first | exact HB.out | apply below_alloc | apply pw_below_drewN | apply below_drew1 | refine below_set ?_ GE107.out) | exact HB.out))); rintro e w11 ⟨rfl, hb⟩; refine ⟨_, rfl, ?_⟩; have n0_ := Aside0.mk (blk_below (g := gb107) (o := .cells #[.int .i64 0, .string (⟨#[]⟩ : ByteArray), .string (⟨#[]⟩ : ByteArray), .int .i64 0, .int .i64 0] 23 (0, 0)) (by (with_reducible repeat (first | refine blk_drewN ?_ _ | refine blk_drew ?_ | refine blk_alloc ?_ _)); exact BK107.out) hb); have n1_ := Aside0.mk (below_step (by repeat (first | (with_reducible first | exact HB.out | apply below_alloc | apply pw_below_drewN | apply below_drew1 | refine below_set ?_ GE107.out) | exact HB.out)) hb); clear BK107; clear HB; have BK107 := n0_; have HB := n1_; clear n0_ n1_; (try clear hb); (try clear hb2); (try clear hk); (try clear hi)) | ((with_reducible refine gate_callee (f := 27) rfl ?_); refine goesL_ (some 16) rfl rfl Tryd.func27 (by kernel_rfl) rfl #[.agg #[.int .i64 0, .string (⟨#[]⟩ : ByteArray), .string (⟨#[]⟩ : ByteArray), .int .i64 0, .int .i64 0], .bool false] rfl (by (try simp only [List.map_toArray, List.map_cons, List.map_nil]); first | done | rfl | (simp only [List.length_drop, List.length_take]; rfl)) ?_; (with_reducible refine (api_Eid.calls 0 (⟨#[]⟩ : ByteArray) (⟨#[]⟩ : ByteArray) 0 0 false t117 t118 t119 t120 t121 t122 _ A9.out).mono ?_); rintro e w12 ⟨rfl, hb⟩; refine ⟨_, rfl, ?_⟩; have n0_ := Aside0.mk (blk_below (g := gb107) (o := .cells #[.int .i64 0, .string (⟨#[]⟩ : ByteArray), .string (⟨#[]⟩ : ByteArray), .int .i64 0, .int .i64 0] 23 (0, 0)) (by (with_reducible repeat (first | refine blk_drewN ?_ _ | refine blk_drew ?_ | refine blk_alloc ?_ _)); exact BK107.out) hb); have n1_ := Aside0.mk (below_step (by repeat (first | (with_reducible first | exact HB.out | apply below_alloc | apply pw_below_drewN | apply below_drew1 | refine below_set ?_ GE107.out) | exact HB.out)) hb); clear BK107; clear HB; have BK107 := n0_; have HB := n1_; clear n0_ n1_; (try clear hb); (try clear hb2); (try clear hk); (try clear hi); have hcz13_0 : w12.cell? ⟨gb107, 0, none⟩ = some (.int .i64 0) := (blk_cell BK107.out 0).trans rfl; have hcz13_1 : w12.cell? ⟨gb107, 1, none⟩ = some (.string (⟨#[]⟩ : ByteArray)) := (blk_cell BK107.out 1).trans rfl; have hcz13_2 : w12.cell? ⟨gb107, 2, none⟩ = some (.string (⟨#[]⟩ : ByteArray)) := (blk_cell BK107.out 2).trans rfl; have hcz13_3 : w12.cell? ⟨gb107, 3, none⟩ = some (.int .i64 0) := (blk_cell BK107.out 3).trans rfl; have hcz13_4 : w12.cell? ⟨gb107, 4, none⟩ = some (.int .i64 0) := (blk_cell BK107.out 4).trans rfl; have hfz13_0 := blk_frozen BK107.out 0; have hfz13_1 := blk_frozen BK107.out 1; have hfz13_2 := blk_frozen BK107.out 2; have hfz13_3 := blk_frozen BK107.out 3; have hfz13_4 := blk_frozen BK107.out 4))
    refine bodyPost_ret (results_ct rfl _ _ gb107 23 #[.int .i64 t117, .string t118, .string t119, .int .i64 t120, .int .i64 t121] (0, 0) _ rfl (by (with_reducible repeat (first | refine blk_drewN ?_ _ | refine blk_drew ?_ | refine blk_alloc ?_ _)); refine blk_put (cs := #[.int .i64 t117, .string t118, .string t119, .int .i64 t120, .int .i64 0]) ?_ 4 _ rfl; (with_reducible repeat (first | refine blk_drewN ?_ _ | refine blk_drew ?_ | refine blk_alloc ?_ _)); refine blk_put (cs := #[.int .i64 t117, .string t118, .string t119, .int .i64 0, .int .i64 0]) ?_ 3 _ rfl; (with_reducible repeat (first | refine blk_drewN ?_ _ | refine blk_drew ?_ | refine blk_alloc ?_ _)); refine blk_put (cs := #[.int .i64 t117, .string t118, .string (⟨#[]⟩ : ByteArray), .int .i64 0, .int .i64 0]) ?_ 2 _ rfl; (with_reducible repeat (first | refine blk_drewN ?_ _ | refine blk_drew ?_ | refine blk_alloc ?_ _)); refine blk_put (cs := #[.int .i64 t117, .string (⟨#[]⟩ : ByteArray), .string (⟨#[]⟩ : ByteArray), .int .i64 0, .int .i64 0]) ?_ 1 _ rfl; (with_reducible repeat (first | refine blk_drewN ?_ _ | refine blk_drew ?_ | refine blk_alloc ?_ _)); refine blk_put (cs := #[.int .i64 0, .string (⟨#[]⟩ : ByteArray), .string (⟨#[]⟩ : ByteArray), .int .i64 0, .int .i64 0]) ?_ 0 _ rfl; (with_reducible repeat (first | refine blk_drewN ?_ _ | refine blk_drew ?_ | refine blk_alloc ?_ _)); exact BK107.out) Tryd.underlying23 rfl (by kernel_rfl)) rfl ?_
    exact ⟨by first | rfl | (simp [errW_none, errW_some] <;> rfl) | (simp [*, errW_none, errW_some] <;> rfl), by repeat (first | (with_reducible first | exact HB.out | apply below_alloc | apply pw_below_drewN | apply below_drew1 | refine below_set ?_ GE107.out) | exact HB.out)⟩
def eid_Home.f (a0_0 : Int) (a0_1 : ByteArray) (a0_2 : ByteArray) (a0_3 : Int) (a0_4 : Int) : Option (Int × ByteArray × ByteArray × Int × Int × Int) := (eid_Right.f a0_0 a0_1 a0_2 a0_3 a0_4).bind fun t125 => ((api_Eid.f a0_0 a0_1 (⟨#[]⟩ : ByteArray) a0_3 0 t125).bind fun bt126 => (some (bt126.1, bt126.2.1, bt126.2.2.1, bt126.2.2.2.1, bt126.2.2.2.2.1, bt126.2.2.2.2.2)))
def eid_Home.T1 : Bool × List (List Nat × List Nat) := (true, [([], []), ([0], [0]), ([], []), ([2], [2]), ([], []), ([4], [4]), ([1, 3, 5], [1, 3, 5]), ([], []), ([7], [7]), ([6, 8, 8], [6, 8]), ([9], [9]), ([9], [9]), ([10, 9, 0, 1, 2, 3, 4, 5, 6, 7, 8, 9, 10, 11], [10]), ([11, 12, 0, 1, 2, 3, 4, 5, 6, 7, 8, 9, 10, 11, 12], [11])])
def eid_Home.B1 : List Nat := [0, 1, 0, 4, 0, 16, 63, 0, 128, 511, 1023, 1023, 4095, 8191]
theorem eid_Home.tab1 : rtab .any (opsOf Tryd.f19 1) = eid_Home.T1 := by kernel_rfl
theorem eid_Home.bits1 : waitsOk eid_Home.T1.2 eid_Home.B1 = true := by kernel_rfl
set_option maxHeartbeats 8000000 in
set_option maxRecDepth 100000 in
theorem eid_Home.calls (a0_0 : Int) (a0_1 : ByteArray) (a0_2 : ByteArray) (a0_3 : Int) (a0_4 : Int) (r1 : Int) (r2 : ByteArray) (r3 : ByteArray) (r4 : Int) (r5 : Int) (r6 : Int) (w : World) (h : eid_Home.f a0_0 a0_1 a0_2 a0_3 a0_4 = some (r1, r2, r3, r4, r5, r6)) :
    Calls Tryd.prog 19 #[.agg #[.int .i64 a0_0, .string a0_1, .string a0_2, .int .i64 a0_3, .int .i64 a0_4]] w fun e w' => e = .returned (.tuple #[.agg #[.int .i64 r1, .string r2, .string r3, .int .i64 r4, .int .i64 r5], .int .i64 r6]) ∧ Below w.heap.size w w' := by
  have hu23 := Tryd.underlying23
  have HB := Aside0.mk (Below.refl w.heap.size w)
  have H : ((eid_Right.f a0_0 a0_1 a0_2 a0_3 a0_4).bind fun t125 => ((api_Eid.f a0_0 a0_1 (⟨#[]⟩ : ByteArray) a0_3 0 t125).bind fun bt126 => (some (bt126.1, bt126.2.1, bt126.2.2.1, bt126.2.2.2.1, bt126.2.2.2.2.1, bt126.2.2.2.2.2)))) = some (r1, r2, r3, r4, r5, r6) := h
  clear h
  replace H := Option.bind_eq_some_iff.mp H
  obtain ⟨t125, A20, H⟩ := H
  replace H : ((api_Eid.f a0_0 a0_1 (⟨#[]⟩ : ByteArray) a0_3 0 t125).bind fun bt126 => (some (bt126.1, bt126.2.1, bt126.2.2.1, bt126.2.2.2.1, bt126.2.2.2.2.1, bt126.2.2.2.2.2))) = some (r1, r2, r3, r4, r5, r6) := H
  have A2 := Aside0.mk A20
  clear A20
  replace H := Option.bind_eq_some_iff.mp H
  obtain ⟨⟨t126, t127, t128, t129, t130, t131⟩, A30, H⟩ := H
  replace H : (some (t126, t127, t128, t129, t130, t131)) = some (r1, r2, r3, r4, r5, r6) := H
  have A3 := Aside0.mk A30
  clear A30
  simp only [Option.some.injEq, Prod.mk.injEq] at H
  obtain ⟨rfl, rfl, rfl, rfl, rfl, rfl⟩ := H
  go_enter Tryd.func19, Tryd.ntmps19
  try go_wp2_with (first | ((with_reducible refine gate_dst (N := 1) rfl ?_); refine box_event ?hg (N := 1) ?hd (cs := #[.int .i64 a0_0, .string a0_1, .string a0_2, .int .i64 a0_3, .int .i64 a0_4]) (t := 23) ?hr ?_; (case hd => rfl); (case hg => rfl); (case hr => first | (go_simp; done) | (go_simp; rfl) | (go_simp; simp only [isEmpty_ne, isEmpty_eq]; done) | (go_simp; simp only [isEmpty_ne, isEmpty_eq]; rfl)); intro gb123 hg w4 hbox hb; have n0_ := Aside0.mk (below_step (by repeat (first | (with_reducible first | exact HB.out | apply below_alloc | apply pw_below_drewN | apply below_drew1) | exact HB.out)) hb); have n1_ := Aside0.mk (hbox); have n2_ := Aside0.mk ((by rw [hg]; exact (below_size (by repeat (first | (with_reducible first | exact HB.out | apply below_alloc | apply pw_below_drewN | apply below_drew1) | exact HB.out))) : w.heap.size ≤ gb123)); have n3_ := Aside0.mk ((by rw [hg]; exact (below_size (by repeat (first | (with_reducible first | exact HB.out | apply below_alloc | apply pw_below_drewN | apply below_drew1) | exact HB.out))) : w.heap.size ≤ gb123)); clear HB; have HB := n0_; have BK123 := n1_; have GW123 := n2_; have GE123 := n3_; clear n0_ n1_ n2_ n3_; clear hb hbox hg) | ((with_reducible refine gate_dst (N := 2) rfl ?_); refine box_event ?hg (N := 2) ?hd (cs := #[.int .i64 0, .string (⟨#[]⟩ : ByteArray), .string (⟨#[]⟩ : ByteArray), .int .i64 0, .int .i64 0]) (t := 23) ?hr ?_; (case hd => rfl); (case hg => rfl); (case hr => first | (go_simp; done) | (go_simp; rfl) | (go_simp; simp only [isEmpty_ne, isEmpty_eq]; done) | (go_simp; simp only [isEmpty_ne, isEmpty_eq]; rfl)); intro gb124 hg w5 hbox hb; have n0_ := Aside0.mk (blk_below (g := gb123) (o := .cells #[.int .i64 a0_0, .string a0_1, .string a0_2, .int .i64 a0_3, .int .i64 a0_4] 23 (0, 0)) (by (with_reducible repeat (first | refine blk_drewN ?_ _ | refine blk_drew ?_ | refine blk_alloc ?_ _)); exact BK123.out) hb); have n1_ := Aside0.mk (below_step (by repeat (first | (with_reducible first | exact HB.out | apply below_alloc | apply pw_below_drewN | apply below_drew1 | refine below_set ?_ GE123.out) | exact HB.out)) hb); have n2_ := Aside0.mk (hbox); have n3_ := Aside0.mk ((by rw [hg]; exact (below_size (by repeat (first | (with_reducible first | exact HB.out | apply below_alloc | apply pw_below_drewN | apply below_drew1 | refine below_set ?_ GE123.out) | exact HB.out))) : w.heap.size ≤ gb124)); have n4_ := Aside0.mk ((by rw [hg]; exact (below_size (by repeat (first | (with_reducible first | exact HB.out | apply below_alloc | apply pw_below_drewN | apply below_drew1 | refine below_set ?_ GE123.out) | exact HB.out))) : w.heap.size ≤ gb124)); have n5_ := Aside0.mk ((by rw [hg]; exact Nat.ne_of_lt (blk_lt (g := gb123) (o := .cells #[.int .i64 a0_0, .string a0_1, .string a0_2, .int .i64 a0_3, .int .i64 a0_4] 23 (0, 0)) (by (with_reducible repeat (first | refine blk_drewN ?_ _ | refine blk_drew ?_ | refine blk_alloc ?_ _)); exact BK123.out)) : gb123 ≠ gb124)); have n6_ := Aside0.mk ((by rw [hg]; exact Nat.ne_of_gt (blk_lt (g := gb123) (o := .cells #[.int .i64 a0_0, .string a0_1, .string a0_2, .int .i64 a0_3, .int .i64 a0_4] 23 (0, 0)) (by (with_reducible repeat (first | refine blk_drewN ?_ _ | refine blk_drew ?_ | refine blk_alloc ?_ _)); exact BK123.out)) : gb124 ≠ gb123)); clear BK123; clear HB; have BK123 := n0_; have HB := n1_; have BK124 := n2_; have GW124 := n3_; have GE124 := n4_; have NB123_124 := n5_; have NB124_123 := n6_; clear n0_ n1_ n2_ n3_ n4_ n5_ n6_; clear hb hbox hg))
  have n0_ := Aside0.mk (blk_drew BK123.out)
  have n1_ := Aside0.mk (blk_drew BK124.out)
  have n2_ := Aside0.mk (below_drew1 HB.out)
  clear BK123
  clear BK124
  clear HB
  have BK123 := n0_
  have BK124 := n1_
  have HB := n2_
  clear n0_ n1_ n2_
  refine start_ (n := 14) (S := fun w' => w'.cell? ⟨gb123, 0, none⟩ = some (.int .i64 a0_0) ∧ w'.cell? ⟨gb123, 1, none⟩ = some (.string a0_1) ∧ w'.cell? ⟨gb123, 2, none⟩ = some (.string a0_2) ∧ w'.cell? ⟨gb123, 3, none⟩ = some (.int .i64 a0_3) ∧ w'.cell? ⟨gb123, 4, none⟩ = some (.int .i64 a0_4)) (ds := []) #[false, false, false, false, false, false, false, false, false, false, false, false, false, false] (by kernel_rfl) rfl rfl ⟨(blk_cell BK123.out 0).trans rfl, (blk_cell BK123.out 1).trans rfl, (blk_cell BK123.out 2).trans rfl, (blk_cell BK123.out 3).trans rfl, (blk_cell BK123.out 4).trans rfl⟩ (fun hHeld => ?_); refine with_tabW eid_Home.tab1 eid_Home.bits1 (fun HT_ HW_ => ?_)
  generalize w5.drew = w6 at BK123 BK124 HB hHeld ⊢
  refine pure_ (i := 0) (N := some 4) (v := ?_) (a' := ?_) #[true, false, false, false, false, false, false, false, false, false, false, false, false, false] rfl rfl (any_of HT_.out (by kernel_rfl)) (fun _ _ _ h => h) (Or.inl ⟨by rfl, ?_⟩) ?_ ?_
  rotate_left
  · intro w'
    go_simp
    with_reducible rfl
  rotate_left
  · simp only [Act.put, List.setIfInBounds_toArray, List.set_cons_zero, List.set_cons_succ, i64_w, i32_w]
    rfl
  refine pure_ (i := 2) (N := some 6) (v := ?_) (a' := ?_) #[true, false, true, false, false, false, false, false, false, false, false, false, false, false] rfl rfl (any_of HT_.out (by kernel_rfl)) (fun _ _ _ h => h) (Or.inl ⟨by rfl, ?_⟩) ?_ ?_
  rotate_left
  · intro w'
    go_simp
    with_reducible rfl
  rotate_left
  · simp only [Act.put, List.setIfInBounds_toArray, List.set_cons_zero, List.set_cons_succ, i64_w, i32_w]
    rfl
  refine pure_ (i := 4) (N := some 8) (v := ?_) (a' := ?_) #[true, false, true, false, true, false, false, false, false, false, false, false, false, false] rfl rfl (any_of HT_.out (by kernel_rfl)) (fun _ _ _ h => h) (Or.inl ⟨by rfl, ?_⟩) ?_ ?_
  rotate_left
  · intro w'
    go_simp
    with_reducible rfl
  rotate_left
  · simp only [Act.put, List.setIfInBounds_toArray, List.set_cons_zero, List.set_cons_succ, i64_w, i32_w]
    rfl
  refine take_ (i := 1) (N := some 5) (v := ?_) (a' := ?_) #[true, true, true, false, true, false, false, false, false, false, false, false, false, false] rfl rfl (take_ofW HT_.out HW_.out (by kernel_rfl)) (fun _ _ _ h => h) (Or.inl ⟨by rfl, ?_⟩) hHeld ?_ ?_
  rotate_left
  · rintro w' ⟨s0, s1, s2, s3, s4⟩
    go_simp
    with_reducible rfl
  rotate_left
  · simp only [Act.put, List.setIfInBounds_toArray, List.set_cons_zero, List.set_cons_succ, i64_w, i32_w]
    rfl
  refine take_ (i := 3) (N := some 7) (v := ?_) (a' := ?_) #[true, true, true, true, true, false, false, false, false, false, false, false, false, false] rfl rfl (take_ofW HT_.out HW_.out (by kernel_rfl)) (fun _ _ _ h => h) (Or.inl ⟨by rfl, ?_⟩) hHeld ?_ ?_
  rotate_left
  · rintro w' ⟨s0, s1, s2, s3, s4⟩
    go_simp
    with_reducible rfl
  rotate_left
  · simp only [Act.put, List.setIfInBounds_toArray, List.set_cons_zero, List.set_cons_succ, i64_w, i32_w]
    rfl
  refine take_ (i := 5) (N := some 9) (v := ?_) (a' := ?_) #[true, true, true, true, true, true, false, false, false, false, false, false, false, false] rfl rfl (take_ofW HT_.out HW_.out (by kernel_rfl)) (fun _ _ _ h => h) (Or.inl ⟨by rfl, ?_⟩) hHeld ?_ ?_
  rotate_left
  · rintro w' ⟨s0, s1, s2, s3, s4⟩
    go_simp
    with_reducible rfl
  rotate_left
  · simp only [Act.put, List.setIfInBounds_toArray, List.set_cons_zero, List.set_cons_succ, i64_w, i32_w]
    rfl
  refine pure_ (i := 6) (N := some 10) (v := ?_) (a' := ?_) #[true, true, true, true, true, true, true, false, false, false, false, false, false, false] rfl rfl (any_of HT_.out (by kernel_rfl)) (fun _ _ _ h => h) (Or.inl ⟨by rfl, ?_⟩) ?_ ?_
  rotate_left
  · intro w'
    go_simp
    with_reducible rfl
  rotate_left
  · simp only [Act.put, List.setIfInBounds_toArray, List.set_cons_zero, List.set_cons_succ, i64_w, i32_w]
    rfl
  refine take_ (i := 7) (N := some 11) (v := ?_) (a' := ?_) #[true, true, true, true, true, true, true, true, false, false, false, false, false, false] rfl rfl (take_ofW HT_.out HW_.out (by kernel_rfl)) (fun _ _ _ h => h) (Or.inl ⟨by rfl, ?_⟩) hHeld ?_ ?_
  rotate_left
  · rintro w' ⟨s0, s1, s2, s3, s4⟩
    go_simp
    with_reducible rfl
  rotate_left
  · simp only [Act.put, List.setIfInBounds_toArray, List.set_cons_zero, List.set_cons_succ, i64_w, i32_w]
    rfl
  refine one_ (i := 8) (N := some 12) #[true, true, true, true, true, true, true, true, true, false, false, false, false, false] rfl rfl (one_of HT_.out (by kernel_rfl)) (by decide) (fun K hK => ?_)
  refine goes_ Tryd.func21 (by kernel_rfl) rfl #[.agg #[.int .i64 a0_0, .string a0_1, .string a0_2, .int .i64 a0_3, .int .i64 a0_4]] (by rfl) rfl rfl (by (try simp only [List.map_toArray, List.map_cons, List.map_nil]); first | done | rfl | (simp only [List.length_drop, List.length_take]; rfl)) ?_
  with_reducible refine (eid_Right.calls a0_0 a0_1 a0_2 a0_3 a0_4 t125 _ A2.out).mono ?_
  rintro e w7 ⟨rfl, hb⟩
  refine ⟨_, rfl, ?_⟩
  have n0_ := Aside0.mk (blk_below (g := gb123) (o := .cells #[.int .i64 a0_0, .string a0_1, .string a0_2, .int .i64 a0_3, .int .i64 a0_4] 23 (0, 0)) (by (with_reducible repeat (first | refine blk_drewN ?_ _ | refine blk_drew ?_ | refine blk_alloc ?_ _)); exact BK123.out) hb)
  have n1_ := Aside0.mk (blk_below (g := gb124) (o := .cells #[.int .i64 0, .string (⟨#[]⟩ : ByteArray), .string (⟨#[]⟩ : ByteArray), .int .i64 0, .int .i64 0] 23 (0, 0)) (by (with_reducible repeat (first | refine blk_drewN ?_ _ | refine blk_drew ?_ | refine blk_alloc ?_ _)); exact BK124.out) hb)
  have n2_ := Aside0.mk (below_step (by repeat (first | (with_reducible first | exact HB.out | apply below_alloc | apply pw_below_drewN | apply below_drew1 | refine below_set ?_ GE123.out | refine below_set ?_ GE124.out) | exact HB.out)) hb)
  clear BK123
  clear BK124
  clear HB
  have BK123 := n0_
  have BK124 := n1_
  have HB := n2_
  clear n0_ n1_ n2_
  (try clear hb)
  (try clear hb2)
  (try clear hk)
  (try clear hi)
  refine hK.out _ _ ⟨(blk_cell BK123.out 0).trans rfl, (blk_cell BK123.out 1).trans rfl, (blk_cell BK123.out 2).trans rfl, (blk_cell BK123.out 3).trans rfl, (blk_cell BK123.out 4).trans rfl⟩ (fun hHeld => ?_)
  clear hK K
  refine norm_ (a' := ?_) ?_ ?_
  rotate_left
  · show Act.put _ (some 12) _ = _
    simp only [Act.put, List.setIfInBounds_toArray, List.set_cons_zero, List.set_cons_succ, i64_w, i32_w]
    rfl
  refine one_ (i := 9) (N := some 13) #[true, true, true, true, true, true, true, true, true, true, false, false, false, false] rfl rfl (one_of HT_.out (by kernel_rfl)) (by decide) (fun K hK => ?_)
  refine goes_ Tryd.func27 (by kernel_rfl) rfl #[.agg #[.int .i64 a0_0, .string a0_1, .string (⟨#[]⟩ : ByteArray), .int .i64 a0_3, .int .i64 0], .bool t125] (by rfl) rfl rfl (by (try simp only [List.map_toArray, List.map_cons, List.map_nil]); first | done | rfl | (simp only [List.length_drop, List.length_take]; rfl)) ?_
  with_reducible refine (api_Eid.calls a0_0 a0_1 (⟨#[]⟩ : ByteArray) a0_3 0 t125 t126 t127 t128 t129 t130 t131 _ A3.out).mono ?_
  rintro e w8 ⟨rfl, hb⟩
  refine ⟨_, rfl, ?_⟩
  have n0_ := Aside0.mk (blk_below (g := gb123) (o := .cells #[.int .i64 a0_0, .string a0_1, .string a0_2, .int .i64 a0_3, .int .i64 a0_4] 23 (0, 0)) (by (with_reducible repeat (first | refine blk_drewN ?_ _ | refine blk_drew ?_ | refine blk_alloc ?_ _)); exact BK123.out) hb)
  have n1_ := Aside0.mk (blk_below (g := gb124) (o := .cells #[.int .i64 0, .string (⟨#[]⟩ : ByteArray), .string (⟨#[]⟩ : ByteArray), .int .i64 0, .int .i64 0] 23 (0, 0)) (by (with_reducible repeat (first | refine blk_drewN ?_ _ | refine blk_drew ?_ | refine blk_alloc ?_ _)); exact BK124.out) hb)
  have n2_ := Aside0.mk (below_step (by repeat (first | (with_reducible first | exact HB.out | apply below_alloc | apply pw_below_drewN | apply below_drew1 | refine below_set ?_ GE123.out | refine below_set ?_ GE124.out) | exact HB.out)) hb)
  clear BK123
  clear BK124
  clear HB
  have BK123 := n0_
  have BK124 := n1_
  have HB := n2_
  clear n0_ n1_ n2_
  (try clear hb)
  (try clear hb2)
  (try clear hk)
  (try clear hi)
  refine hK.out _ _ ⟨(blk_cell BK123.out 0).trans rfl, (blk_cell BK123.out 1).trans rfl, (blk_cell BK123.out 2).trans rfl, (blk_cell BK123.out 3).trans rfl, (blk_cell BK123.out 4).trans rfl⟩ (fun hHeld => ?_)
  clear hK K
  refine norm_ (a' := ?_) ?_ ?_
  rotate_left
  · show Act.put _ (some 13) _ = _
    simp only [Act.put, List.setIfInBounds_toArray, List.set_cons_zero, List.set_cons_succ, i64_w, i32_w]
    rfl
  refine pure_ (i := 10) (N := some 14) (v := ?_) (a' := ?_) #[true, true, true, true, true, true, true, true, true, true, true, false, false, false] rfl rfl (any_of HT_.out (by kernel_rfl)) (fun _ _ _ h => h) (Or.inl ⟨by rfl, ?_⟩) ?_ ?_
  rotate_left
  · intro w'
    go_simp
    with_reducible rfl
  rotate_left
  · simp only [Act.put, List.setIfInBounds_toArray, List.set_cons_zero, List.set_cons_succ, i64_w, i32_w]
    rfl
  refine pure_ (i := 11) (N := some 15) (v := ?_) (a' := ?_) #[true, true, true, true, true, true, true, true, true, true, true, true, false, false] rfl rfl (any_of HT_.out (by kernel_rfl)) (fun _ _ _ h => h) (Or.inl ⟨by rfl, ?_⟩) ?_ ?_
  rotate_left
  · intro w'
    go_simp
    with_reducible rfl
  rotate_left
  · simp only [Act.put, List.setIfInBounds_toArray, List.set_cons_zero, List.set_cons_succ, i64_w, i32_w]
    rfl
  refine one_ (i := 12) (N := none) #[true, true, true, true, true, true, true, true, true, true, true, true, true, false] rfl rfl (one_of HT_.out (by kernel_rfl)) (by decide) (fun K hK => ?_)
  have hs9 : w8.cell? ⟨gb124, 0, none⟩ = some (.int .i64 0) := (blk_cell BK124.out 0).trans rfl
  have hfs9 := blk_frozen BK124.out 0
  have hns9_0 := NB123_124.out
  have hms9_0 := NB124_123.out
  have hs10 : w8.cell? ⟨gb124, 1, none⟩ = some (.string (⟨#[]⟩ : ByteArray)) := (blk_cell BK124.out 1).trans rfl
  have hfs10 := blk_frozen BK124.out 1
  have hns10_0 := NB123_124.out
  have hms10_0 := NB124_123.out
  have hs11 : w8.cell? ⟨gb124, 2, none⟩ = some (.string (⟨#[]⟩ : ByteArray)) := (blk_cell BK124.out 2).trans rfl
  have hfs11 := blk_frozen BK124.out 2
  have hns11_0 := NB123_124.out
  have hms11_0 := NB124_123.out
  have hs12 : w8.cell? ⟨gb124, 3, none⟩ = some (.int .i64 0) := (blk_cell BK124.out 3).trans rfl
  have hfs12 := blk_frozen BK124.out 3
  have hns12_0 := NB123_124.out
  have hms12_0 := NB124_123.out
  have hs13 : w8.cell? ⟨gb124, 4, none⟩ = some (.int .i64 0) := (blk_cell BK124.out 4).trans rfl
  have hfs13 := blk_frozen BK124.out 4
  have hns13_0 := NB123_124.out
  have hms13_0 := NB124_123.out
  refine skip_ (w1 := ?_) (by rfl) rfl ?_ ?_
  rotate_left
  · go_simp
    rfl
  refine hK.out _ _ ⟨((cell_far (p := ⟨gb124, _, none⟩) NB123_124.out _).trans (((cell_far (p := ⟨gb124, _, none⟩) NB123_124.out _).trans (((cell_far (p := ⟨gb124, _, none⟩) NB123_124.out _).trans (((cell_far (p := ⟨gb124, _, none⟩) NB123_124.out _).trans (((cell_far (p := ⟨gb124, _, none⟩) NB123_124.out _).trans (hHeld.1)))))))))), ((cell_far (p := ⟨gb124, _, none⟩) NB123_124.out _).trans (((cell_far (p := ⟨gb124, _, none⟩) NB123_124.out _).trans (((cell_far (p := ⟨gb124, _, none⟩) NB123_124.out _).trans (((cell_far (p := ⟨gb124, _, none⟩) NB123_124.out _).trans (((cell_far (p := ⟨gb124, _, none⟩) NB123_124.out _).trans (hHeld.2.1)))))))))), ((cell_far (p := ⟨gb124, _, none⟩) NB123_124.out _).trans (((cell_far (p := ⟨gb124, _, none⟩) NB123_124.out _).trans (((cell_far (p := ⟨gb124, _, none⟩) NB123_124.out _).trans (((cell_far (p := ⟨gb124, _, none⟩) NB123_124.out _).trans (((cell_far (p := ⟨gb124, _, none⟩) NB123_124.out _).trans (hHeld.2.2.1)))))))))), ((cell_far (p := ⟨gb124, _, none⟩) NB123_124.out _).trans (((cell_far (p := ⟨gb124, _, none⟩) NB123_124.out _).trans (((cell_far (p := ⟨gb124, _, none⟩) NB123_124.out _).trans (((cell_far (p := ⟨gb124, _, none⟩) NB123_124.out _).trans (((cell_far (p := ⟨gb124, _, none⟩) NB123_124.out _).trans (hHeld.2.2.2.1)))))))))), ((cell_far (p := ⟨gb124, _, none⟩) NB123_124.out _).trans (((cell_far (p := ⟨gb124, _, none⟩) NB123_124.out _).trans (((cell_far (p := ⟨gb124, _, none⟩) NB123_124.out _).trans (((cell_far (p := ⟨gb124, _, none⟩) NB123_124.out _).trans (((cell_far (p := ⟨gb124, _, none⟩) NB123_124.out _).trans (hHeld.2.2.2.2))))))))))⟩ (fun hHeld => ?_)
  clear hK K
  refine pure_ (i := 13) (N := some 3) (v := ?_) (a' := ?_) #[true, true, true, true, true, true, true, true, true, true, true, true, true, true] rfl rfl (any_of HT_.out (by kernel_rfl)) (fun _ _ _ h => h) (Or.inl ⟨by rfl, ?_⟩) ?_ ?_
  rotate_left
  · intro w'
    go_simp
    with_reducible rfl
  rotate_left
  · simp only [Act.put, List.setIfInBounds_toArray, List.set_cons_zero, List.set_cons_succ, i64_w, i32_w]
    rfl
  refine done_ (done_of HT_.out (by kernel_rfl)) ?_
  try go_wp2
  refine bodyPost_ret (results_ct rfl _ _ gb124 23 #[.int .i64 t126, .string t127, .string t128, .int .i64 t129, .int .i64 t130] (0, 0) _ rfl (by (with_reducible repeat (first | refine blk_drewN ?_ _ | refine blk_drew ?_ | refine blk_alloc ?_ _)); refine blk_put (cs := #[.int .i64 t126, .string t127, .string t128, .int .i64 t129, .int .i64 0]) ?_ 4 _ rfl; (with_reducible repeat (first | refine blk_drewN ?_ _ | refine blk_drew ?_ | refine blk_alloc ?_ _)); refine blk_put (cs := #[.int .i64 t126, .string t127, .string t128, .int .i64 0, .int .i64 0]) ?_ 3 _ rfl; (with_reducible repeat (first | refine blk_drewN ?_ _ | refine blk_drew ?_ | refine blk_alloc ?_ _)); refine blk_put (cs := #[.int .i64 t126, .string t127, .string (⟨#[]⟩ : ByteArray), .int .i64 0, .int .i64 0]) ?_ 2 _ rfl; (with_reducible repeat (first | refine blk_drewN ?_ _ | refine blk_drew ?_ | refine blk_alloc ?_ _)); refine blk_put (cs := #[.int .i64 t126, .string (⟨#[]⟩ : ByteArray), .string (⟨#[]⟩ : ByteArray), .int .i64 0, .int .i64 0]) ?_ 1 _ rfl; (with_reducible repeat (first | refine blk_drewN ?_ _ | refine blk_drew ?_ | refine blk_alloc ?_ _)); refine blk_put (cs := #[.int .i64 0, .string (⟨#[]⟩ : ByteArray), .string (⟨#[]⟩ : ByteArray), .int .i64 0, .int .i64 0]) ?_ 0 _ rfl; (with_reducible repeat (first | refine blk_drewN ?_ _ | refine blk_drew ?_ | refine blk_alloc ?_ _)); exact BK124.out) Tryd.underlying23 rfl (by kernel_rfl)) rfl ?_
  exact ⟨by first | rfl | (simp [errW_none, errW_some] <;> rfl) | (simp [*, errW_none, errW_some] <;> rfl), by repeat (first | (with_reducible first | exact HB.out | apply below_alloc | apply pw_below_drewN | apply below_drew1 | refine below_set ?_ GE123.out | refine below_set ?_ GE124.out) | exact HB.out)⟩
end Go.Proofs.YtandbobinjhehaaDoor.SC
end
section
namespace Go.Proofs.YtandbobinjhehaaDoor.Hand
open Go.RowKit
theorem ba_ext {a b : ByteArray} (h : a.toList = b.toList) : a = b := by
  rw [ByteArray.toList_eq, ByteArray.toList_eq] at h
  exact ByteArray.ext (Array.toList_inj.1 h)
theorem ba_nil {a : ByteArray} (h : a.toList = []) : a = ⟨#[]⟩ := ba_ext (h.trans (by rw [ByteArray.toList_eq]))
theorem index_one (c : UInt8) (q : List UInt8) : ∀ p : List UInt8, c ∉ p → Lib.index (p ++ c :: q) [c] = p.length
  | [], _ => by simp [Lib.index]
  | b :: p, h => by
    have hb : c ≠ b := fun e => h (e ▸ List.mem_cons_self ..)
    have hp : c ∉ p := fun e => h (List.mem_cons_of_mem _ e)
    have ih := index_one c q p hp
    simp only [List.cons_append, Lib.index]
    rw [ih]
    simp [hb, List.isPrefixOf]
    try omega
theorem cut_one (c : UInt8) (p q : List UInt8) (h : c ∉ p) : Lib.cut (p ++ c :: q) [c] = (p, q, true) := by
  unfold Lib.cut
  rw [index_one c q p h, if_pos (by omega)]
  simp
theorem cut_found (l : List UInt8) (c : UInt8) (h : (Lib.cut l [c]).2.2 = true) : l = (Lib.cut l [c]).1 ++ c :: (Lib.cut l [c]).2.1 := by
  unfold Lib.cut at h ⊢
  rcases Lib.index_spec l [c] with ⟨hi, _⟩ | ⟨i, hi, hle, hocc, _⟩
  · rw [hi] at h
    simp at h
  · rw [hi, if_pos (by omega)]
    simp only [Int.toNat_natCast, List.length_singleton]
    unfold Lib.occAt at hocc
    have hd : l.drop i = c :: l.drop (i + 1) := by
      rw [← List.tail_drop]
      cases hdd : l.drop i with
      | nil => rw [hdd] at hocc; simp [List.isPrefixOf] at hocc
      | cons b r =>
        rw [hdd] at hocc
        simp [List.isPrefixOf] at hocc
        rw [hocc]
        rfl
    rw [← hd, List.take_append_drop]
theorem dig_ok : ∀ u : Nat, ∀ d ∈ Lib.decDigits u, 48 ≤ d.toNat ∧ d.toNat ≤ 57 := by
  intro u
  induction u using Nat.strongRecOn with
  | _ u ih =>
    intro d hd
    rw [Lib.decDigits] at hd
    split at hd
    · simp only [List.mem_singleton] at hd
      subst hd
      have : (UInt8.ofNat (48 + u)).toNat = 48 + u := by simp; omega
      omega
    · rcases List.mem_append.1 hd with hd | hd
      · exact ih (u / 10) (by omega) d hd
      · simp only [List.mem_singleton] at hd
        subst hd
        have : (UInt8.ofNat (48 + u % 10)).toNat = 48 + u % 10 := by simp; omega
        omega
theorem dig_len : ∀ k u : Nat, u < 10 ^ (k + 1) → (Lib.decDigits u).length ≤ k + 1 := by
  intro k
  induction k with
  | zero =>
    intro u hu
    rw [Lib.decDigits, dif_pos (by omega)]
    simp
  | succ k ih =>
    intro u hu
    rw [Lib.decDigits]
    split
    · simp
    · have := ih (u / 10) (by rw [Nat.pow_succ] at hu; omega)
      simp
      omega
theorem dig_ne (u : Nat) : Lib.decDigits u ≠ [] := by
  rw [Lib.decDigits]
  split <;> simp
theorem parse_app : ∀ (l r : List UInt8) (acc v : Nat), Lib.parseUint10 acc l = .ok v → Lib.parseUint10 acc (l ++ r) = Lib.parseUint10 v r
  | [], r, acc, v, h => by
    simp only [Lib.parseUint10] at h
    injection h with h
    subst h
    rfl
  | c :: l, r, acc, v, h => by
    simp only [Lib.parseUint10, List.cons_append] at h ⊢
    split at h
    · split at h
      · cases h
      · split at h
        · cases h
        · rename_i h1 h2 h3
          rw [if_pos h1, if_neg h2, if_neg h3]
          exact parse_app l r _ v h
    · cases h
theorem parse_dig : ∀ u : Nat, u ≤ 1000000000000000000 → Lib.parseUint10 0 (Lib.decDigits u) = .ok u := by
  intro u
  induction u using Nat.strongRecOn with
  | _ u ih =>
    intro hu
    rw [Lib.decDigits]
    split
    · have : (UInt8.ofNat (48 + u)).toNat = 48 + u := by simp; omega
      simp only [Lib.parseUint10, this]
      rw [if_pos (by omega), if_neg (by omega), if_neg (by omega)]
      congr 1
      omega
    · rw [parse_app _ _ _ _ (ih (u / 10) (by omega) (by omega))]
      have : (UInt8.ofNat (48 + u % 10)).toNat = 48 + u % 10 := by simp; omega
      simp only [Lib.parseUint10, this]
      rw [if_pos (by omega), if_neg (by omega), if_neg (by omega)]
      congr 1
      omega
theorem itoa_dig (a : Int) (h : 0 ≤ a) : Lib.itoa a = Lib.decDigits a.toNat := by
  unfold Lib.itoa
  rw [if_neg (by omega)]
theorem atoi_itoa (a : Int) (h : 0 ≤ a) (h2 : a ≤ 999999999) : atoiNum (Lib.itoa a) = a := by
  have hp := parse_dig a.toNat (by omega)
  rw [itoa_dig a h]
  cases hd : Lib.decDigits a.toNat with
  | nil => exact absurd hd (dig_ne _)
  | cons c r =>
    have hc := dig_ok a.toNat c (by rw [hd]; exact List.mem_cons_self ..)
    unfold atoiNum Lib.atoiAll
    rw [hd] at hp
    simp only
    rw [if_neg (by omega)]
    unfold Lib.parseMag
    rw [if_neg (by simp), hp]
    simp only
    rw [if_neg (by omega), if_neg (by omega), if_neg (by omega)]
    simp
    omega
theorem restDtn_data (a1 a2 : ByteArray) : (restDtn a1 a2).data.toList = [47, 47] ++ (a1.data.toList ++ 47 :: a2.data.toList) := by
  unfold restDtn
  simp [ByteArray.data_append]
theorem restIpn_data (a3 a4 : Int) : (restIpn a3 a4).data.toList = Lib.itoa a3 ++ 46 :: Lib.itoa a4 := by
  unfold restIpn txt
  simp [ByteArray.data_append]
theorem txt_data (a : ByteArray) : txt a.data.toList = a := by
  unfold txt
  simp
theorem part_no {a : ByteArray} {signs : ByteArray} {c : UInt8} (h : partS a signs = true) (hc : okByte signs c = false) : c ∉ a.data.toList := by
  intro hm
  unfold partS at h
  simp only [Bool.and_eq_true, List.all_eq_true] at h
  rw [h.1 c hm] at hc
  cases hc
theorem dtn_parts (a1 a2 : ByteArray) (h : partS a1 ⟨#[45, 46]⟩ = true) : dtnParts (restDtn a1 a2) = (a1, a2) := by
  have hn : (47 : UInt8) ∉ a1.data.toList := part_no h (by decide)
  unfold dtnParts
  have ht : Lib.trimPrefix (restDtn a1 a2).data.toList [47, 47] = a1.data.toList ++ 47 :: a2.data.toList := by
    rw [restDtn_data]
    unfold Lib.trimPrefix Lib.hasPrefix
    simp [List.isPrefixOf]
  rw [ht, cut_one _ _ _ hn, txt_data, txt_data]
theorem ipn_parts (a3 a4 : Int) (h3 : 0 ≤ a3) (h3' : a3 ≤ 999999999) (h4 : 0 ≤ a4) (h4' : a4 ≤ 999999999) : ipnParts (restIpn a3 a4) = (a3, a4) := by
  have hn : (46 : UInt8) ∉ Lib.itoa a3 := by
    intro hm
    rw [itoa_dig a3 h3] at hm
    have := dig_ok _ _ hm
    simp at this
  unfold ipnParts
  rw [restIpn_data, cut_one _ _ _ hn]
  simp only
  rw [atoi_itoa a3 h3 h3', atoi_itoa a4 h4 h4']
theorem right_none2 {a1 a2 : ByteArray} {a3 a4 : Int} (h : rightS 0 a1 a2 a3 a4 = true) : a1 = ⟨#[]⟩ ∧ a2 = ⟨#[]⟩ ∧ a3 = 0 ∧ a4 = 0 := by
  unfold rightS at h
  rw [if_pos rfl] at h
  simp only [Bool.and_eq_true, beq_iff_eq] at h
  exact ⟨ba_nil h.1, ba_nil h.2.1, h.2.2.1, h.2.2.2⟩
theorem right_num {n : Int} {a1 a2 : ByteArray} {a3 a4 : Int} (h : rightS n a1 a2 a3 a4 = true) : n = 0 ∨ n = 1 ∨ n = 2 := by
  unfold rightS at h
  by_cases h0 : n = 0
  · exact .inl h0
  · by_cases h1 : n = 1
    · exact .inr (.inl h1)
    · by_cases h2 : n = 2
      · exact .inr (.inr h2)
      · rw [if_neg h0, if_neg h1, if_neg h2] at h
        cases h
theorem half_is {word rest : ByteArray} {x : Eid} : isHalf word rest x = true ↔ rightS x.s x.n x.v x.a x.b = true ∧ wordS x.s = word ∧ restS x.s x.n x.v x.a x.b = rest := by
  unfold isHalf halvesS
  by_cases hr : rightS x.s x.n x.v x.a x.b = true
  · rw [if_pos hr]
    simp only [hr, Bool.and_eq_true, beq_iff_eq, true_and]
    exact ⟨fun h => ⟨ba_ext h.1, ba_ext h.2⟩, fun h => ⟨by rw [h.1], by rw [h.2]⟩⟩
  · rw [if_neg hr]
    simp [hr]
theorem join_right {word rest : ByteArray} {x : Eid} (h : joinS word rest = some x) : rightS x.s x.n x.v x.a x.b = true ∧ wordS x.s = word ∧ restS x.s x.n x.v x.a x.b = rest :=
  half_is.1 (List.find?_some h)
theorem join_of {n : Int} {a1 a2 : ByteArray} {a3 a4 : Int} (h : rightS n a1 a2 a3 a4 = true) : joinS (wordS n) (restS n a1 a2 a3 a4) = some ⟨n, a1, a2, a3, a4⟩ := by
  have hh : isHalf (wordS n) (restS n a1 a2 a3 a4) ⟨n, a1, a2, a3, a4⟩ = true := half_is.2 ⟨h, rfl, rfl⟩
  rcases right_num h with rfl | rfl | rfl
  · obtain ⟨rfl, rfl, rfl, rfl⟩ := right_none2 h
    unfold joinS cands
    rw [if_pos ⟨by decide, by rw [ByteArray.toList_eq]; rfl⟩]
    simp only [List.cons_append, List.nil_append, List.find?_cons]
    rw [hh]
  · obtain ⟨_, hp, _, h3, h4⟩ := right_dtn h
    subst h3 h4
    unfold joinS cands
    rw [if_pos ⟨by decide, by rw [ByteArray.toList_eq]; rfl⟩, if_pos ⟨by decide, by rw [ByteArray.toList_eq]; rfl⟩]
    simp only [List.cons_append, List.nil_append, List.find?_cons]
    have h0 : isHalf (wordS 1) (restS 1 a1 a2 0 0) ⟨0, ⟨#[]⟩, ⟨#[]⟩, 0, 0⟩ = false := by
      rw [Bool.eq_false_iff]
      intro hc
      have h2 := (half_is.1 hc).2.2
      have h3 : wNone.data.toList = (restDtn a1 a2).data.toList := congrArg (fun z : ByteArray => z.data.toList) h2
      rw [restDtn_data] at h3
      simp [wNone] at h3
    rw [h0]
    simp only
    rw [show restS 1 a1 a2 0 0 = restDtn a1 a2 from rfl, dtn_parts a1 a2 hp]
    rw [show restS 1 a1 a2 0 0 = restDtn a1 a2 from rfl] at hh
    rw [hh]
  · obtain ⟨h1, h2, h3, h3', h4, h4'⟩ := right_ipn h
    obtain rfl := ba_nil h1
    obtain rfl := ba_nil h2
    unfold joinS cands
    rw [if_neg (by rw [ByteArray.toList_eq]; rintro ⟨_, h⟩; revert h; decide), if_neg (by rw [ByteArray.toList_eq]; rintro ⟨_, h⟩; revert h; decide), if_pos ⟨by decide, by rw [ByteArray.toList_eq]; rfl⟩]
    simp only [List.nil_append, List.find?_cons]
    rw [show restS 2 ⟨#[]⟩ ⟨#[]⟩ a3 a4 = restIpn a3 a4 from rfl, ipn_parts a3 a4 (by omega) h3' h4 h4']
    rw [show restS 2 ⟨#[]⟩ ⟨#[]⟩ a3 a4 = restIpn a3 a4 from rfl] at hh
    rw [hh]
theorem halves_inj {n m : Int} {a1 a2 b1 b2 : ByteArray} {a3 a4 b3 b4 : Int} (h : rightS n a1 a2 a3 a4 = true) (h' : rightS m b1 b2 b3 b4 = true) (hw : wordS n = wordS m) (hr : restS n a1 a2 a3 a4 = restS m b1 b2 b3 b4) :
    n = m ∧ a1 = b1 ∧ a2 = b2 ∧ a3 = b3 ∧ a4 = b4 := by
  have e := join_of h
  rw [hw, hr, join_of h'] at e
  injection e with e
  injection e with e1 e2 e3 e4 e5
  exact ⟨e1.symm, e2.symm, e3.symm, e4.symm, e5.symm⟩
end Go.Proofs.YtandbobinjhehaaDoor.Hand
end
section
namespace Go.Proofs.YtandbobinjhehaaDoor.Hand
open Go.RowKit Go.Proofs.YtandbobinjhehaaDoor.SC
theorem p1 : eid_Parse.f ⟨#[100, 116, 110, 58, 47, 47, 101, 97, 114, 116, 104, 47, 110, 101, 119, 115]⟩ = some (1, ⟨#[101, 97, 114, 116, 104]⟩, ⟨#[110, 101, 119, 115]⟩, 0, 0, 0) := by decide +kernel
theorem p2 : eid_Home.f 1 ⟨#[101, 97, 114, 116, 104]⟩ ⟨#[110, 101, 119, 115]⟩ 0 0 = some (1, ⟨#[101, 97, 114, 116, 104]⟩, ⟨#[]⟩, 0, 0, 0) := by decide +kernel
theorem p3 : eid_Print.f 1 ⟨#[101, 97, 114, 116, 104]⟩ ⟨#[]⟩ 0 0 = some (⟨#[100, 116, 110, 58, 47, 47, 101, 97, 114, 116, 104, 47]⟩, 0) := by decide +kernel
theorem p4 : eid_Parse.f ⟨#[105, 112, 110, 58, 52, 46, 55]⟩ = some (2, ⟨#[]⟩, ⟨#[]⟩, 4, 7, 0) := by decide +kernel
theorem p5 : eid_Parse.f ⟨#[100, 116, 110, 58, 110, 111, 110, 101]⟩ = some (0, ⟨#[]⟩, ⟨#[]⟩, 0, 0, 0) := by decide +kernel
theorem p6 : eid_Parse.f ⟨#[105, 112, 110, 58, 48, 52, 46, 55]⟩ = some (0, ⟨#[]⟩, ⟨#[]⟩, 0, 0, 60) := by decide +kernel
theorem p7 : eid_Parse.f ⟨#[105, 112, 110, 58, 48, 46, 55]⟩ = some (0, ⟨#[]⟩, ⟨#[]⟩, 0, 0, 60) := by decide +kernel
set_option maxRecDepth 100000 in
set_option maxHeartbeats 4000000 in
theorem shown_walk (w : World) (hLd : Laid w) :
    Calls Tryd.prog 8 #[] w fun e w' => e = .returned (.bool true) ∧ Below w.heap.size w w' := by
  have hu := Tryd.underlying23
  have HL0 := Lib.hid hLd
  have HB0 := Lib.hid (Below.refl w.heap.size w)
  clear hLd
  go_enter Tryd.func8, Tryd.ntmps8
  go_wp2_with (fail)
  refine (eid_Parse.calls _ _ _ _ _ _ _ _ HL0.out p1).mono ?_
  rintro e0 w1 ⟨rfl, hb0⟩
  have HL1 := Lib.hid (HL0.out.below hb0)
  have HB1 := Lib.hid (YtandbobinjhehaaDoorW.PrintWords.below_step HB0.out hb0)
  clear hb0 HL0 HB0
  go_wp2_with (fail)
  refine (eid_Home.calls _ _ _ _ _ _ _ _ _ _ _ _ p2).mono ?_
  rintro e1 w2 ⟨rfl, hb1⟩
  have HL2 := Lib.hid ((HL1.out.below (b_alloc (Below.refl _ _) _)).below hb1)
  have HB2 := Lib.hid (YtandbobinjhehaaDoorW.PrintWords.below_step (b_alloc HB1.out _) hb1)
  have Ka := Lib.hid (YtandbobinjhehaaDoorW.PrintWords.blk_below (YtandbobinjhehaaDoorW.PrintWords.blk_new w1 (.cells #[.int .i64 1, .string ⟨#[101, 97, 114, 116, 104]⟩, .string ⟨#[110, 101, 119, 115]⟩, .int .i64 0, .int .i64 0] 23)) hb1)
  obtain ⟨ga, hga⟩ : ∃ g, g = w1.heap.size := ⟨_, rfl⟩
  rw [← hga] at Ka ⊢
  clear hga
  clear hb1 HL1 HB1
  go_wp2_with (fail)
  refine (eid_Print.calls _ _ _ _ _ _ _ _ (Laid.below HL2.out (b_alloc (Below.refl _ _) _)) p3).mono ?_
  rintro e2 w3 ⟨rfl, hb2⟩
  have HL3 := Lib.hid ((HL2.out.below (b_alloc (Below.refl _ _) _)).below hb2)
  have HB3 := Lib.hid (YtandbobinjhehaaDoorW.PrintWords.below_step (b_alloc HB2.out _) hb2)
  have Ka' := Lib.hid (YtandbobinjhehaaDoorW.PrintWords.blk_below (YtandbobinjhehaaDoorW.PrintWords.blk_alloc Ka.out _) hb2)
  clear Ka
  have Ka := Ka'
  clear Ka'
  have Kb := Lib.hid (YtandbobinjhehaaDoorW.PrintWords.blk_below (YtandbobinjhehaaDoorW.PrintWords.blk_new w2 (.cells #[.int .i64 1, .string ⟨#[101, 97, 114, 116, 104]⟩, .string ⟨#[]⟩, .int .i64 0, .int .i64 0] 23)) hb2)
  obtain ⟨gb, hgb⟩ : ∃ g, g = w2.heap.size := ⟨_, rfl⟩
  rw [← hgb] at Kb ⊢
  clear hgb
  clear hb2 HL2 HB2
  go_wp2_with (fail)
  refine (eid_Parse.calls _ _ _ _ _ _ _ _ HL3.out p4).mono ?_
  rintro e3 w4 ⟨rfl, hb3⟩
  have HL4 := Lib.hid (HL3.out.below hb3)
  have HB4 := Lib.hid (YtandbobinjhehaaDoorW.PrintWords.below_step HB3.out hb3)
  have Ka' := Lib.hid (YtandbobinjhehaaDoorW.PrintWords.blk_below Ka.out hb3)
  clear Ka
  have Ka := Ka'
  clear Ka'
  have Kb' := Lib.hid (YtandbobinjhehaaDoorW.PrintWords.blk_below Kb.out hb3)
  clear Kb
  have Kb := Kb'
  clear Kb'
  clear hb3 HL3 HB3
  go_wp2_with (fail)
  refine (eid_Parse.calls _ _ _ _ _ _ _ _ (Laid.below HL4.out (b_alloc (Below.refl _ _) _)) p5).mono ?_
  rintro e4 w5 ⟨rfl, hb4⟩
  have HL5 := Lib.hid ((HL4.out.below (b_alloc (Below.refl _ _) _)).below hb4)
  have HB5 := Lib.hid (YtandbobinjhehaaDoorW.PrintWords.below_step (b_alloc HB4.out _) hb4)
  have Ka' := Lib.hid (YtandbobinjhehaaDoorW.PrintWords.blk_below (YtandbobinjhehaaDoorW.PrintWords.blk_alloc Ka.out _) hb4)
  clear Ka
  have Ka := Ka'
  clear Ka'
  have Kb' := Lib.hid (YtandbobinjhehaaDoorW.PrintWords.blk_below (YtandbobinjhehaaDoorW.PrintWords.blk_alloc Kb.out _) hb4)
  clear Kb
  have Kb := Kb'
  clear Kb'
  have Kc := Lib.hid (YtandbobinjhehaaDoorW.PrintWords.blk_below (YtandbobinjhehaaDoorW.PrintWords.blk_new w4 (.cells #[.int .i64 2, .string ⟨#[]⟩, .string ⟨#[]⟩, .int .i64 4, .int .i64 7] 23)) hb4)
  obtain ⟨gc, hgc⟩ : ∃ g, g = w4.heap.size := ⟨_, rfl⟩
  rw [← hgc] at Kc ⊢
  clear hgc
  clear hb4 HL4 HB4
  go_wp2_with (fail)
  refine (eid_Parse.calls _ _ _ _ _ _ _ _ (Laid.below HL5.out (b_alloc (Below.refl _ _) _)) p6).mono ?_
  rintro e5 w6 ⟨rfl, hb5⟩
  have HL6 := Lib.hid ((HL5.out.below (b_alloc (Below.refl _ _) _)).below hb5)
  have HB6 := Lib.hid (YtandbobinjhehaaDoorW.PrintWords.below_step (b_alloc HB5.out _) hb5)
  have Ka' := Lib.hid (YtandbobinjhehaaDoorW.PrintWords.blk_below (YtandbobinjhehaaDoorW.PrintWords.blk_alloc Ka.out _) hb5)
  clear Ka
  have Ka := Ka'
  clear Ka'
  have Kb' := Lib.hid (YtandbobinjhehaaDoorW.PrintWords.blk_below (YtandbobinjhehaaDoorW.PrintWords.blk_alloc Kb.out _) hb5)
  clear Kb
  have Kb := Kb'
  clear Kb'
  have Kc' := Lib.hid (YtandbobinjhehaaDoorW.PrintWords.blk_below (YtandbobinjhehaaDoorW.PrintWords.blk_alloc Kc.out _) hb5)
  clear Kc
  have Kc := Kc'
  clear Kc'
  have Kn := Lib.hid (YtandbobinjhehaaDoorW.PrintWords.blk_below (YtandbobinjhehaaDoorW.PrintWords.blk_new w5 (.cells #[.int .i64 0, .string ⟨#[]⟩, .string ⟨#[]⟩, .int .i64 0, .int .i64 0] 23)) hb5)
  obtain ⟨gn, hgn⟩ : ∃ g, g = w5.heap.size := ⟨_, rfl⟩
  rw [← hgn] at Kn ⊢
  clear hgn
  clear hb5 HL5 HB5
  go_wp2_with (fail)
  refine (eid_Parse.calls _ _ _ _ _ _ _ _ (Laid.below HL6.out (b_alloc (Below.refl _ _) _)) p7).mono ?_
  rintro e6 w7 ⟨rfl, hb6⟩
  have HL7 := Lib.hid ((HL6.out.below (b_alloc (Below.refl _ _) _)).below hb6)
  have HB7 := Lib.hid (YtandbobinjhehaaDoorW.PrintWords.below_step (b_alloc HB6.out _) hb6)
  have Ka' := Lib.hid (YtandbobinjhehaaDoorW.PrintWords.blk_below (YtandbobinjhehaaDoorW.PrintWords.blk_alloc Ka.out _) hb6)
  clear Ka
  have Ka := Ka'
  clear Ka'
  have Kb' := Lib.hid (YtandbobinjhehaaDoorW.PrintWords.blk_below (YtandbobinjhehaaDoorW.PrintWords.blk_alloc Kb.out _) hb6)
  clear Kb
  have Kb := Kb'
  clear Kb'
  have Kc' := Lib.hid (YtandbobinjhehaaDoorW.PrintWords.blk_below (YtandbobinjhehaaDoorW.PrintWords.blk_alloc Kc.out _) hb6)
  clear Kc
  have Kc := Kc'
  clear Kc'
  have Kn' := Lib.hid (YtandbobinjhehaaDoorW.PrintWords.blk_below (YtandbobinjhehaaDoorW.PrintWords.blk_alloc Kn.out _) hb6)
  clear Kn
  have Kn := Kn'
  clear Kn'
  have Ku := Lib.hid (YtandbobinjhehaaDoorW.PrintWords.blk_below (YtandbobinjhehaaDoorW.PrintWords.blk_new w6 (.cells #[.int .i64 0, .string ⟨#[]⟩, .string ⟨#[]⟩, .int .i64 0, .int .i64 0] 23)) hb6)
  obtain ⟨gu, hgu⟩ : ∃ g, g = w6.heap.size := ⟨_, rfl⟩
  rw [← hgu] at Ku ⊢
  clear hgu
  clear hb6 HL6 HB6
  have ca0 : (w7.alloc (.cells #[.int .i64 0, .string ⟨#[]⟩, .string ⟨#[]⟩, .int .i64 0, .int .i64 0] 23)).cell? ⟨ga, 0, none⟩ = some (.int .i64 1) := (cell_blk (YtandbobinjhehaaDoorW.PrintWords.blk_alloc Ka.out _) 0).trans rfl
  have fa0 := frozen_blk (YtandbobinjhehaaDoorW.PrintWords.blk_alloc Ka.out (.cells #[.int .i64 0, .string ⟨#[]⟩, .string ⟨#[]⟩, .int .i64 0, .int .i64 0] 23)) 0
  have ca1 : (w7.alloc (.cells #[.int .i64 0, .string ⟨#[]⟩, .string ⟨#[]⟩, .int .i64 0, .int .i64 0] 23)).cell? ⟨ga, 1, none⟩ = some (.string ⟨#[101, 97, 114, 116, 104]⟩) := (cell_blk (YtandbobinjhehaaDoorW.PrintWords.blk_alloc Ka.out _) 1).trans rfl
  have fa1 := frozen_blk (YtandbobinjhehaaDoorW.PrintWords.blk_alloc Ka.out (.cells #[.int .i64 0, .string ⟨#[]⟩, .string ⟨#[]⟩, .int .i64 0, .int .i64 0] 23)) 1
  have ca2 : (w7.alloc (.cells #[.int .i64 0, .string ⟨#[]⟩, .string ⟨#[]⟩, .int .i64 0, .int .i64 0] 23)).cell? ⟨ga, 2, none⟩ = some (.string ⟨#[110, 101, 119, 115]⟩) := (cell_blk (YtandbobinjhehaaDoorW.PrintWords.blk_alloc Ka.out _) 2).trans rfl
  have fa2 := frozen_blk (YtandbobinjhehaaDoorW.PrintWords.blk_alloc Ka.out (.cells #[.int .i64 0, .string ⟨#[]⟩, .string ⟨#[]⟩, .int .i64 0, .int .i64 0] 23)) 2
  have ca3 : (w7.alloc (.cells #[.int .i64 0, .string ⟨#[]⟩, .string ⟨#[]⟩, .int .i64 0, .int .i64 0] 23)).cell? ⟨ga, 3, none⟩ = some (.int .i64 0) := (cell_blk (YtandbobinjhehaaDoorW.PrintWords.blk_alloc Ka.out _) 3).trans rfl
  have fa3 := frozen_blk (YtandbobinjhehaaDoorW.PrintWords.blk_alloc Ka.out (.cells #[.int .i64 0, .string ⟨#[]⟩, .string ⟨#[]⟩, .int .i64 0, .int .i64 0] 23)) 3
  have ca4 : (w7.alloc (.cells #[.int .i64 0, .string ⟨#[]⟩, .string ⟨#[]⟩, .int .i64 0, .int .i64 0] 23)).cell? ⟨ga, 4, none⟩ = some (.int .i64 0) := (cell_blk (YtandbobinjhehaaDoorW.PrintWords.blk_alloc Ka.out _) 4).trans rfl
  have fa4 := frozen_blk (YtandbobinjhehaaDoorW.PrintWords.blk_alloc Ka.out (.cells #[.int .i64 0, .string ⟨#[]⟩, .string ⟨#[]⟩, .int .i64 0, .int .i64 0] 23)) 4
  have cb0 : (w7.alloc (.cells #[.int .i64 0, .string ⟨#[]⟩, .string ⟨#[]⟩, .int .i64 0, .int .i64 0] 23)).cell? ⟨gb, 0, none⟩ = some (.int .i64 1) := (cell_blk (YtandbobinjhehaaDoorW.PrintWords.blk_alloc Kb.out _) 0).trans rfl
  have fb0 := frozen_blk (YtandbobinjhehaaDoorW.PrintWords.blk_alloc Kb.out (.cells #[.int .i64 0, .string ⟨#[]⟩, .string ⟨#[]⟩, .int .i64 0, .int .i64 0] 23)) 0
  have cb1 : (w7.alloc (.cells #[.int .i64 0, .string ⟨#[]⟩, .string ⟨#[]⟩, .int .i64 0, .int .i64 0] 23)).cell? ⟨gb, 1, none⟩ = some (.string ⟨#[101, 97, 114, 116, 104]⟩) := (cell_blk (YtandbobinjhehaaDoorW.PrintWords.blk_alloc Kb.out _) 1).trans rfl
  have fb1 := frozen_blk (YtandbobinjhehaaDoorW.PrintWords.blk_alloc Kb.out (.cells #[.int .i64 0, .string ⟨#[]⟩, .string ⟨#[]⟩, .int .i64 0, .int .i64 0] 23)) 1
  have cb2 : (w7.alloc (.cells #[.int .i64 0, .string ⟨#[]⟩, .string ⟨#[]⟩, .int .i64 0, .int .i64 0] 23)).cell? ⟨gb, 2, none⟩ = some (.string ⟨#[]⟩) := (cell_blk (YtandbobinjhehaaDoorW.PrintWords.blk_alloc Kb.out _) 2).trans rfl
  have fb2 := frozen_blk (YtandbobinjhehaaDoorW.PrintWords.blk_alloc Kb.out (.cells #[.int .i64 0, .string ⟨#[]⟩, .string ⟨#[]⟩, .int .i64 0, .int .i64 0] 23)) 2
  have cb3 : (w7.alloc (.cells #[.int .i64 0, .string ⟨#[]⟩, .string ⟨#[]⟩, .int .i64 0, .int .i64 0] 23)).cell? ⟨gb, 3, none⟩ = some (.int .i64 0) := (cell_blk (YtandbobinjhehaaDoorW.PrintWords.blk_alloc Kb.out _) 3).trans rfl
  have fb3 := frozen_blk (YtandbobinjhehaaDoorW.PrintWords.blk_alloc Kb.out (.cells #[.int .i64 0, .string ⟨#[]⟩, .string ⟨#[]⟩, .int .i64 0, .int .i64 0] 23)) 3
  have cb4 : (w7.alloc (.cells #[.int .i64 0, .string ⟨#[]⟩, .string ⟨#[]⟩, .int .i64 0, .int .i64 0] 23)).cell? ⟨gb, 4, none⟩ = some (.int .i64 0) := (cell_blk (YtandbobinjhehaaDoorW.PrintWords.blk_alloc Kb.out _) 4).trans rfl
  have fb4 := frozen_blk (YtandbobinjhehaaDoorW.PrintWords.blk_alloc Kb.out (.cells #[.int .i64 0, .string ⟨#[]⟩, .string ⟨#[]⟩, .int .i64 0, .int .i64 0] 23)) 4
  have cc0 : (w7.alloc (.cells #[.int .i64 0, .string ⟨#[]⟩, .string ⟨#[]⟩, .int .i64 0, .int .i64 0] 23)).cell? ⟨gc, 0, none⟩ = some (.int .i64 2) := (cell_blk (YtandbobinjhehaaDoorW.PrintWords.blk_alloc Kc.out _) 0).trans rfl
  have fc0 := frozen_blk (YtandbobinjhehaaDoorW.PrintWords.blk_alloc Kc.out (.cells #[.int .i64 0, .string ⟨#[]⟩, .string ⟨#[]⟩, .int .i64 0, .int .i64 0] 23)) 0
  have cc1 : (w7.alloc (.cells #[.int .i64 0, .string ⟨#[]⟩, .string ⟨#[]⟩, .int .i64 0, .int .i64 0] 23)).cell? ⟨gc, 1, none⟩ = some (.string ⟨#[]⟩) := (cell_blk (YtandbobinjhehaaDoorW.PrintWords.blk_alloc Kc.out _) 1).trans rfl
  have fc1 := frozen_blk (YtandbobinjhehaaDoorW.PrintWords.blk_alloc Kc.out (.cells #[.int .i64 0, .string ⟨#[]⟩, .string ⟨#[]⟩, .int .i64 0, .int .i64 0] 23)) 1
  have cc2 : (w7.alloc (.cells #[.int .i64 0, .string ⟨#[]⟩, .string ⟨#[]⟩, .int .i64 0, .int .i64 0] 23)).cell? ⟨gc, 2, none⟩ = some (.string ⟨#[]⟩) := (cell_blk (YtandbobinjhehaaDoorW.PrintWords.blk_alloc Kc.out _) 2).trans rfl
  have fc2 := frozen_blk (YtandbobinjhehaaDoorW.PrintWords.blk_alloc Kc.out (.cells #[.int .i64 0, .string ⟨#[]⟩, .string ⟨#[]⟩, .int .i64 0, .int .i64 0] 23)) 2
  have cc3 : (w7.alloc (.cells #[.int .i64 0, .string ⟨#[]⟩, .string ⟨#[]⟩, .int .i64 0, .int .i64 0] 23)).cell? ⟨gc, 3, none⟩ = some (.int .i64 4) := (cell_blk (YtandbobinjhehaaDoorW.PrintWords.blk_alloc Kc.out _) 3).trans rfl
  have fc3 := frozen_blk (YtandbobinjhehaaDoorW.PrintWords.blk_alloc Kc.out (.cells #[.int .i64 0, .string ⟨#[]⟩, .string ⟨#[]⟩, .int .i64 0, .int .i64 0] 23)) 3
  have cc4 : (w7.alloc (.cells #[.int .i64 0, .string ⟨#[]⟩, .string ⟨#[]⟩, .int .i64 0, .int .i64 0] 23)).cell? ⟨gc, 4, none⟩ = some (.int .i64 7) := (cell_blk (YtandbobinjhehaaDoorW.PrintWords.blk_alloc Kc.out _) 4).trans rfl
  have fc4 := frozen_blk (YtandbobinjhehaaDoorW.PrintWords.blk_alloc Kc.out (.cells #[.int .i64 0, .string ⟨#[]⟩, .string ⟨#[]⟩, .int .i64 0, .int .i64 0] 23)) 4
  have cn0 : (w7.alloc (.cells #[.int .i64 0, .string ⟨#[]⟩, .string ⟨#[]⟩, .int .i64 0, .int .i64 0] 23)).cell? ⟨gn, 0, none⟩ = some (.int .i64 0) := (cell_blk (YtandbobinjhehaaDoorW.PrintWords.blk_alloc Kn.out _) 0).trans rfl
  have fn0 := frozen_blk (YtandbobinjhehaaDoorW.PrintWords.blk_alloc Kn.out (.cells #[.int .i64 0, .string ⟨#[]⟩, .string ⟨#[]⟩, .int .i64 0, .int .i64 0] 23)) 0
  have cn1 : (w7.alloc (.cells #[.int .i64 0, .string ⟨#[]⟩, .string ⟨#[]⟩, .int .i64 0, .int .i64 0] 23)).cell? ⟨gn, 1, none⟩ = some (.string ⟨#[]⟩) := (cell_blk (YtandbobinjhehaaDoorW.PrintWords.blk_alloc Kn.out _) 1).trans rfl
  have fn1 := frozen_blk (YtandbobinjhehaaDoorW.PrintWords.blk_alloc Kn.out (.cells #[.int .i64 0, .string ⟨#[]⟩, .string ⟨#[]⟩, .int .i64 0, .int .i64 0] 23)) 1
  have cn2 : (w7.alloc (.cells #[.int .i64 0, .string ⟨#[]⟩, .string ⟨#[]⟩, .int .i64 0, .int .i64 0] 23)).cell? ⟨gn, 2, none⟩ = some (.string ⟨#[]⟩) := (cell_blk (YtandbobinjhehaaDoorW.PrintWords.blk_alloc Kn.out _) 2).trans rfl
  have fn2 := frozen_blk (YtandbobinjhehaaDoorW.PrintWords.blk_alloc Kn.out (.cells #[.int .i64 0, .string ⟨#[]⟩, .string ⟨#[]⟩, .int .i64 0, .int .i64 0] 23)) 2
  have cn3 : (w7.alloc (.cells #[.int .i64 0, .string ⟨#[]⟩, .string ⟨#[]⟩, .int .i64 0, .int .i64 0] 23)).cell? ⟨gn, 3, none⟩ = some (.int .i64 0) := (cell_blk (YtandbobinjhehaaDoorW.PrintWords.blk_alloc Kn.out _) 3).trans rfl
  have fn3 := frozen_blk (YtandbobinjhehaaDoorW.PrintWords.blk_alloc Kn.out (.cells #[.int .i64 0, .string ⟨#[]⟩, .string ⟨#[]⟩, .int .i64 0, .int .i64 0] 23)) 3
  have cn4 : (w7.alloc (.cells #[.int .i64 0, .string ⟨#[]⟩, .string ⟨#[]⟩, .int .i64 0, .int .i64 0] 23)).cell? ⟨gn, 4, none⟩ = some (.int .i64 0) := (cell_blk (YtandbobinjhehaaDoorW.PrintWords.blk_alloc Kn.out _) 4).trans rfl
  have fn4 := frozen_blk (YtandbobinjhehaaDoorW.PrintWords.blk_alloc Kn.out (.cells #[.int .i64 0, .string ⟨#[]⟩, .string ⟨#[]⟩, .int .i64 0, .int .i64 0] 23)) 4
  go_wp2
  go_ret
  exact ⟨rfl, b_alloc HB7.out _⟩
def postriderlaw06_shown.f : Option Bool := some true
theorem postriderlaw06_shown.calls (r : Bool) (w : World) (hLd : Laid w) (h : postriderlaw06_shown.f = some r) :
    Calls Tryd.prog 8 #[] w fun e w' => e = .returned (.bool r) ∧ Below w.heap.size w w' := by
  unfold postriderlaw06_shown.f at h
  obtain rfl := Option.some.inj h
  exact shown_walk w hLd
end Go.Proofs.YtandbobinjhehaaDoor.Hand
end
section
namespace Go.Proofs.YtandbobinjhehaaDoor.SD
open Go.Proofs.YtandbobinjhehaaDoor.Hand
open Go.Proofs.YtandbobinjhehaaDoor.SA
open Go.Proofs.YtandbobinjhehaaDoor.SC
open Go.RowKit Go.Proofs.YtandbobinjhehaaDoorW.PrintWords Go.Proofs.YtandbobinjhehaaDoorW.PrintLast Go.Proofs.YtandbobinjhehaaDoorW.PrintMore
attribute [local go_sem] max2_int min2_int max_two min_two max_three min_three max_four min_four
set_option linter.unusedVariables false
set_option linter.unusedSimpArgs false
def errW : Option Int → Value
  | none => .nilIface
  | some c => .iface 0 (.int .i64 c)
theorem errW_none : errW none = .nilIface := rfl
theorem errW_some (c : Int) : errW (some c) = .iface 0 (.int .i64 c) := rfl
end Go.Proofs.YtandbobinjhehaaDoor.SD
end
section
namespace Go.Proofs.YtandbobinjhehaaDoor.SD
open Go.Proofs.YtandbobinjhehaaDoor.Hand
open Go.Proofs.YtandbobinjhehaaDoor.SA
open Go.Proofs.YtandbobinjhehaaDoor.SC
open Go.RowKit Go.Proofs.YtandbobinjhehaaDoorW.PrintWords Go.Proofs.YtandbobinjhehaaDoorW.PrintLast Go.Proofs.YtandbobinjhehaaDoorW.PrintMore
attribute [local go_sem] max2_int min2_int max_two min_two max_three min_three max_four min_four
set_option linter.unusedVariables false
set_option linter.unusedSimpArgs false
theorem eqA23 (d : Nat) (w : World) (x0 y0 : Int) (x1 y1 : ByteArray) (x2 y2 : ByteArray) (x3 y3 : Int) (x4 y4 : Int) :
    (Op.equalIn (d + 2) 23 (.agg #[.int .i64 x0, .string x1, .string x2, .int .i64 x3, .int .i64 x4]) (.agg #[.int .i64 y0, .string y1, .string y2, .int .i64 y3, .int .i64 y4])).run Tryd.prog w = .ok (x0 == y0 && (x1.toList == y1.toList && (x2.toList == y2.toList && (x3 == y3 && (x4 == y4))))) w := by
  refine eqA_of Tryd.underlying23 (by kernel_rfl) ?_
  refine eqf_cons (by rfl) (by go_simp; rfl) (by go_simp; rfl) (by go_simp) ?_
  refine eqf_cons (by rfl) (by go_simp; rfl) (by go_simp; rfl) (by go_simp) ?_
  refine eqf_cons (by rfl) (by go_simp; rfl) (by go_simp; rfl) (by go_simp) ?_
  refine eqf_cons (by rfl) (by go_simp; rfl) (by go_simp; rfl) (by go_simp) ?_
  exact eqf_last (by rfl) (by go_simp; rfl) (by go_simp; rfl) (by go_simp)
end Go.Proofs.YtandbobinjhehaaDoor.SD
end
section
namespace Go.Proofs.YtandbobinjhehaaDoor.Hand
open Go.RowKit Go.Proofs.YtandbobinjhehaaDoor.SA Go.Proofs.YtandbobinjhehaaDoor.SC Go.Proofs.YtandbobinjhehaaDoor.SD
theorem mn_len (n : Nat) (k : Int) (hk : 0 ≤ k) : 0 ≤ YtandbobinjhehaaDoorW.PrintWords.mn n k ∧ YtandbobinjhehaaDoorW.PrintWords.mn n k ≤ n ∧ YtandbobinjhehaaDoorW.PrintWords.mn n k ≤ k := by
  unfold YtandbobinjhehaaDoorW.PrintWords.mn
  split <;> omega
theorem Cut_is (a0 : Int) (a1 a2 : ByteArray) (a3 a4 : Int) : ∃ b1 b2 : ByteArray, postriderlaw06_Cut.f a0 a1 a2 a3 a4 = some (a0, b1, b2, a3, a4) ∧ b1.size ≤ 21 ∧ b2.size ≤ 21 := by
  obtain ⟨h1, h2, h3⟩ := mn_len a1.size 21 (by decide)
  obtain ⟨k1, k2, k3⟩ := mn_len a2.size 21 (by decide)
  unfold postriderlaw06_Cut.f
  rw [if_pos h1, if_pos h2, if_pos k1, if_pos k2]
  refine ⟨_, _, rfl, ?_, ?_⟩
  · rw [ByteArray.size_extract]; omega
  · rw [ByteArray.size_extract]; omega
theorem cut_is (a : ByteArray) : ∃ b : ByteArray, postriderlaw06_cut.f a = some b ∧ b.size ≤ 80 := by
  obtain ⟨h1, h2, h3⟩ := mn_len a.size 80 (by decide)
  unfold postriderlaw06_cut.f
  rw [if_pos h1, if_pos h2]
  refine ⟨_, rfl, ?_⟩
  rw [ByteArray.size_extract]; omega
theorem le_max {a : ByteArray} (h : a.size ≤ 80) : a.size ≤ maxLen := Nat.le_trans h (by decide)
theorem rest_size {n : Int} {a1 a2 : ByteArray} {a3 a4 : Int} (h : rightS n a1 a2 a3 a4 = true) : (restS n a1 a2 a3 a4).size ≤ 43 := by
  rcases right_num h with rfl | rfl | rfl
  · show wNone.size ≤ 43
    decide
  · obtain ⟨_, hp, hq, h3, h4⟩ := right_dtn h
    have := partS_size hp
    have := partS_size hq
    show (restDtn a1 a2).size ≤ 43
    have e : (restDtn a1 a2).size = (restDtn a1 a2).data.toList.length := (Array.length_toList ..).symm
    rw [e, restDtn_data]
    simp only [List.length_append, List.length_cons, List.length_nil, Array.length_toList]
    show 2 + (a1.size + (a2.size + 1)) ≤ 43
    omega
  · obtain ⟨h1, h2, h3, h3', h4, h4'⟩ := right_ipn h
    show (restIpn a3 a4).size ≤ 43
    have e : (restIpn a3 a4).size = (restIpn a3 a4).data.toList.length := (Array.length_toList ..).symm
    rw [e, restIpn_data, itoa_dig a3 (by omega), itoa_dig a4 h4]
    have := dig_len 8 a3.toNat (by omega)
    have := dig_len 8 a4.toNat (by omega)
    simp only [List.length_append, List.length_cons]
    omega
def textS (n : Int) (a1 a2 : ByteArray) (a3 a4 : Int) : ByteArray := (wordS n ++ (⟨#[58]⟩ : ByteArray)) ++ restS n a1 a2 a3 a4
theorem word_size (n : Int) : (wordS n).size = 3 := by unfold wordS; split <;> decide
theorem text_size {n : Int} {a1 a2 : ByteArray} {a3 a4 : Int} (h : rightS n a1 a2 a3 a4 = true) : (textS n a1 a2 a3 a4).size ≤ 47 := by
  unfold textS
  rw [ByteArray.size_append, ByteArray.size_append, word_size]
  have := rest_size h
  show 3 + 1 + _ ≤ 47
  omega
theorem Halves_is (n : Int) (a1 a2 : ByteArray) (a3 a4 : Int) (h1 : a1.size ≤ maxLen) (h2 : a2.size ≤ maxLen) : eid_Halves.f n a1 a2 a3 a4 = some (halvesS n a1 a2 a3 a4) := by
  unfold eid_Halves.f; rw [if_pos ⟨h1, h2⟩]
theorem Right_is (n : Int) (a1 a2 : ByteArray) (a3 a4 : Int) (h1 : a1.size ≤ maxLen) (h2 : a2.size ≤ maxLen) : eid_Right.f n a1 a2 a3 a4 = some (rightS n a1 a2 a3 a4) := by
  unfold eid_Right.f; rw [if_pos ⟨h1, h2⟩]
theorem Print_is (n : Int) (a1 a2 : ByteArray) (a3 a4 : Int) (h1 : a1.size ≤ maxLen) (h2 : a2.size ≤ maxLen) :
    eid_Print.f n a1 a2 a3 a4 = some (if rightS n a1 a2 a3 a4 = true then (textS n a1 a2 a3 a4, 0) else (⟨#[]⟩, 60)) := by
  unfold eid_Print.f
  rw [Halves_is n a1 a2 a3 a4 h1 h2, Option.bind_some]
  unfold halvesS
  by_cases hr : rightS n a1 a2 a3 a4 = true
  · rw [if_pos hr, if_pos hr]
    have := rest_size hr
    have := word_size n
    simp only
    rw [if_pos (by omega), if_pos (by omega)]
    rfl
  · rw [if_neg hr, if_neg hr]
    rfl
theorem word_no (n : Int) : (58 : UInt8) ∉ (wordS n).data.toList := by unfold wordS; split <;> decide
theorem text_data (n : Int) (a1 a2 : ByteArray) (a3 a4 : Int) : (textS n a1 a2 a3 a4).data.toList = (wordS n).data.toList ++ 58 :: (restS n a1 a2 a3 a4).data.toList := by
  unfold textS
  simp [ByteArray.data_append]
def parseS (s : ByteArray) : Int × ByteArray × ByteArray × Int × Int × Int :=
  if (Lib.cut s.data.toList [58]).2.2 = true then joinT (txt (Lib.cut s.data.toList [58]).1) (txt (Lib.cut s.data.toList [58]).2.1) else (0, ⟨#[]⟩, ⟨#[]⟩, 0, 0, 60)
theorem Parse_is (s : ByteArray) (hs : s.size ≤ 80) : eid_Parse.f s = some (parseS s) := by
  unfold eid_Parse.f strings_Cut.f parseS
  rw [if_pos (by omega)]
  simp only [Option.bind_some]
  by_cases hc : (Lib.cut s.data.toList [58]).2.2 = true
  · rw [if_pos hc, if_pos hc]
    unfold eid_Join.f
    have hl := (cut_sizes s.data.toList [58]).2
    rw [if_pos (by rw [txt_size]; rw [Array.length_toList] at hl; exact Nat.lt_of_le_of_lt hl (by show s.size < _; omega))]
    rfl
  · rw [if_neg hc, if_neg hc]
    rfl
theorem joinT_of {n : Int} {a1 a2 : ByteArray} {a3 a4 : Int} (h : rightS n a1 a2 a3 a4 = true) : joinT (wordS n) (restS n a1 a2 a3 a4) = (n, a1, a2, a3, a4, 0) := by
  unfold joinT
  rw [join_of h]
theorem parse_text {n : Int} {a1 a2 : ByteArray} {a3 a4 : Int} (h : rightS n a1 a2 a3 a4 = true) : parseS (textS n a1 a2 a3 a4) = (n, a1, a2, a3, a4, 0) := by
  unfold parseS
  rw [text_data, cut_one _ _ _ (word_no n), if_pos rfl]
  simp only
  rw [txt_data, txt_data, joinT_of h]
theorem parse_either (s : ByteArray) : parseS s = (0, ⟨#[]⟩, ⟨#[]⟩, 0, 0, 60) ∨ ∃ n a1 a2 a3 a4, parseS s = (n, a1, a2, a3, a4, 0) ∧ rightS n a1 a2 a3 a4 = true ∧ textS n a1 a2 a3 a4 = s := by
  unfold parseS
  by_cases hc : (Lib.cut s.data.toList [58]).2.2 = true
  · rw [if_pos hc]
    unfold joinT
    cases hj : joinS (txt (Lib.cut s.data.toList [58]).1) (txt (Lib.cut s.data.toList [58]).2.1) with
    | none => exact .inl rfl
    | some x =>
      obtain ⟨hr, hw, hrest⟩ := join_right hj
      refine .inr ⟨x.s, x.n, x.v, x.a, x.b, rfl, hr, ?_⟩
      apply ba_ext
      rw [ByteArray.toList_eq, ByteArray.toList_eq, text_data, hw, hrest]
      conv => rhs; rw [cut_found _ _ hc]
      simp [txt]
  · rw [if_neg hc]
    exact .inl rfl
theorem right_sizes {n : Int} {a1 a2 : ByteArray} {a3 a4 : Int} (h : rightS n a1 a2 a3 a4 = true) : a1.size ≤ 20 ∧ a2.size ≤ 20 := by
  rcases right_num h with rfl | rfl | rfl
  · obtain ⟨rfl, rfl, _⟩ := right_none2 h
    decide
  · obtain ⟨_, hp, hq, _⟩ := right_dtn h
    exact ⟨partS_size hp, partS_size hq⟩
  · obtain ⟨h1, h2, _⟩ := right_ipn h
    obtain rfl := ba_nil h1
    obtain rfl := ba_nil h2
    decide
theorem Home_is (n : Int) (a1 a2 : ByteArray) (a3 a4 : Int) (h1 : a1.size ≤ maxLen) (h2 : a2.size ≤ maxLen) :
    eid_Home.f n a1 a2 a3 a4 = some (if rightS n a1 a2 a3 a4 = true then (n, a1, ⟨#[]⟩, a3, 0, 0) else (0, ⟨#[]⟩, ⟨#[]⟩, 0, 0, 60)) := by
  unfold eid_Home.f
  rw [Right_is n a1 a2 a3 a4 h1 h2]
  simp only [Option.bind_some]
  unfold api_Eid.f
  by_cases hr : rightS n a1 a2 a3 a4 = true
  · rw [if_pos hr, if_pos hr]
    rfl
  · rw [if_neg hr, if_neg hr]
    rfl
end Go.Proofs.YtandbobinjhehaaDoor.Hand
end
section
namespace Go.Proofs.YtandbobinjhehaaDoor.Hand
open Go.ChangeShapes Go.WideShapes Go.ChangeAt Go.RowKit
theorem own : ownKnob Tryd.prog.godebug = none := by kernel_rfl
abbrev laid5 : List (String × DataW Unit) := [("math/bits.deBruijn32tab", Rows.laid_math_bits_deBruijn32tab), ("math/bits.deBruijn64tab", Rows.laid_math_bits_deBruijn64tab), ("internal/strconv.uint64pow10", Rows.laid_internal_strconv_uint64pow10), ("strconv.ErrRange", Rows.laid_strconv_ErrRange), ("strconv.ErrSyntax", Rows.laid_strconv_ErrSyntax)]
theorem gErrRange : Tryd.prog.globalNamed "strconv.ErrRange" = some 3 := by kernel_rfl
theorem gErrSyntax : Tryd.prog.globalNamed "strconv.ErrSyntax" = some 2 := by kernel_rfl
theorem tyTab : (Tryd.prog.globals[1]?).map (·.type) = some 95 := by kernel_rfl
theorem tyRange : (Tryd.prog.globals[3]?).map (·.type) = some 68 := by kernel_rfl
theorem tySyntax : (Tryd.prog.globals[2]?).map (·.type) = some 68 := by kernel_rfl
theorem star : "*errors.errorString" = "*" ++ "errors.errorString" := by decide
theorem name_row (u : TypeId) (h : Tryd.prog.typeName? 3 u = some "*errors.errorString") : u = 108 :=
  typeName_ptr_named (nm := "errors.errorString") (by rw [← star]; kernel_rfl) (by kernel_rfl) (by decide) u (by rw [← star]; exact h)
theorem laid_of {W : World} (h : laidMetH Tryd.prog laid5 W) (hsh : W.ShapedOpen Tryd.prog) : Laid W := by
  rw [MakeChecks.laidMetH_plain _ _ _ (by kernel_rfl)] at h
  have h2 := h.tail.tail
  have h3 := h2.tail
  have h4 := h3.tail
  obtain ⟨a3, s3, hv3, _⟩ := laid_sentinel h3 gErrRange tyRange Tryd.underlying68 name_row Tryd.underlying108 Tryd.underlying110 rfl rfl Tryd.underlying9 (by kernel_rfl) (by kernel_rfl)
  obtain ⟨a4, s4, hv4, _⟩ := laid_sentinel h4 gErrSyntax tySyntax Tryd.underlying68 name_row Tryd.underlying108 Tryd.underlying110 rfl rfl Tryd.underlying9 (by kernel_rfl) (by kernel_rfl)
  exact {
    max := cell_of_shapedOpen_int (zero := #[.int .i64 0]) (t := 3) hsh (of_decide_eq_true (by kernel_rfl)) (by kernel_rfl) rfl (by kernel_rfl) (by kernel_rfl) Tryd.underlying3
    tab := Lib.tabIs_of_head gTab tyTab Tryd.underlying95 Tryd.underlying79 (by kernel_rfl) (by kernel_rfl) h2
    syn := ⟨_, _, World.var?_cell gErrSyntax hv4 0⟩
    rng := ⟨_, _, World.var?_cell gErrRange hv3 0⟩ }
theorem door_met (os : Os) (args : Array Value) : laidMetH Tryd.prog laid5 ((World.doorLaid Tryd.prog 400 os).forCall (fun _ _ => 0) ⟨#[], args, []⟩).memory :=
  laidMetH_of_parts3 (fuel := 8) (laidMet_of_run' 8 (by kernel_rfl) (by kernel_rfl)) (by kernel_rfl) (by kernel_rfl)
section
variable {H : Type} {enc : TypeId × Value → H} {W : World} {base : Nat} {spare : Nat → Bool} {held : Bool}
theorem arr5 {cs : Array Value} (h : cs.size = 5) : ∃ c0 c1 c2 c3 c4, cs = #[c0, c1, c2, c3, c4] := by
  obtain ⟨l⟩ := cs
  match l, h with
  | [c0, c1, c2, c3, c4], _ => exact ⟨c0, c1, c2, c3, c4, rfl⟩
theorem cellsEid : Tryd.prog.cellsOf 23 = 5 := by kernel_rfl
theorem cellsStr : Tryd.prog.cellsOf 9 = 1 := by kernel_rfl
theorem cellsInt : Tryd.prog.cellsOf 3 = 1 := by kernel_rfl
set_option maxRecDepth 100000 in
theorem shut_eid (n : Int) (a1 a2 : ByteArray) (a3 a4 : Int) (w0 : (Lit.int .i64 n).wf = true) (s1 : a1.size ≤ maxLen) (s2 : a2.size ≤ maxLen) (w3 : (Lit.int .i64 a3).wf = true) (w4 : (Lit.int .i64 a4).wf = true) :
    DataW.Trod enc Tryd.prog W base spare held 23 (.agg #[.int .i64 n, .string a1, .string a2, .int .i64 a3, .int .i64 a4])
      (.agg [.lit (.int .i64 n), .lit (.string a1.data.toList), .lit (.string a2.data.toList), .lit (.int .i64 a3), .lit (.int .i64 a4)]) [] := by
  refine ⟨2, ?_⟩
  simp [DataW.trod, Value.cells, Tryd.underlying23, Tryd.underlying3, Tryd.underlying9, cellsEid, cellsStr, cellsInt, w0, s1, s2, w3, w4]
set_option maxRecDepth 100000 in
theorem open_eid {r : Reach} {b0 : Nat} {v : Value} {d : DataW H} {p : List MemPlace} (hv : Value.okWide Tryd.prog W r b0 23 v) (h : DataW.Trod enc Tryd.prog W base spare held 23 v d p) :
    ∃ (n : Int) (a1 a2 : ByteArray) (a3 a4 : Int), v = .agg #[.int .i64 n, .string a1, .string a2, .int .i64 a3, .int .i64 a4] ∧
      d = .agg [.lit (.int .i64 n), .lit (.string a1.data.toList), .lit (.string a2.data.toList), .lit (.int .i64 a3), .lit (.int .i64 a4)] ∧ p = [] ∧
      (Lit.int .i64 n).wf = true ∧ a1.size ≤ maxLen ∧ a2.size ≤ maxLen ∧ (Lit.int .i64 a3).wf = true ∧ (Lit.int .i64 a4).wf = true := by
  obtain ⟨cs, rfl, hsz⟩ := okWide_struct Tryd.underlying23 hv
  obtain ⟨c0, c1, c2, c3, c4, rfl⟩ := arr5 (hsz.trans cellsEid)
  obtain ⟨fuel, hf⟩ := h
  obtain ⟨xs, n, _, hx, hl, hlen, hg⟩ := DataW.trod_struct Tryd.underlying23 hf
  match xs, hlen with
  | [y0, y1, y2, y3, y4], _ =>
    simp only [Prod.mk.injEq] at hx
    obtain ⟨hd, hp⟩ := hx
    have g0 : DataW.trod enc Tryd.prog W base spare held n 3 [c0] = some y0 := by have := hg 0 _ rfl; simpa [Value.cells, cellsInt, cellsStr] using this
    have g1 : DataW.trod enc Tryd.prog W base spare held n 9 [c1] = some y1 := by have := hg 1 _ rfl; simpa [Value.cells, cellsInt, cellsStr] using this
    have g2 : DataW.trod enc Tryd.prog W base spare held n 9 [c2] = some y2 := by have := hg 2 _ rfl; simpa [Value.cells, cellsInt, cellsStr] using this
    have g3 : DataW.trod enc Tryd.prog W base spare held n 3 [c3] = some y3 := by have := hg 3 _ rfl; simpa [Value.cells, cellsInt, cellsStr] using this
    have g4 : DataW.trod enc Tryd.prog W base spare held n 3 [c4] = some y4 := by have := hg 4 _ rfl; simpa [Value.cells, cellsInt, cellsStr] using this
    obtain ⟨m0, e0, x0, w0⟩ := DataW.trod_int Tryd.underlying3 g0
    obtain ⟨m1, e1, x1, w1⟩ := DataW.trod_string Tryd.underlying9 g1
    obtain ⟨m2, e2, x2, w2⟩ := DataW.trod_string Tryd.underlying9 g2
    obtain ⟨m3, e3, x3, w3⟩ := DataW.trod_int Tryd.underlying3 g3
    obtain ⟨m4, e4, x4, w4⟩ := DataW.trod_int Tryd.underlying3 g4
    simp only [List.cons.injEq, and_true] at e0 e1 e2 e3 e4
    subst e0 e1 e2 e3 e4 x0 x1 x2 x3 x4
    exact ⟨m0, m1, m2, m3, m4, rfl, by rw [hd]; rfl, by rw [hp]; rfl, w0, w1, w2, w3, w4⟩
theorem post_plain {f : Func} {s : ChangeSpec} {W' : World} {args : Array Value} {v : Value} {ds : List (DataW H)} (hs : s.vars = [])
    (hW : DataW.Whole enc Tryd.prog f.params.toList s.vars false W args.toList ds [] [])
    (hres : ∀ (b : Nat) (sp : Nat → Bool), DataW.TrodAll enc Tryd.prog W' b sp false f.resultTypes.toList (v.resultList f.resultTypes.size) (s.fn H (ds ++ [])).results [])
    (hargs : ∀ sp : Nat → Bool, DataW.TrodAll enc Tryd.prog W' 0 sp true f.params.toList args.toList (s.fn H (ds ++ [])).args [])
    (hvars : (s.fn H (ds ++ [])).vars = []) (hb : Below W.heap.size W W') : s.post enc Tryd.prog f false true false false W args v W' := by
  refine ⟨ds, [], [], [], [], [], hW, hres _ _, hargs _, ?_, hb.frame _, fun h => by cases h⟩
  rw [hvars, hs]
  exact rfl
end
end Go.Proofs.YtandbobinjhehaaDoor.Hand
end
section
namespace Go.Proofs.YtandbobinjhehaaDoor.SE
open Go.Proofs.YtandbobinjhehaaDoor.Hand
open Go.Proofs.YtandbobinjhehaaDoor.SA
open Go.Proofs.YtandbobinjhehaaDoor.SC
open Go.Proofs.YtandbobinjhehaaDoor.SD
open Go.RowKit Go.Proofs.YtandbobinjhehaaDoorW.PrintWords Go.Proofs.YtandbobinjhehaaDoorW.PrintLast Go.Proofs.YtandbobinjhehaaDoorW.PrintMore
attribute [local go_sem] max2_int min2_int max_two min_two max_three min_three max_four min_four
set_option linter.unusedVariables false
set_option linter.unusedSimpArgs false
def errW : Option Int → Value
  | none => .nilIface
  | some c => .iface 0 (.int .i64 c)
theorem errW_none : errW none = .nilIface := rfl
theorem errW_some (c : Int) : errW (some c) = .iface 0 (.int .i64 c) := rfl
end Go.Proofs.YtandbobinjhehaaDoor.SE
end
section
namespace Go.Proofs.YtandbobinjhehaaDoor.SE
open Go.Proofs.YtandbobinjhehaaDoor.Hand
open Go.Proofs.YtandbobinjhehaaDoor.SA
open Go.Proofs.YtandbobinjhehaaDoor.SC
open Go.Proofs.YtandbobinjhehaaDoor.SD
open Go.RowKit Go.Proofs.YtandbobinjhehaaDoorW.PrintWords Go.Proofs.YtandbobinjhehaaDoorW.PrintLast Go.Proofs.YtandbobinjhehaaDoorW.PrintMore
attribute [local go_sem] max2_int min2_int max_two min_two max_three min_three max_four min_four
set_option linter.unusedVariables false
set_option linter.unusedSimpArgs false
theorem eqA23 (d : Nat) (w : World) (x0 y0 : Int) (x1 y1 : ByteArray) (x2 y2 : ByteArray) (x3 y3 : Int) (x4 y4 : Int) :
    (Op.equalIn (d + 2) 23 (.agg #[.int .i64 x0, .string x1, .string x2, .int .i64 x3, .int .i64 x4]) (.agg #[.int .i64 y0, .string y1, .string y2, .int .i64 y3, .int .i64 y4])).run Tryd.prog w = .ok (x0 == y0 && (x1.toList == y1.toList && (x2.toList == y2.toList && (x3 == y3 && (x4 == y4))))) w := by
  refine eqA_of Tryd.underlying23 (by kernel_rfl) ?_
  refine eqf_cons (by rfl) (by go_simp; rfl) (by go_simp; rfl) (by go_simp) ?_
  refine eqf_cons (by rfl) (by go_simp; rfl) (by go_simp; rfl) (by go_simp) ?_
  refine eqf_cons (by rfl) (by go_simp; rfl) (by go_simp; rfl) (by go_simp) ?_
  refine eqf_cons (by rfl) (by go_simp; rfl) (by go_simp; rfl) (by go_simp) ?_
  exact eqf_last (by rfl) (by go_simp; rfl) (by go_simp; rfl) (by go_simp)
end Go.Proofs.YtandbobinjhehaaDoor.SE
end
section
namespace Go.Proofs.YtandbobinjhehaaDoor.SE
open Go.Proofs.YtandbobinjhehaaDoor.Hand
open Go.Proofs.YtandbobinjhehaaDoor.SA
open Go.Proofs.YtandbobinjhehaaDoor.SC
open Go.Proofs.YtandbobinjhehaaDoor.SD
open Go.RowKit Go.Proofs.YtandbobinjhehaaDoorW.PrintWords Go.Proofs.YtandbobinjhehaaDoorW.PrintLast Go.Proofs.YtandbobinjhehaaDoorW.PrintMore
attribute [local go_sem] max2_int min2_int max_two min_two max_three min_three max_four min_four
set_option linter.unusedVariables false
set_option linter.unusedSimpArgs false
attribute [local go_sem high] eqA23
def postriderref06_part.l0 : Nat → ByteArray → Bool → Int → Option (Bool)
  | 0, _, _, _ => none
  | k + 1, x0, x1, x5 => if x5 < (x0.size : Int) then (if 0 ≤ x5 then (if (bt x0 x5) ≥ 97 then (if (bt x0 x5) ≤ 122 then (postriderref06_part.l0 k x0 x1 (wrap64 (x5 + 1))) else (if (bt x0 x5) ≥ 48 then (if (bt x0 x5) ≤ 57 then (postriderref06_part.l0 k x0 x1 (wrap64 (x5 + 1))) else (if (bt x0 x5) = 45 then (postriderref06_part.l0 k x0 x1 (wrap64 (x5 + 1))) else (if (bt x0 x5) = 46 then (postriderref06_part.l0 k x0 x1 (wrap64 (x5 + 1))) else (if x1 = true then (if ((bt x0 x5) = 47) then (postriderref06_part.l0 k x0 x1 (wrap64 (x5 + 1))) else (some false)) else (some false))))) else (if (bt x0 x5) = 45 then (postriderref06_part.l0 k x0 x1 (wrap64 (x5 + 1))) else (if (bt x0 x5) = 46 then (postriderref06_part.l0 k x0 x1 (wrap64 (x5 + 1))) else (if x1 = true then (if ((bt x0 x5) = 47) then (postriderref06_part.l0 k x0 x1 (wrap64 (x5 + 1))) else (some false)) else (some false)))))) else (if (bt x0 x5) ≥ 48 then (if (bt x0 x5) ≤ 57 then (postriderref06_part.l0 k x0 x1 (wrap64 (x5 + 1))) else (if (bt x0 x5) = 45 then (postriderref06_part.l0 k x0 x1 (wrap64 (x5 + 1))) else (if (bt x0 x5) = 46 then (postriderref06_part.l0 k x0 x1 (wrap64 (x5 + 1))) else (if x1 = true then (if ((bt x0 x5) = 47) then (postriderref06_part.l0 k x0 x1 (wrap64 (x5 + 1))) else (some false)) else (some false))))) else (if (bt x0 x5) = 45 then (postriderref06_part.l0 k x0 x1 (wrap64 (x5 + 1))) else (if (bt x0 x5) = 46 then (postriderref06_part.l0 k x0 x1 (wrap64 (x5 + 1))) else (if x1 = true then (if ((bt x0 x5) = 47) then (postriderref06_part.l0 k x0 x1 (wrap64 (x5 + 1))) else (some false)) else (some false)))))) else (none)) else (some (decide ((x0.size : Int) ≤ 20)))
def postriderref06_part.f (k : Nat) (a0 : ByteArray) (a1 : Bool) : Option (Bool) := postriderref06_part.l0 k a0 a1 0
theorem postriderref06_part.mono_l : ∀ k, (∀ y0 y1 y2, LeO (postriderref06_part.l0 k y0 y1 y2) (postriderref06_part.l0 (k + 1) y0 y1 y2))
  | 0 => fun _ _ _ r h => by simp [postriderref06_part.l0] at h
  | k + 1 => by
    have ih0 := postriderref06_part.mono_l k
    · intro y0 y1 y2
      unfold postriderref06_part.l0
      repeat' first
      | (with_reducible exact ih0 _ _ _)
      | (with_reducible exact LeO.refl _)
      | (with_reducible exact LeO.none _)
      | (with_reducible refine LeO.ite ?_ ?_)
      | (with_reducible refine LeO.bind ?_ (fun _ => ?_))
      | exact ih0 _ _ _
      | exact LeO.none _
      | refine LeO.ite ?_ ?_
      | refine LeO.bind ?_ (fun _ => ?_)
theorem postriderref06_part.mono : ∀ a0 a1 k, LeO (postriderref06_part.f k a0 a1) (postriderref06_part.f (k + 1) a0 a1) := by
  intro a0 a1 k
  have ih0 := postriderref06_part.mono_l k
  unfold postriderref06_part.f
  repeat' first
      | (with_reducible exact ih0 _ _ _)
      | (with_reducible exact LeO.refl _)
      | (with_reducible exact LeO.none _)
      | (with_reducible refine LeO.ite ?_ ?_)
      | (with_reducible refine LeO.bind ?_ (fun _ => ?_))
      | exact ih0 _ _ _
      | exact LeO.none _
      | refine LeO.ite ?_ ?_
      | refine LeO.bind ?_ (fun _ => ?_)
set_option maxHeartbeats 8000000 in
set_option maxRecDepth 100000 in
theorem postriderref06_part.calls (k : Nat) (a0 : ByteArray) (a1 : Bool) (r : Bool) (w : World) (h : postriderref06_part.f k a0 a1 = some r) :
    Calls Tryd.prog 32 #[.string a0, .bool a1] w fun e w' => e = .returned (.bool r) ∧ Drawn0 w w' := by
  have H : (postriderref06_part.l0 k a0 a1 0) = some r := h
  clear h
  have H' := Aside0.mk H
  clear H
  go_enter Tryd.func32, Tryd.ntmps32
  go_wp2
  go_loopg [5] k (fun kq v5 w' => ∃ (x5_1 : Int), v5 = .int .i64 x5_1 ∧ Aside0 (postriderref06_part.l0 kq a0 a1 x5_1 = some r) ∧ Aside0 (kq ≤ k) ∧ Drawn0 w w')
  case atStart => exact ⟨(0), (by first | rfl | (simp; done) | (simp [*]; done)), H', ⟨Nat.le_refl _⟩, by repeat (first | exact Drawn0.refl _ | apply Drawn0.step)⟩
  case round =>
    clear H'
    try clear p2
    obtain ⟨x5_1, rfl, HA, HK1, ⟨m1, rfl⟩⟩ := hrel
    cases gk with
    | zero => exact absurd HA.out (by simp [postriderref06_part.l0])
    | succ k1 =>
      have H := HA.out
      clear HA
      simp only [postriderref06_part.l0] at H
      by_cases c3 : x5_1 < (a0.size : Int)
      · rw [if_pos c3] at H
        have c3b0 : decide (x5_1 < (a0.size : Int)) = true := decide_eq_true c3
        clear c3
        by_cases c4 : 0 ≤ x5_1
        · rw [if_pos c4] at H
          have c4b0 : decide (0 ≤ x5_1) = true := decide_eq_true c4
          clear c4
          by_cases c6 : (bt a0 x5_1) ≥ 97
          · rw [if_pos c6] at H
            have c6b0 : decide (97 ≤ (bt a0 x5_1)) = true := decide_eq_true c6
            clear c6
            by_cases c7 : (bt a0 x5_1) ≤ 122
            · rw [if_pos c7] at H
              have c7b0 : decide ((bt a0 x5_1) ≤ 122) = true := decide_eq_true c7
              clear c7
              have H' := Aside0.mk H
              clear H
              have p5 : 0 ≤ (x5_1 : Int) := of_decide_eq_true (by first | (with_reducible assumption) | assumption)
              have q5 : x5_1 < (a0.size : Int) := of_decide_eq_true (by first | (with_reducible assumption) | assumption)
              have hx5 := bt_at a0 x5_1
              replace p5 := eq_true p5
              replace q5 := eq_true q5
              go_wp2
              go_roundg k1
              case measure => have := HK1.out; omega
              case rel => exact ⟨(wrap64 (x5_1 + 1)), (by first | rfl | (simp; done) | (simp [*]; done)), H', ⟨by have := HK1.out; omega⟩, by repeat (first | exact Drawn0.refl _ | apply Drawn0.step)⟩
            · rw [if_neg c7] at H
              have c7b0 : decide ((bt a0 x5_1) ≤ 122) = false := decide_eq_false c7
              clear c7
              by_cases c8 : (bt a0 x5_1) ≥ 48
              · rw [if_pos c8] at H
                have c8b0 : decide (48 ≤ (bt a0 x5_1)) = true := decide_eq_true c8
                clear c8
                by_cases c9 : (bt a0 x5_1) ≤ 57
                · rw [if_pos c9] at H
                  have c9b0 : decide ((bt a0 x5_1) ≤ 57) = true := decide_eq_true c9
                  clear c9
                  have H' := Aside0.mk H
                  clear H
                  have p5 : 0 ≤ (x5_1 : Int) := of_decide_eq_true (by first | (with_reducible assumption) | assumption)
                  have q5 : x5_1 < (a0.size : Int) := of_decide_eq_true (by first | (with_reducible assumption) | assumption)
                  have hx5 := bt_at a0 x5_1
                  replace p5 := eq_true p5
                  replace q5 := eq_true q5
                  go_wp2
                  go_roundg k1
                  case measure => have := HK1.out; omega
                  case rel => exact ⟨(wrap64 (x5_1 + 1)), (by first | rfl | (simp; done) | (simp [*]; done)), H', ⟨by have := HK1.out; omega⟩, by repeat (first | exact Drawn0.refl _ | apply Drawn0.step)⟩
                · rw [if_neg c9] at H
                  have c9b0 : decide ((bt a0 x5_1) ≤ 57) = false := decide_eq_false c9
                  clear c9
                  by_cases c10 : (bt a0 x5_1) = 45
                  · rw [if_pos c10] at H
                    have c10b0 : ((bt a0 x5_1) == 45) = true := beq_iff_eq.mpr c10
                    have c10b1 : ((bt a0 x5_1) != 45) = false := bne_eq_false_iff_eq.mpr c10
                    clear c10
                    have H' := Aside0.mk H
                    clear H
                    have p5 : 0 ≤ (x5_1 : Int) := of_decide_eq_true (by first | (with_reducible assumption) | assumption)
                    have q5 : x5_1 < (a0.size : Int) := of_decide_eq_true (by first | (with_reducible assumption) | assumption)
                    have hx5 := bt_at a0 x5_1
                    replace p5 := eq_true p5
                    replace q5 := eq_true q5
                    go_wp2
                    go_roundg k1
                    case measure => have := HK1.out; omega
                    case rel => exact ⟨(wrap64 (x5_1 + 1)), (by first | rfl | (simp; done) | (simp [*]; done)), H', ⟨by have := HK1.out; omega⟩, by repeat (first | exact Drawn0.refl _ | apply Drawn0.step)⟩
                  · rw [if_neg c10] at H
                    have c10b0 : ((bt a0 x5_1) == 45) = false := beq_eq_false_iff_ne.mpr c10
                    have c10b1 : ((bt a0 x5_1) != 45) = true := bne_iff_ne.mpr c10
                    by_cases c11 : (bt a0 x5_1) = 46
                    · rw [if_pos c11] at H
                      have c11b0 : ((bt a0 x5_1) == 46) = true := beq_iff_eq.mpr c11
                      have c11b1 : ((bt a0 x5_1) != 46) = false := bne_eq_false_iff_eq.mpr c11
                      clear c11
                      have H' := Aside0.mk H
                      clear H
                      have p5 : 0 ≤ (x5_1 : Int) := of_decide_eq_true (by first | (with_reducible assumption) | assumption)
                      have q5 : x5_1 < (a0.size : Int) := of_decide_eq_true (by first | (with_reducible assumption) | assumption)
                      have hx5 := bt_at a0 x5_1
                      replace p5 := eq_true p5
                      replace q5 := eq_true q5
                      go_wp2
                      go_roundg k1
                      case measure => have := HK1.out; omega
                      case rel => exact ⟨(wrap64 (x5_1 + 1)), (by first | rfl | (simp; done) | (simp [*]; done)), H', ⟨by have := HK1.out; omega⟩, by repeat (first | exact Drawn0.refl _ | apply Drawn0.step)⟩
                    · rw [if_neg c11] at H
                      have c11b0 : ((bt a0 x5_1) == 46) = false := beq_eq_false_iff_ne.mpr c11
                      have c11b1 : ((bt a0 x5_1) != 46) = true := bne_iff_ne.mpr c11
                      by_cases c12 : a1 = true
                      · subst c12
                        have H1 : (if ((bt a0 x5_1) = 47) then (postriderref06_part.l0 k1 a0 true (wrap64 (x5_1 + 1))) else (some false)) = some r := by rw [if_pos rfl] at H; exact H
                        clear H
                        have H := H1
                        clear H1
                        by_cases c13 : ((bt a0 x5_1) = 47)
                        · rw [if_pos c13] at H
                          have c13b0 : ((bt a0 x5_1) == 47) = true := beq_iff_eq.mpr c13
                          have c13b1 : ((bt a0 x5_1) != 47) = false := bne_eq_false_iff_eq.mpr c13
                          clear c13
                          have H' := Aside0.mk H
                          clear H
                          have p5 : 0 ≤ (x5_1 : Int) := of_decide_eq_true (by first | (with_reducible assumption) | assumption)
                          have q5 : x5_1 < (a0.size : Int) := of_decide_eq_true (by first | (with_reducible assumption) | assumption)
                          have hx5 := bt_at a0 x5_1
                          replace p5 := eq_true p5
                          replace q5 := eq_true q5
                          go_wp2
                          go_roundg k1
                          case measure => have := HK1.out; omega
                          case rel => exact ⟨(wrap64 (x5_1 + 1)), (by first | rfl | (simp; done) | (simp [*]; done)), H', ⟨by have := HK1.out; omega⟩, by repeat (first | exact Drawn0.refl _ | apply Drawn0.step)⟩
                        · rw [if_neg c13] at H
                          have c13b0 : ((bt a0 x5_1) == 47) = false := beq_eq_false_iff_ne.mpr c13
                          have c13b1 : ((bt a0 x5_1) != 47) = true := bne_iff_ne.mpr c13
                          obtain rfl := Option.some.inj H
                          have p5 : 0 ≤ (x5_1 : Int) := of_decide_eq_true (by first | (with_reducible assumption) | assumption)
                          have q5 : x5_1 < (a0.size : Int) := of_decide_eq_true (by first | (with_reducible assumption) | assumption)
                          have hx5 := bt_at a0 x5_1
                          replace p5 := eq_true p5
                          replace q5 := eq_true q5
                          go_wp2
                          all_goals (first | (go_ret; exact ⟨by first | rfl | (simp; done) | (simp [*]; done) | (simp_all; done), by repeat (first | exact Drawn0.refl _ | apply Drawn0.step)⟩) | (exfalso; simp_all; done))
                      · replace c12 := Bool.eq_false_iff.mpr c12
                        subst c12
                        have H1 : (some false) = some r := by rw [if_neg (show ¬ (false = true) by decide)] at H; exact H
                        clear H
                        have H := H1
                        clear H1
                        obtain rfl := Option.some.inj H
                        have p5 : 0 ≤ (x5_1 : Int) := of_decide_eq_true (by first | (with_reducible assumption) | assumption)
                        have q5 : x5_1 < (a0.size : Int) := of_decide_eq_true (by first | (with_reducible assumption) | assumption)
                        have hx5 := bt_at a0 x5_1
                        replace p5 := eq_true p5
                        replace q5 := eq_true q5
                        go_wp2
                        all_goals (first | (go_ret; exact ⟨by first | rfl | (simp; done) | (simp [*]; done) | (simp_all; done), by repeat (first | exact Drawn0.refl _ | apply Drawn0.step)⟩) | (exfalso; simp_all; done))
              · rw [if_neg c8] at H
                have c8b0 : decide (48 ≤ (bt a0 x5_1)) = false := decide_eq_false c8
                clear c8
                by_cases c14 : (bt a0 x5_1) = 45
                · rw [if_pos c14] at H
                  have c14b0 : ((bt a0 x5_1) == 45) = true := beq_iff_eq.mpr c14
                  have c14b1 : ((bt a0 x5_1) != 45) = false := bne_eq_false_iff_eq.mpr c14
                  clear c14
                  have H' := Aside0.mk H
                  clear H
                  have p5 : 0 ≤ (x5_1 : Int) := of_decide_eq_true (by first | (with_reducible assumption) | assumption)
                  have q5 : x5_1 < (a0.size : Int) := of_decide_eq_true (by first | (with_reducible assumption) | assumption)
                  have hx5 := bt_at a0 x5_1
                  replace p5 := eq_true p5
                  replace q5 := eq_true q5
                  go_wp2
                  go_roundg k1
                  case measure => have := HK1.out; omega
                  case rel => exact ⟨(wrap64 (x5_1 + 1)), (by first | rfl | (simp; done) | (simp [*]; done)), H', ⟨by have := HK1.out; omega⟩, by repeat (first | exact Drawn0.refl _ | apply Drawn0.step)⟩
                · rw [if_neg c14] at H
                  have c14b0 : ((bt a0 x5_1) == 45) = false := beq_eq_false_iff_ne.mpr c14
                  have c14b1 : ((bt a0 x5_1) != 45) = true := bne_iff_ne.mpr c14
                  by_cases c15 : (bt a0 x5_1) = 46
                  · rw [if_pos c15] at H
                    have c15b0 : ((bt a0 x5_1) == 46) = true := beq_iff_eq.mpr c15
                    have c15b1 : ((bt a0 x5_1) != 46) = false := bne_eq_false_iff_eq.mpr c15
                    clear c15
                    have H' := Aside0.mk H
                    clear H
                    have p5 : 0 ≤ (x5_1 : Int) := of_decide_eq_true (by first | (with_reducible assumption) | assumption)
                    have q5 : x5_1 < (a0.size : Int) := of_decide_eq_true (by first | (with_reducible assumption) | assumption)
                    have hx5 := bt_at a0 x5_1
                    replace p5 := eq_true p5
                    replace q5 := eq_true q5
                    go_wp2
                    go_roundg k1
                    case measure => have := HK1.out; omega
                    case rel => exact ⟨(wrap64 (x5_1 + 1)), (by first | rfl | (simp; done) | (simp [*]; done)), H', ⟨by have := HK1.out; omega⟩, by repeat (first | exact Drawn0.refl _ | apply Drawn0.step)⟩
                  · rw [if_neg c15] at H
                    have c15b0 : ((bt a0 x5_1) == 46) = false := beq_eq_false_iff_ne.mpr c15
                    have c15b1 : ((bt a0 x5_1) != 46) = true := bne_iff_ne.mpr c15
                    by_cases c16 : a1 = true
                    · subst c16
                      have H1 : (if ((bt a0 x5_1) = 47) then (postriderref06_part.l0 k1 a0 true (wrap64 (x5_1 + 1))) else (some false)) = some r := by rw [if_pos rfl] at H; exact H
                      clear H
                      have H := H1
                      clear H1
                      by_cases c17 : ((bt a0 x5_1) = 47)
                      · rw [if_pos c17] at H
                        have c17b0 : ((bt a0 x5_1) == 47) = true := beq_iff_eq.mpr c17
                        have c17b1 : ((bt a0 x5_1) != 47) = false := bne_eq_false_iff_eq.mpr c17
                        clear c17
                        have H' := Aside0.mk H
                        clear H
                        have p5 : 0 ≤ (x5_1 : Int) := of_decide_eq_true (by first | (with_reducible assumption) | assumption)
                        have q5 : x5_1 < (a0.size : Int) := of_decide_eq_true (by first | (with_reducible assumption) | assumption)
                        have hx5 := bt_at a0 x5_1
                        replace p5 := eq_true p5
                        replace q5 := eq_true q5
                        go_wp2
                        go_roundg k1
                        case measure => have := HK1.out; omega
                        case rel => exact ⟨(wrap64 (x5_1 + 1)), (by first | rfl | (simp; done) | (simp [*]; done)), H', ⟨by have := HK1.out; omega⟩, by repeat (first | exact Drawn0.refl _ | apply Drawn0.step)⟩
                      · rw [if_neg c17] at H
                        have c17b0 : ((bt a0 x5_1) == 47) = false := beq_eq_false_iff_ne.mpr c17
                        have c17b1 : ((bt a0 x5_1) != 47) = true := bne_iff_ne.mpr c17
                        obtain rfl := Option.some.inj H
                        have p5 : 0 ≤ (x5_1 : Int) := of_decide_eq_true (by first | (with_reducible assumption) | assumption)
                        have q5 : x5_1 < (a0.size : Int) := of_decide_eq_true (by first | (with_reducible assumption) | assumption)
                        have hx5 := bt_at a0 x5_1
                        replace p5 := eq_true p5
                        replace q5 := eq_true q5
                        go_wp2
                        all_goals (first | (go_ret; exact ⟨by first | rfl | (simp; done) | (simp [*]; done) | (simp_all; done), by repeat (first | exact Drawn0.refl _ | apply Drawn0.step)⟩) | (exfalso; simp_all; done))
                    · replace c16 := Bool.eq_false_iff.mpr c16
                      subst c16
                      have H1 : (some false) = some r := by rw [if_neg (show ¬ (false = true) by decide)] at H; exact H
                      clear H
                      have H := H1
                      clear H1
                      obtain rfl := Option.some.inj H
                      have p5 : 0 ≤ (x5_1 : Int) := of_decide_eq_true (by first | (with_reducible assumption) | assumption)
                      have q5 : x5_1 < (a0.size : Int) := of_decide_eq_true (by first | (with_reducible assumption) | assumption)
                      have hx5 := bt_at a0 x5_1
                      replace p5 := eq_true p5
                      replace q5 := eq_true q5
                      go_wp2
                      all_goals (first | (go_ret; exact ⟨by first | rfl | (simp; done) | (simp [*]; done) | (simp_all; done), by repeat (first | exact Drawn0.refl _ | apply Drawn0.step)⟩) | (exfalso; simp_all; done))
          · rw [if_neg c6] at H
            have c6b0 : decide (97 ≤ (bt a0 x5_1)) = false := decide_eq_false c6
            clear c6
            by_cases c18 : (bt a0 x5_1) ≥ 48
            · rw [if_pos c18] at H
              have c18b0 : decide (48 ≤ (bt a0 x5_1)) = true := decide_eq_true c18
              clear c18
              by_cases c19 : (bt a0 x5_1) ≤ 57
              · rw [if_pos c19] at H
                have c19b0 : decide ((bt a0 x5_1) ≤ 57) = true := decide_eq_true c19
                clear c19
                have H' := Aside0.mk H
                clear H
                have p5 : 0 ≤ (x5_1 : Int) := of_decide_eq_true (by first | (with_reducible assumption) | assumption)
                have q5 : x5_1 < (a0.size : Int) := of_decide_eq_true (by first | (with_reducible assumption) | assumption)
                have hx5 := bt_at a0 x5_1
                replace p5 := eq_true p5
                replace q5 := eq_true q5
                go_wp2
                go_roundg k1
                case measure => have := HK1.out; omega
                case rel => exact ⟨(wrap64 (x5_1 + 1)), (by first | rfl | (simp; done) | (simp [*]; done)), H', ⟨by have := HK1.out; omega⟩, by repeat (first | exact Drawn0.refl _ | apply Drawn0.step)⟩
              · rw [if_neg c19] at H
                have c19b0 : decide ((bt a0 x5_1) ≤ 57) = false := decide_eq_false c19
                clear c19
                by_cases c20 : (bt a0 x5_1) = 45
                · rw [if_pos c20] at H
                  have c20b0 : ((bt a0 x5_1) == 45) = true := beq_iff_eq.mpr c20
                  have c20b1 : ((bt a0 x5_1) != 45) = false := bne_eq_false_iff_eq.mpr c20
                  clear c20
                  have H' := Aside0.mk H
                  clear H
                  have p5 : 0 ≤ (x5_1 : Int) := of_decide_eq_true (by first | (with_reducible assumption) | assumption)
                  have q5 : x5_1 < (a0.size : Int) := of_decide_eq_true (by first | (with_reducible assumption) | assumption)
                  have hx5 := bt_at a0 x5_1
                  replace p5 := eq_true p5
                  replace q5 := eq_true q5
                  go_wp2
                  go_roundg k1
                  case measure => have := HK1.out; omega
                  case rel => exact ⟨(wrap64 (x5_1 + 1)), (by first | rfl | (simp; done) | (simp [*]; done)), H', ⟨by have := HK1.out; omega⟩, by repeat (first | exact Drawn0.refl _ | apply Drawn0.step)⟩
                · rw [if_neg c20] at H
                  have c20b0 : ((bt a0 x5_1) == 45) = false := beq_eq_false_iff_ne.mpr c20
                  have c20b1 : ((bt a0 x5_1) != 45) = true := bne_iff_ne.mpr c20
                  by_cases c21 : (bt a0 x5_1) = 46
                  · rw [if_pos c21] at H
                    have c21b0 : ((bt a0 x5_1) == 46) = true := beq_iff_eq.mpr c21
                    have c21b1 : ((bt a0 x5_1) != 46) = false := bne_eq_false_iff_eq.mpr c21
                    clear c21
                    have H' := Aside0.mk H
                    clear H
                    have p5 : 0 ≤ (x5_1 : Int) := of_decide_eq_true (by first | (with_reducible assumption) | assumption)
                    have q5 : x5_1 < (a0.size : Int) := of_decide_eq_true (by first | (with_reducible assumption) | assumption)
                    have hx5 := bt_at a0 x5_1
                    replace p5 := eq_true p5
                    replace q5 := eq_true q5
                    go_wp2
                    go_roundg k1
                    case measure => have := HK1.out; omega
                    case rel => exact ⟨(wrap64 (x5_1 + 1)), (by first | rfl | (simp; done) | (simp [*]; done)), H', ⟨by have := HK1.out; omega⟩, by repeat (first | exact Drawn0.refl _ | apply Drawn0.step)⟩
                  · rw [if_neg c21] at H
                    have c21b0 : ((bt a0 x5_1) == 46) = false := beq_eq_false_iff_ne.mpr c21
                    have c21b1 : ((bt a0 x5_1) != 46) = true := bne_iff_ne.mpr c21
                    by_cases c22 : a1 = true
                    · subst c22
                      have H1 : (if ((bt a0 x5_1) = 47) then (postriderref06_part.l0 k1 a0 true (wrap64 (x5_1 + 1))) else (some false)) = some r := by rw [if_pos rfl] at H; exact H
                      clear H
                      have H := H1
                      clear H1
                      by_cases c23 : ((bt a0 x5_1) = 47)
                      · rw [if_pos c23] at H
                        have c23b0 : ((bt a0 x5_1) == 47) = true := beq_iff_eq.mpr c23
                        have c23b1 : ((bt a0 x5_1) != 47) = false := bne_eq_false_iff_eq.mpr c23
                        clear c23
                        have H' := Aside0.mk H
                        clear H
                        have p5 : 0 ≤ (x5_1 : Int) := of_decide_eq_true (by first | (with_reducible assumption) | assumption)
                        have q5 : x5_1 < (a0.size : Int) := of_decide_eq_true (by first | (with_reducible assumption) | assumption)
                        have hx5 := bt_at a0 x5_1
                        replace p5 := eq_true p5
                        replace q5 := eq_true q5
                        go_wp2
                        go_roundg k1
                        case measure => have := HK1.out; omega
                        case rel => exact ⟨(wrap64 (x5_1 + 1)), (by first | rfl | (simp; done) | (simp [*]; done)), H', ⟨by have := HK1.out; omega⟩, by repeat (first | exact Drawn0.refl _ | apply Drawn0.step)⟩
                      · rw [if_neg c23] at H
                        have c23b0 : ((bt a0 x5_1) == 47) = false := beq_eq_false_iff_ne.mpr c23
                        have c23b1 : ((bt a0 x5_1) != 47) = true := bne_iff_ne.mpr c23
                        obtain rfl := Option.some.inj H
                        have p5 : 0 ≤ (x5_1 : Int) := of_decide_eq_true (by first | (with_reducible assumption) | assumption)
                        have q5 : x5_1 < (a0.size : Int) := of_decide_eq_true (by first | (with_reducible assumption) | assumption)
                        have hx5 := bt_at a0 x5_1
                        replace p5 := eq_true p5
                        replace q5 := eq_true q5
                        go_wp2
                        all_goals (first | (go_ret; exact ⟨by first | rfl | (simp; done) | (simp [*]; done) | (simp_all; done), by repeat (first | exact Drawn0.refl _ | apply Drawn0.step)⟩) | (exfalso; simp_all; done))
                    · replace c22 := Bool.eq_false_iff.mpr c22
                      subst c22
                      have H1 : (some false) = some r := by rw [if_neg (show ¬ (false = true) by decide)] at H; exact H
                      clear H
                      have H := H1
                      clear H1
                      obtain rfl := Option.some.inj H
                      have p5 : 0 ≤ (x5_1 : Int) := of_decide_eq_true (by first | (with_reducible assumption) | assumption)
                      have q5 : x5_1 < (a0.size : Int) := of_decide_eq_true (by first | (with_reducible assumption) | assumption)
                      have hx5 := bt_at a0 x5_1
                      replace p5 := eq_true p5
                      replace q5 := eq_true q5
                      go_wp2
                      all_goals (first | (go_ret; exact ⟨by first | rfl | (simp; done) | (simp [*]; done) | (simp_all; done), by repeat (first | exact Drawn0.refl _ | apply Drawn0.step)⟩) | (exfalso; simp_all; done))
            · rw [if_neg c18] at H
              have c18b0 : decide (48 ≤ (bt a0 x5_1)) = false := decide_eq_false c18
              clear c18
              by_cases c24 : (bt a0 x5_1) = 45
              · rw [if_pos c24] at H
                have c24b0 : ((bt a0 x5_1) == 45) = true := beq_iff_eq.mpr c24
                have c24b1 : ((bt a0 x5_1) != 45) = false := bne_eq_false_iff_eq.mpr c24
                clear c24
                have H' := Aside0.mk H
                clear H
                have p5 : 0 ≤ (x5_1 : Int) := of_decide_eq_true (by first | (with_reducible assumption) | assumption)
                have q5 : x5_1 < (a0.size : Int) := of_decide_eq_true (by first | (with_reducible assumption) | assumption)
                have hx5 := bt_at a0 x5_1
                replace p5 := eq_true p5
                replace q5 := eq_true q5
                go_wp2
                go_roundg k1
                case measure => have := HK1.out; omega
                case rel => exact ⟨(wrap64 (x5_1 + 1)), (by first | rfl | (simp; done) | (simp [*]; done)), H', ⟨by have := HK1.out; omega⟩, by repeat (first | exact Drawn0.refl _ | apply Drawn0.step)⟩
              · rw [if_neg c24] at H
                have c24b0 : ((bt a0 x5_1) == 45) = false := beq_eq_false_iff_ne.mpr c24
                have c24b1 : ((bt a0 x5_1) != 45) = true := bne_iff_ne.mpr c24
                by_cases c25 : (bt a0 x5_1) = 46
                · rw [if_pos c25] at H
                  have c25b0 : ((bt a0 x5_1) == 46) = true := beq_iff_eq.mpr c25
                  have c25b1 : ((bt a0 x5_1) != 46) = false := bne_eq_false_iff_eq.mpr c25
                  clear c25
                  have H' := Aside0.mk H
                  clear H
                  have p5 : 0 ≤ (x5_1 : Int) := of_decide_eq_true (by first | (with_reducible assumption) | assumption)
                  have q5 : x5_1 < (a0.size : Int) := of_decide_eq_true (by first | (with_reducible assumption) | assumption)
                  have hx5 := bt_at a0 x5_1
                  replace p5 := eq_true p5
                  replace q5 := eq_true q5
                  go_wp2
                  go_roundg k1
                  case measure => have := HK1.out; omega
                  case rel => exact ⟨(wrap64 (x5_1 + 1)), (by first | rfl | (simp; done) | (simp [*]; done)), H', ⟨by have := HK1.out; omega⟩, by repeat (first | exact Drawn0.refl _ | apply Drawn0.step)⟩
                · rw [if_neg c25] at H
                  have c25b0 : ((bt a0 x5_1) == 46) = false := beq_eq_false_iff_ne.mpr c25
                  have c25b1 : ((bt a0 x5_1) != 46) = true := bne_iff_ne.mpr c25
                  by_cases c26 : a1 = true
                  · subst c26
                    have H1 : (if ((bt a0 x5_1) = 47) then (postriderref06_part.l0 k1 a0 true (wrap64 (x5_1 + 1))) else (some false)) = some r := by rw [if_pos rfl] at H; exact H
                    clear H
                    have H := H1
                    clear H1
                    by_cases c27 : ((bt a0 x5_1) = 47)
                    · rw [if_pos c27] at H
                      have c27b0 : ((bt a0 x5_1) == 47) = true := beq_iff_eq.mpr c27
                      have c27b1 : ((bt a0 x5_1) != 47) = false := bne_eq_false_iff_eq.mpr c27
                      clear c27
                      have H' := Aside0.mk H
                      clear H
                      have p5 : 0 ≤ (x5_1 : Int) := of_decide_eq_true (by first | (with_reducible assumption) | assumption)
                      have q5 : x5_1 < (a0.size : Int) := of_decide_eq_true (by first | (with_reducible assumption) | assumption)
                      have hx5 := bt_at a0 x5_1
                      replace p5 := eq_true p5
                      replace q5 := eq_true q5
                      go_wp2
                      go_roundg k1
                      case measure => have := HK1.out; omega
                      case rel => exact ⟨(wrap64 (x5_1 + 1)), (by first | rfl | (simp; done) | (simp [*]; done)), H', ⟨by have := HK1.out; omega⟩, by repeat (first | exact Drawn0.refl _ | apply Drawn0.step)⟩
                    · rw [if_neg c27] at H
                      have c27b0 : ((bt a0 x5_1) == 47) = false := beq_eq_false_iff_ne.mpr c27
                      have c27b1 : ((bt a0 x5_1) != 47) = true := bne_iff_ne.mpr c27
                      obtain rfl := Option.some.inj H
                      have p5 : 0 ≤ (x5_1 : Int) := of_decide_eq_true (by first | (with_reducible assumption) | assumption)
                      have q5 : x5_1 < (a0.size : Int) := of_decide_eq_true (by first | (with_reducible assumption) | assumption)
                      have hx5 := bt_at a0 x5_1
                      replace p5 := eq_true p5
                      replace q5 := eq_true q5
                      go_wp2
                      all_goals (first | (go_ret; exact ⟨by first | rfl | (simp; done) | (simp [*]; done) | (simp_all; done), by repeat (first | exact Drawn0.refl _ | apply Drawn0.step)⟩) | (exfalso; simp_all; done))
                  · replace c26 := Bool.eq_false_iff.mpr c26
                    subst c26
                    have H1 : (some false) = some r := by rw [if_neg (show ¬ (false = true) by decide)] at H; exact H
                    clear H
                    have H := H1
                    clear H1
                    obtain rfl := Option.some.inj H
                    have p5 : 0 ≤ (x5_1 : Int) := of_decide_eq_true (by first | (with_reducible assumption) | assumption)
                    have q5 : x5_1 < (a0.size : Int) := of_decide_eq_true (by first | (with_reducible assumption) | assumption)
                    have hx5 := bt_at a0 x5_1
                    replace p5 := eq_true p5
                    replace q5 := eq_true q5
                    go_wp2
                    all_goals (first | (go_ret; exact ⟨by first | rfl | (simp; done) | (simp [*]; done) | (simp_all; done), by repeat (first | exact Drawn0.refl _ | apply Drawn0.step)⟩) | (exfalso; simp_all; done))
        · rw [if_neg c4] at H
          exact absurd H (by simp)
      · rw [if_neg c3] at H
        have c3b0 : decide (x5_1 < (a0.size : Int)) = false := decide_eq_false c3
        clear c3
        obtain rfl := Option.some.inj H
        go_wp2
        all_goals (first | (go_ret; exact ⟨by first | rfl | (simp; done) | (simp [*]; done) | (simp_all; done), by repeat (first | exact Drawn0.refl _ | apply Drawn0.step)⟩) | (exfalso; simp_all; done))
def postriderref06_Right.f (k : Nat) (a0_0 : Int) (a0_1 : ByteArray) (a0_2 : ByteArray) (a0_3 : Int) (a0_4 : Int) : Option (Bool) := if a0_0 = 0 then (some (a0_0 == 0 && (a0_1.toList == ([] : List UInt8) && (a0_2.toList == ([] : List UInt8) && (a0_3 == 0 && (a0_4 == 0)))))) else (if a0_0 = 1 then (if a0_1.toList = ([] : List UInt8) then (some false) else ((postriderref06_part.f k a0_1 false).bind fun t102 => (if t102 = true then ((postriderref06_part.f k a0_2 true).bind fun t103 => (if t103 = true then (if a0_3 = 0 then (some (a0_4 == 0)) else (some false)) else (some false))) else (some false)))) else (if a0_0 = 2 then (if a0_1.toList = ([] : List UInt8) then (if a0_2.toList = ([] : List UInt8) then (if a0_3 ≥ 1 then (if a0_3 ≤ 999999999 then (if a0_4 ≥ 0 then (some (decide (a0_4 ≤ 999999999))) else (some false)) else (some false)) else (some false)) else (some false)) else (some false)) else (some false)))
theorem postriderref06_Right.mono : ∀ a0 a1 a2 a3 a4 k, LeO (postriderref06_Right.f k a0 a1 a2 a3 a4) (postriderref06_Right.f (k + 1) a0 a1 a2 a3 a4) := by
  intro a0 a1 a2 a3 a4 k
  unfold postriderref06_Right.f
  repeat' first
      | (with_reducible exact postriderref06_part.mono _ _ _)
      | (with_reducible exact LeO.refl _)
      | (with_reducible exact LeO.none _)
      | (with_reducible refine LeO.ite ?_ ?_)
      | (with_reducible refine LeO.bind ?_ (fun _ => ?_))
      | exact postriderref06_part.mono _ _ _
      | exact LeO.none _
      | refine LeO.ite ?_ ?_
      | refine LeO.bind ?_ (fun _ => ?_)
set_option maxHeartbeats 8000000 in
set_option maxRecDepth 100000 in
theorem postriderref06_Right.calls (k : Nat) (a0_0 : Int) (a0_1 : ByteArray) (a0_2 : ByteArray) (a0_3 : Int) (a0_4 : Int) (r : Bool) (w : World) (h : postriderref06_Right.f k a0_0 a0_1 a0_2 a0_3 a0_4 = some r) :
    Calls Tryd.prog 22 #[.agg #[.int .i64 a0_0, .string a0_1, .string a0_2, .int .i64 a0_3, .int .i64 a0_4]] w fun e w' => e = .returned (.bool r) ∧ Below w.heap.size w w' := by
  have hu23 := Tryd.underlying23
  have HB := Aside0.mk (Below.refl w.heap.size w)
  have H : (if a0_0 = 0 then (some (a0_0 == 0 && (a0_1.toList == ([] : List UInt8) && (a0_2.toList == ([] : List UInt8) && (a0_3 == 0 && (a0_4 == 0)))))) else (if a0_0 = 1 then (if a0_1.toList = ([] : List UInt8) then (some false) else ((postriderref06_part.f k a0_1 false).bind fun t102 => (if t102 = true then ((postriderref06_part.f k a0_2 true).bind fun t103 => (if t103 = true then (if a0_3 = 0 then (some (a0_4 == 0)) else (some false)) else (some false))) else (some false)))) else (if a0_0 = 2 then (if a0_1.toList = ([] : List UInt8) then (if a0_2.toList = ([] : List UInt8) then (if a0_3 ≥ 1 then (if a0_3 ≤ 999999999 then (if a0_4 ≥ 0 then (some (decide (a0_4 ≤ 999999999))) else (some false)) else (some false)) else (some false)) else (some false)) else (some false)) else (some false)))) = some r := h
  clear h
  by_cases c2 : a0_0 = 0
  · rw [if_pos c2] at H
    have c2b0 : (a0_0 == 0) = true := beq_iff_eq.mpr c2
    have c2b1 : (a0_0 != 0) = false := bne_eq_false_iff_eq.mpr c2
    clear c2
    obtain rfl := Option.some.inj H
    go_enter Tryd.func22, Tryd.ntmps22
    go_wp2_with (first | ((with_reducible refine gate_dst (N := 1) rfl ?_); refine box_event ?hg (N := 1) ?hd (cs := #[.int .i64 a0_0, .string a0_1, .string a0_2, .int .i64 a0_3, .int .i64 a0_4]) (t := 23) ?hr ?_; (case hd => rfl); (case hg => rfl); (case hr => first | (go_simp; done) | (go_simp; rfl) | (go_simp; simp only [isEmpty_ne, isEmpty_eq]; done) | (go_simp; simp only [isEmpty_ne, isEmpty_eq]; rfl)); intro gb101 hg w3 hbox hb; have n0_ := Aside0.mk (below_step (by repeat (first | (with_reducible first | exact HB.out | apply below_alloc | apply pw_below_drewN | apply below_drew1) | exact HB.out)) hb); have n1_ := Aside0.mk (hbox); have n2_ := Aside0.mk ((by rw [hg]; exact (below_size (by repeat (first | (with_reducible first | exact HB.out | apply below_alloc | apply pw_below_drewN | apply below_drew1) | exact HB.out))) : w.heap.size ≤ gb101)); have n3_ := Aside0.mk ((by rw [hg]; exact (below_size (by repeat (first | (with_reducible first | exact HB.out | apply below_alloc | apply pw_below_drewN | apply below_drew1) | exact HB.out))) : w.heap.size ≤ gb101)); clear HB; have HB := n0_; have BK101 := n1_; have GW101 := n2_; have GE101 := n3_; clear n0_ n1_ n2_ n3_; clear hb hbox hg; have hcz4_0 : w3.cell? ⟨gb101, 0, none⟩ = some (.int .i64 a0_0) := (blk_cell BK101.out 0).trans rfl; have hcz4_1 : w3.cell? ⟨gb101, 1, none⟩ = some (.string a0_1) := (blk_cell BK101.out 1).trans rfl; have hcz4_2 : w3.cell? ⟨gb101, 2, none⟩ = some (.string a0_2) := (blk_cell BK101.out 2).trans rfl; have hcz4_3 : w3.cell? ⟨gb101, 3, none⟩ = some (.int .i64 a0_3) := (blk_cell BK101.out 3).trans rfl; have hcz4_4 : w3.cell? ⟨gb101, 4, none⟩ = some (.int .i64 a0_4) := (blk_cell BK101.out 4).trans rfl; have hfz4_0 := blk_frozen BK101.out 0; have hfz4_1 := blk_frozen BK101.out 1; have hfz4_2 := blk_frozen BK101.out 2; have hfz4_3 := blk_frozen BK101.out 3; have hfz4_4 := blk_frozen BK101.out 4))
    all_goals (first | (go_ret; exact ⟨by first | rfl | (simp [errW_none, errW_some] <;> rfl) | (simp [*, errW_none, errW_some] <;> rfl) | (simp_all; done), by repeat (first | (with_reducible first | exact HB.out | apply below_alloc | apply pw_below_drewN | apply below_drew1 | refine below_set ?_ GE101.out) | exact HB.out)⟩) | (exfalso; simp_all; done))
  · rw [if_neg c2] at H
    have c2b0 : (a0_0 == 0) = false := beq_eq_false_iff_ne.mpr c2
    have c2b1 : (a0_0 != 0) = true := bne_iff_ne.mpr c2
    by_cases c5 : a0_0 = 1
    · rw [if_pos c5] at H
      have c5b0 : (a0_0 == 1) = true := beq_iff_eq.mpr c5
      have c5b1 : (a0_0 != 1) = false := bne_eq_false_iff_eq.mpr c5
      clear c5
      by_cases c6 : a0_1.toList = ([] : List UInt8)
      · rw [if_pos c6] at H
        have c6b0 : (a0_1.toList == ([] : List UInt8)) = true := beq_iff_eq.mpr c6
        have c6b1 : (a0_1.toList != ([] : List UInt8)) = false := bne_eq_false_iff_eq.mpr c6
        clear c6
        obtain rfl := Option.some.inj H
        go_enter Tryd.func22, Tryd.ntmps22
        go_wp2_with (first | ((with_reducible refine gate_dst (N := 1) rfl ?_); refine box_event ?hg (N := 1) ?hd (cs := #[.int .i64 a0_0, .string a0_1, .string a0_2, .int .i64 a0_3, .int .i64 a0_4]) (t := 23) ?hr ?_; (case hd => rfl); (case hg => rfl); (case hr => first | (go_simp; done) | (go_simp; rfl) | (go_simp; simp only [isEmpty_ne, isEmpty_eq]; done) | (go_simp; simp only [isEmpty_ne, isEmpty_eq]; rfl)); intro gb101 hg w7 hbox hb; have n0_ := Aside0.mk (below_step (by repeat (first | (with_reducible first | exact HB.out | apply below_alloc | apply pw_below_drewN | apply below_drew1) | exact HB.out)) hb); have n1_ := Aside0.mk (hbox); have n2_ := Aside0.mk ((by rw [hg]; exact (below_size (by repeat (first | (with_reducible first | exact HB.out | apply below_alloc | apply pw_below_drewN | apply below_drew1) | exact HB.out))) : w.heap.size ≤ gb101)); have n3_ := Aside0.mk ((by rw [hg]; exact (below_size (by repeat (first | (with_reducible first | exact HB.out | apply below_alloc | apply pw_below_drewN | apply below_drew1) | exact HB.out))) : w.heap.size ≤ gb101)); clear HB; have HB := n0_; have BK101 := n1_; have GW101 := n2_; have GE101 := n3_; clear n0_ n1_ n2_ n3_; clear hb hbox hg; have hcz8_0 : w7.cell? ⟨gb101, 0, none⟩ = some (.int .i64 a0_0) := (blk_cell BK101.out 0).trans rfl; have hcz8_1 : w7.cell? ⟨gb101, 1, none⟩ = some (.string a0_1) := (blk_cell BK101.out 1).trans rfl; have hcz8_2 : w7.cell? ⟨gb101, 2, none⟩ = some (.string a0_2) := (blk_cell BK101.out 2).trans rfl; have hcz8_3 : w7.cell? ⟨gb101, 3, none⟩ = some (.int .i64 a0_3) := (blk_cell BK101.out 3).trans rfl; have hcz8_4 : w7.cell? ⟨gb101, 4, none⟩ = some (.int .i64 a0_4) := (blk_cell BK101.out 4).trans rfl; have hfz8_0 := blk_frozen BK101.out 0; have hfz8_1 := blk_frozen BK101.out 1; have hfz8_2 := blk_frozen BK101.out 2; have hfz8_3 := blk_frozen BK101.out 3; have hfz8_4 := blk_frozen BK101.out 4))
        all_goals (first | (go_ret; exact ⟨by first | rfl | (simp [errW_none, errW_some] <;> rfl) | (simp [*, errW_none, errW_some] <;> rfl) | (simp_all; done), by repeat (first | (with_reducible first | exact HB.out | apply below_alloc | apply pw_below_drewN | apply below_drew1 | refine below_set ?_ GE101.out) | exact HB.out)⟩) | (exfalso; simp_all; done))
      · rw [if_neg c6] at H
        have c6b0 : (a0_1.toList == ([] : List UInt8)) = false := beq_eq_false_iff_ne.mpr c6
        have c6b1 : (a0_1.toList != ([] : List UInt8)) = true := bne_iff_ne.mpr c6
        replace H := Option.bind_eq_some_iff.mp H
        obtain ⟨t102, A90, H⟩ := H
        replace H : (if t102 = true then ((postriderref06_part.f k a0_2 true).bind fun t103 => (if t103 = true then (if a0_3 = 0 then (some (a0_4 == 0)) else (some false)) else (some false))) else (some false)) = some r := H
        have A9 := Aside0.mk A90
        clear A90
        by_cases c10 : t102 = true
        · subst c10
          have H1 : ((postriderref06_part.f k a0_2 true).bind fun t103 => (if t103 = true then (if a0_3 = 0 then (some (a0_4 == 0)) else (some false)) else (some false))) = some r := by rw [if_pos rfl] at H; exact H
          clear H
          have H := H1
          clear H1
          replace H := Option.bind_eq_some_iff.mp H
          obtain ⟨t103, A110, H⟩ := H
          replace H : (if t103 = true then (if a0_3 = 0 then (some (a0_4 == 0)) else (some false)) else (some false)) = some r := H
          have A11 := Aside0.mk A110
          clear A110
          by_cases c12 : t103 = true
          · subst c12
            have H1 : (if a0_3 = 0 then (some (a0_4 == 0)) else (some false)) = some r := by rw [if_pos rfl] at H; exact H
            clear H
            have H := H1
            clear H1
            by_cases c13 : a0_3 = 0
            · rw [if_pos c13] at H
              have c13b0 : (a0_3 == 0) = true := beq_iff_eq.mpr c13
              have c13b1 : (a0_3 != 0) = false := bne_eq_false_iff_eq.mpr c13
              clear c13
              obtain rfl := Option.some.inj H
              go_enter Tryd.func22, Tryd.ntmps22
              go_wp2_with (first | ((with_reducible refine gate_dst (N := 1) rfl ?_); refine box_event ?hg (N := 1) ?hd (cs := #[.int .i64 a0_0, .string a0_1, .string a0_2, .int .i64 a0_3, .int .i64 a0_4]) (t := 23) ?hr ?_; (case hd => rfl); (case hg => rfl); (case hr => first | (go_simp; done) | (go_simp; rfl) | (go_simp; simp only [isEmpty_ne, isEmpty_eq]; done) | (go_simp; simp only [isEmpty_ne, isEmpty_eq]; rfl)); intro gb101 hg w14 hbox hb; have n0_ := Aside0.mk (below_step (by repeat (first | (with_reducible first | exact HB.out | apply below_alloc | apply pw_below_drewN | apply below_drew1) | exact HB.out)) hb); have n1_ := Aside0.mk (hbox); have n2_ := Aside0.mk ((by rw [hg]; exact (below_size (by repeat (first | (with_reducible first | exact HB.out | apply below_alloc | apply pw_below_drewN | apply below_drew1) | exact HB.out))) : w.heap.size ≤ gb101)); have n3_ := Aside0.mk ((by rw [hg]; exact (below_size (by repeat (first | (with_reducible first | exact HB.out | apply below_alloc | apply pw_below_drewN | apply below_drew1) | exact HB.out))) : w.heap.size ≤ gb101)); clear HB; have HB := n0_; have BK101 := n1_; have GW101 := n2_; have GE101 := n3_; clear n0_ n1_ n2_ n3_; clear hb hbox hg; have hcz15_0 : w14.cell? ⟨gb101, 0, none⟩ = some (.int .i64 a0_0) := (blk_cell BK101.out 0).trans rfl; have hcz15_1 : w14.cell? ⟨gb101, 1, none⟩ = some (.string a0_1) := (blk_cell BK101.out 1).trans rfl; have hcz15_2 : w14.cell? ⟨gb101, 2, none⟩ = some (.string a0_2) := (blk_cell BK101.out 2).trans rfl; have hcz15_3 : w14.cell? ⟨gb101, 3, none⟩ = some (.int .i64 a0_3) := (blk_cell BK101.out 3).trans rfl; have hcz15_4 : w14.cell? ⟨gb101, 4, none⟩ = some (.int .i64 a0_4) := (blk_cell BK101.out 4).trans rfl; have hfz15_0 := blk_frozen BK101.out 0; have hfz15_1 := blk_frozen BK101.out 1; have hfz15_2 := blk_frozen BK101.out 2; have hfz15_3 := blk_frozen BK101.out 3; have hfz15_4 := blk_frozen BK101.out 4) | (go_at_call 32; (with_reducible refine (postriderref06_part.calls k a0_1 false true _ A9.out).mono ?_); rintro e w' ⟨rfl, ⟨nd, rfl⟩⟩) | (go_at_call 32; (with_reducible refine (postriderref06_part.calls k a0_2 true true _ A11.out).mono ?_); rintro e w' ⟨rfl, ⟨nd, rfl⟩⟩))
              all_goals (first | (go_ret; exact ⟨by first | rfl | (simp [errW_none, errW_some] <;> rfl) | (simp [*, errW_none, errW_some] <;> rfl) | (simp_all; done), by repeat (first | (with_reducible first | exact HB.out | apply below_alloc | apply pw_below_drewN | apply below_drew1 | refine below_set ?_ GE101.out) | exact HB.out)⟩) | (exfalso; simp_all; done))
            · rw [if_neg c13] at H
              have c13b0 : (a0_3 == 0) = false := beq_eq_false_iff_ne.mpr c13
              have c13b1 : (a0_3 != 0) = true := bne_iff_ne.mpr c13
              obtain rfl := Option.some.inj H
              go_enter Tryd.func22, Tryd.ntmps22
              go_wp2_with (first | ((with_reducible refine gate_dst (N := 1) rfl ?_); refine box_event ?hg (N := 1) ?hd (cs := #[.int .i64 a0_0, .string a0_1, .string a0_2, .int .i64 a0_3, .int .i64 a0_4]) (t := 23) ?hr ?_; (case hd => rfl); (case hg => rfl); (case hr => first | (go_simp; done) | (go_simp; rfl) | (go_simp; simp only [isEmpty_ne, isEmpty_eq]; done) | (go_simp; simp only [isEmpty_ne, isEmpty_eq]; rfl)); intro gb101 hg w16 hbox hb; have n0_ := Aside0.mk (below_step (by repeat (first | (with_reducible first | exact HB.out | apply below_alloc | apply pw_below_drewN | apply below_drew1) | exact HB.out)) hb); have n1_ := Aside0.mk (hbox); have n2_ := Aside0.mk ((by rw [hg]; exact (below_size (by repeat (first | (with_reducible first | exact HB.out | apply below_alloc | apply pw_below_drewN | apply below_drew1) | exact HB.out))) : w.heap.size ≤ gb101)); have n3_ := Aside0.mk ((by rw [hg]; exact (below_size (by repeat (first | (with_reducible first | exact HB.out | apply below_alloc | apply pw_below_drewN | apply below_drew1) | exact HB.out))) : w.heap.size ≤ gb101)); clear HB; have HB := n0_; have BK101 := n1_; have GW101 := n2_; have GE101 := n3_; clear n0_ n1_ n2_ n3_; clear hb hbox hg; have hcz17_0 : w16.cell? ⟨gb101, 0, none⟩ = some (.int .i64 a0_0) := (blk_cell BK101.out 0).trans rfl; have hcz17_1 : w16.cell? ⟨gb101, 1, none⟩ = some (.string a0_1) := (blk_cell BK101.out 1).trans rfl; have hcz17_2 : w16.cell? ⟨gb101, 2, none⟩ = some (.string a0_2) := (blk_cell BK101.out 2).trans rfl; have hcz17_3 : w16.cell? ⟨gb101, 3, none⟩ = some (.int .i64 a0_3) := (blk_cell BK101.out 3).trans rfl; have hcz17_4 : w16.cell? ⟨gb101, 4, none⟩ = some (.int .i64 a0_4) := (blk_cell BK101.out 4).trans rfl; have hfz17_0 := blk_frozen BK101.out 0; have hfz17_1 := blk_frozen BK101.out 1; have hfz17_2 := blk_frozen BK101.out 2; have hfz17_3 := blk_frozen BK101.out 3; have hfz17_4 := blk_frozen BK101.out 4) | (go_at_call 32; (with_reducible refine (postriderref06_part.calls k a0_1 false true _ A9.out).mono ?_); rintro e w' ⟨rfl, ⟨nd, rfl⟩⟩) | (go_at_call 32; (with_reducible refine (postriderref06_part.calls k a0_2 true true _ A11.out).mono ?_); rintro e w' ⟨rfl, ⟨nd, rfl⟩⟩))
              all_goals (first | (go_ret; exact ⟨by first | rfl | (simp [errW_none, errW_some] <;> rfl) | (simp [*, errW_none, errW_some] <;> rfl) | (simp_all; done), by repeat (first | (with_reducible first | exact HB.out | apply below_alloc | apply pw_below_drewN | apply below_drew1 | refine below_set ?_ GE101.out) | exact HB.out)⟩) | (exfalso; simp_all; done))
          · replace c12 := Bool.eq_false_iff.mpr c12
            subst c12
            have H1 : (some false) = some r := by rw [if_neg (show ¬ (false = true) by decide)] at H; exact H
            clear H
            have H := H1
            clear H1
            obtain rfl := Option.some.inj H
            go_enter Tryd.func22, Tryd.ntmps22
            go_wp2_with (first | ((with_reducible refine gate_dst (N := 1) rfl ?_); refine box_event ?hg (N := 1) ?hd (cs := #[.int .i64 a0_0, .string a0_1, .string a0_2, .int .i64 a0_3, .int .i64 a0_4]) (t := 23) ?hr ?_; (case hd => rfl); (case hg => rfl); (case hr => first | (go_simp; done) | (go_simp; rfl) | (go_simp; simp only [isEmpty_ne, isEmpty_eq]; done) | (go_simp; simp only [isEmpty_ne, isEmpty_eq]; rfl)); intro gb101 hg w18 hbox hb; have n0_ := Aside0.mk (below_step (by repeat (first | (with_reducible first | exact HB.out | apply below_alloc | apply pw_below_drewN | apply below_drew1) | exact HB.out)) hb); have n1_ := Aside0.mk (hbox); have n2_ := Aside0.mk ((by rw [hg]; exact (below_size (by repeat (first | (with_reducible first | exact HB.out | apply below_alloc | apply pw_below_drewN | apply below_drew1) | exact HB.out))) : w.heap.size ≤ gb101)); have n3_ := Aside0.mk ((by rw [hg]; exact (below_size (by repeat (first | (with_reducible first | exact HB.out | apply below_alloc | apply pw_below_drewN | apply below_drew1) | exact HB.out))) : w.heap.size ≤ gb101)); clear HB; have HB := n0_; have BK101 := n1_; have GW101 := n2_; have GE101 := n3_; clear n0_ n1_ n2_ n3_; clear hb hbox hg; have hcz19_0 : w18.cell? ⟨gb101, 0, none⟩ = some (.int .i64 a0_0) := (blk_cell BK101.out 0).trans rfl; have hcz19_1 : w18.cell? ⟨gb101, 1, none⟩ = some (.string a0_1) := (blk_cell BK101.out 1).trans rfl; have hcz19_2 : w18.cell? ⟨gb101, 2, none⟩ = some (.string a0_2) := (blk_cell BK101.out 2).trans rfl; have hcz19_3 : w18.cell? ⟨gb101, 3, none⟩ = some (.int .i64 a0_3) := (blk_cell BK101.out 3).trans rfl; have hcz19_4 : w18.cell? ⟨gb101, 4, none⟩ = some (.int .i64 a0_4) := (blk_cell BK101.out 4).trans rfl; have hfz19_0 := blk_frozen BK101.out 0; have hfz19_1 := blk_frozen BK101.out 1; have hfz19_2 := blk_frozen BK101.out 2; have hfz19_3 := blk_frozen BK101.out 3; have hfz19_4 := blk_frozen BK101.out 4) | (go_at_call 32; (with_reducible refine (postriderref06_part.calls k a0_1 false true _ A9.out).mono ?_); rintro e w' ⟨rfl, ⟨nd, rfl⟩⟩) | (go_at_call 32; (with_reducible refine (postriderref06_part.calls k a0_2 true false _ A11.out).mono ?_); rintro e w' ⟨rfl, ⟨nd, rfl⟩⟩))
            all_goals (first | (go_ret; exact ⟨by first | rfl | (simp [errW_none, errW_some] <;> rfl) | (simp [*, errW_none, errW_some] <;> rfl) | (simp_all; done), by repeat (first | (with_reducible first | exact HB.out | apply below_alloc | apply pw_below_drewN | apply below_drew1 | refine below_set ?_ GE101.out) | exact HB.out)⟩) | (exfalso; simp_all; done))
        · replace c10 := Bool.eq_false_iff.mpr c10
          subst c10
          have H1 : (some false) = some r := by rw [if_neg (show ¬ (false = true) by decide)] at H; exact H
          clear H
          have H := H1
          clear H1
          obtain rfl := Option.some.inj H
          go_enter Tryd.func22, Tryd.ntmps22
          go_wp2_with (first | ((with_reducible refine gate_dst (N := 1) rfl ?_); refine box_event ?hg (N := 1) ?hd (cs := #[.int .i64 a0_0, .string a0_1, .string a0_2, .int .i64 a0_3, .int .i64 a0_4]) (t := 23) ?hr ?_; (case hd => rfl); (case hg => rfl); (case hr => first | (go_simp; done) | (go_simp; rfl) | (go_simp; simp only [isEmpty_ne, isEmpty_eq]; done) | (go_simp; simp only [isEmpty_ne, isEmpty_eq]; rfl)); intro gb101 hg w20 hbox hb; have n0_ := Aside0.mk (below_step (by repeat (first | (with_reducible first | exact HB.out | apply below_alloc | apply pw_below_drewN | apply below_drew1) | exact HB.out)) hb); have n1_ := Aside0.mk (hbox); have n2_ := Aside0.mk ((by rw [hg]; exact (below_size (by repeat (first | (with_reducible first | exact HB.out | apply below_alloc | apply pw_below_drewN | apply below_drew1) | exact HB.out))) : w.heap.size ≤ gb101)); have n3_ := Aside0.mk ((by rw [hg]; exact (below_size (by repeat (first | (with_reducible first | exact HB.out | apply below_alloc | apply pw_below_drewN | apply below_drew1) | exact HB.out))) : w.heap.size ≤ gb101)); clear HB; have HB := n0_; have BK101 := n1_; have GW101 := n2_; have GE101 := n3_; clear n0_ n1_ n2_ n3_; clear hb hbox hg; have hcz21_0 : w20.cell? ⟨gb101, 0, none⟩ = some (.int .i64 a0_0) := (blk_cell BK101.out 0).trans rfl; have hcz21_1 : w20.cell? ⟨gb101, 1, none⟩ = some (.string a0_1) := (blk_cell BK101.out 1).trans rfl; have hcz21_2 : w20.cell? ⟨gb101, 2, none⟩ = some (.string a0_2) := (blk_cell BK101.out 2).trans rfl; have hcz21_3 : w20.cell? ⟨gb101, 3, none⟩ = some (.int .i64 a0_3) := (blk_cell BK101.out 3).trans rfl; have hcz21_4 : w20.cell? ⟨gb101, 4, none⟩ = some (.int .i64 a0_4) := (blk_cell BK101.out 4).trans rfl; have hfz21_0 := blk_frozen BK101.out 0; have hfz21_1 := blk_frozen BK101.out 1; have hfz21_2 := blk_frozen BK101.out 2; have hfz21_3 := blk_frozen BK101.out 3; have hfz21_4 := blk_frozen BK101.out 4) | (go_at_call 32; (with_reducible refine (postriderref06_part.calls k a0_1 false false _ A9.out).mono ?_); rintro e w' ⟨rfl, ⟨nd, rfl⟩⟩))
          all_goals (first | (go_ret; exact ⟨by first | rfl | (simp [errW_none, errW_some] <;> rfl) | (simp [*, errW_none, errW_some] <;> rfl) | (simp_all; done), by repeat (first | (with_reducible first | exact HB.out | apply below_alloc | apply pw_below_drewN | apply below_drew1 | refine below_set ?_ GE101.out) | exact HB.out)⟩) | (exfalso; simp_all; done))
    · rw [if_neg c5] at H
      have c5b0 : (a0_0 == 1) = false := beq_eq_false_iff_ne.mpr c5
      have c5b1 : (a0_0 != 1) = true := bne_iff_ne.mpr c5
      by_cases c22 : a0_0 = 2
      · rw [if_pos c22] at H
        have c22b0 : (a0_0 == 2) = true := beq_iff_eq.mpr c22
        have c22b1 : (a0_0 != 2) = false := bne_eq_false_iff_eq.mpr c22
        clear c22
        by_cases c23 : a0_1.toList = ([] : List UInt8)
        · rw [if_pos c23] at H
          have c23b0 : (a0_1.toList == ([] : List UInt8)) = true := beq_iff_eq.mpr c23
          have c23b1 : (a0_1.toList != ([] : List UInt8)) = false := bne_eq_false_iff_eq.mpr c23
          clear c23
          by_cases c24 : a0_2.toList = ([] : List UInt8)
          · rw [if_pos c24] at H
            have c24b0 : (a0_2.toList == ([] : List UInt8)) = true := beq_iff_eq.mpr c24
            have c24b1 : (a0_2.toList != ([] : List UInt8)) = false := bne_eq_false_iff_eq.mpr c24
            clear c24
            by_cases c25 : a0_3 ≥ 1
            · rw [if_pos c25] at H
              have c25b0 : decide (1 ≤ a0_3) = true := decide_eq_true c25
              clear c25
              by_cases c26 : a0_3 ≤ 999999999
              · rw [if_pos c26] at H
                have c26b0 : decide (a0_3 ≤ 999999999) = true := decide_eq_true c26
                clear c26
                by_cases c27 : a0_4 ≥ 0
                · rw [if_pos c27] at H
                  have c27b0 : decide (0 ≤ a0_4) = true := decide_eq_true c27
                  clear c27
                  obtain rfl := Option.some.inj H
                  go_enter Tryd.func22, Tryd.ntmps22
                  go_wp2_with (first | ((with_reducible refine gate_dst (N := 1) rfl ?_); refine box_event ?hg (N := 1) ?hd (cs := #[.int .i64 a0_0, .string a0_1, .string a0_2, .int .i64 a0_3, .int .i64 a0_4]) (t := 23) ?hr ?_; (case hd => rfl); (case hg => rfl); (case hr => first | (go_simp; done) | (go_simp; rfl) | (go_simp; simp only [isEmpty_ne, isEmpty_eq]; done) | (go_simp; simp only [isEmpty_ne, isEmpty_eq]; rfl)); intro gb101 hg w28 hbox hb; have n0_ := Aside0.mk (below_step (by repeat (first | (with_reducible first | exact HB.out | apply below_alloc | apply pw_below_drewN | apply below_drew1) | exact HB.out)) hb); have n1_ := Aside0.mk (hbox); have n2_ := Aside0.mk ((by rw [hg]; exact (below_size (by repeat (first | (with_reducible first | exact HB.out | apply below_alloc | apply pw_below_drewN | apply below_drew1) | exact HB.out))) : w.heap.size ≤ gb101)); have n3_ := Aside0.mk ((by rw [hg]; exact (below_size (by repeat (first | (with_reducible first | exact HB.out | apply below_alloc | apply pw_below_drewN | apply below_drew1) | exact HB.out))) : w.heap.size ≤ gb101)); clear HB; have HB := n0_; have BK101 := n1_; have GW101 := n2_; have GE101 := n3_; clear n0_ n1_ n2_ n3_; clear hb hbox hg; have hcz29_0 : w28.cell? ⟨gb101, 0, none⟩ = some (.int .i64 a0_0) := (blk_cell BK101.out 0).trans rfl; have hcz29_1 : w28.cell? ⟨gb101, 1, none⟩ = some (.string a0_1) := (blk_cell BK101.out 1).trans rfl; have hcz29_2 : w28.cell? ⟨gb101, 2, none⟩ = some (.string a0_2) := (blk_cell BK101.out 2).trans rfl; have hcz29_3 : w28.cell? ⟨gb101, 3, none⟩ = some (.int .i64 a0_3) := (blk_cell BK101.out 3).trans rfl; have hcz29_4 : w28.cell? ⟨gb101, 4, none⟩ = some (.int .i64 a0_4) := (blk_cell BK101.out 4).trans rfl; have hfz29_0 := blk_frozen BK101.out 0; have hfz29_1 := blk_frozen BK101.out 1; have hfz29_2 := blk_frozen BK101.out 2; have hfz29_3 := blk_frozen BK101.out 3; have hfz29_4 := blk_frozen BK101.out 4))
                  all_goals (first | (go_ret; exact ⟨by first | rfl | (simp [errW_none, errW_some] <;> rfl) | (simp [*, errW_none, errW_some] <;> rfl) | (simp_all; done), by repeat (first | (with_reducible first | exact HB.out | apply below_alloc | apply pw_below_drewN | apply below_drew1 | refine below_set ?_ GE101.out) | exact HB.out)⟩) | (exfalso; simp_all; done))
                · rw [if_neg c27] at H
                  have c27b0 : decide (0 ≤ a0_4) = false := decide_eq_false c27
                  clear c27
                  obtain rfl := Option.some.inj H
                  go_enter Tryd.func22, Tryd.ntmps22
                  go_wp2_with (first | ((with_reducible refine gate_dst (N := 1) rfl ?_); refine box_event ?hg (N := 1) ?hd (cs := #[.int .i64 a0_0, .string a0_1, .string a0_2, .int .i64 a0_3, .int .i64 a0_4]) (t := 23) ?hr ?_; (case hd => rfl); (case hg => rfl); (case hr => first | (go_simp; done) | (go_simp; rfl) | (go_simp; simp only [isEmpty_ne, isEmpty_eq]; done) | (go_simp; simp only [isEmpty_ne, isEmpty_eq]; rfl)); intro gb101 hg w30 hbox hb; have n0_ := Aside0.mk (below_step (by repeat (first | (with_reducible first | exact HB.out | apply below_alloc | apply pw_below_drewN | apply below_drew1) | exact HB.out)) hb); have n1_ := Aside0.mk (hbox); have n2_ := Aside0.mk ((by rw [hg]; exact (below_size (by repeat (first | (with_reducible first | exact HB.out | apply below_alloc | apply pw_below_drewN | apply below_drew1) | exact HB.out))) : w.heap.size ≤ gb101)); have n3_ := Aside0.mk ((by rw [hg]; exact (below_size (by repeat (first | (with_reducible first | exact HB.out | apply below_alloc | apply pw_below_drewN | apply below_drew1) | exact HB.out))) : w.heap.size ≤ gb101)); clear HB; have HB := n0_; have BK101 := n1_; have GW101 := n2_; have GE101 := n3_; clear n0_ n1_ n2_ n3_; clear hb hbox hg; have hcz31_0 : w30.cell? ⟨gb101, 0, none⟩ = some (.int .i64 a0_0) := (blk_cell BK101.out 0).trans rfl; have hcz31_1 : w30.cell? ⟨gb101, 1, none⟩ = some (.string a0_1) := (blk_cell BK101.out 1).trans rfl; have hcz31_2 : w30.cell? ⟨gb101, 2, none⟩ = some (.string a0_2) := (blk_cell BK101.out 2).trans rfl; have hcz31_3 : w30.cell? ⟨gb101, 3, none⟩ = some (.int .i64 a0_3) := (blk_cell BK101.out 3).trans rfl; have hcz31_4 : w30.cell? ⟨gb101, 4, none⟩ = some (.int .i64 a0_4) := (blk_cell BK101.out 4).trans rfl; have hfz31_0 := blk_frozen BK101.out 0; have hfz31_1 := blk_frozen BK101.out 1; have hfz31_2 := blk_frozen BK101.out 2; have hfz31_3 := blk_frozen BK101.out 3; have hfz31_4 := blk_frozen BK101.out 4))
                  all_goals (first | (go_ret; exact ⟨by first | rfl | (simp [errW_none, errW_some] <;> rfl) | (simp [*, errW_none, errW_some] <;> rfl) | (simp_all; done), by repeat (first | (with_reducible first | exact HB.out | apply below_alloc | apply pw_below_drewN | apply below_drew1 | refine below_set ?_ GE101.out) | exact HB.out)⟩) | (exfalso; simp_all; done))
              · rw [if_neg c26] at H
                have c26b0 : decide (a0_3 ≤ 999999999) = false := decide_eq_false c26
                clear c26
                obtain rfl := Option.some.inj H
                go_enter Tryd.func22, Tryd.ntmps22
                go_wp2_with (first | ((with_reducible refine gate_dst (N := 1) rfl ?_); refine box_event ?hg (N := 1) ?hd (cs := #[.int .i64 a0_0, .string a0_1, .string a0_2, .int .i64 a0_3, .int .i64 a0_4]) (t := 23) ?hr ?_; (case hd => rfl); (case hg => rfl); (case hr => first | (go_simp; done) | (go_simp; rfl) | (go_simp; simp only [isEmpty_ne, isEmpty_eq]; done) | (go_simp; simp only [isEmpty_ne, isEmpty_eq]; rfl)); intro gb101 hg w32 hbox hb; have n0_ := Aside0.mk (below_step (by repeat (first | (with_reducible first | exact HB.out | apply below_alloc | apply pw_below_drewN | apply below_drew1) | exact HB.out)) hb); have n1_ := Aside0.mk (hbox); have n2_ := Aside0.mk ((by rw [hg]; exact (below_size (by repeat (first | (with_reducible first | exact HB.out | apply below_alloc | apply pw_below_drewN | apply below_drew1) | exact HB.out))) : w.heap.size ≤ gb101)); have n3_ := Aside0.mk ((by rw [hg]; exact (below_size (by repeat (first | (with_reducible first | exact HB.out | apply below_alloc | apply pw_below_drewN | apply below_drew1) | exact HB.out))) : w.heap.size ≤ gb101)); clear HB; have HB := n0_; have BK101 := n1_; have GW101 := n2_; have GE101 := n3_; clear n0_ n1_ n2_ n3_; clear hb hbox hg; have hcz33_0 : w32.cell? ⟨gb101, 0, none⟩ = some (.int .i64 a0_0) := (blk_cell BK101.out 0).trans rfl; have hcz33_1 : w32.cell? ⟨gb101, 1, none⟩ = some (.string a0_1) := (blk_cell BK101.out 1).trans rfl; have hcz33_2 : w32.cell? ⟨gb101, 2, none⟩ = some (.string a0_2) := (blk_cell BK101.out 2).trans rfl; have hcz33_3 : w32.cell? ⟨gb101, 3, none⟩ = some (.int .i64 a0_3) := (blk_cell BK101.out 3).trans rfl; have hcz33_4 : w32.cell? ⟨gb101, 4, none⟩ = some (.int .i64 a0_4) := (blk_cell BK101.out 4).trans rfl; have hfz33_0 := blk_frozen BK101.out 0; have hfz33_1 := blk_frozen BK101.out 1; have hfz33_2 := blk_frozen BK101.out 2; have hfz33_3 := blk_frozen BK101.out 3; have hfz33_4 := blk_frozen BK101.out 4))
                all_goals (first | (go_ret; exact ⟨by first | rfl | (simp [errW_none, errW_some] <;> rfl) | (simp [*, errW_none, errW_some] <;> rfl) | (simp_all; done), by repeat (first | (with_reducible first | exact HB.out | apply below_alloc | apply pw_below_drewN | apply below_drew1 | refine below_set ?_ GE101.out) | exact HB.out)⟩) | (exfalso; simp_all; done))
            · rw [if_neg c25] at H
              have c25b0 : decide (1 ≤ a0_3) = false := decide_eq_false c25
              clear c25
              obtain rfl := Option.some.inj H
              go_enter Tryd.func22, Tryd.ntmps22
              go_wp2_with (first | ((with_reducible refine gate_dst (N := 1) rfl ?_); refine box_event ?hg (N := 1) ?hd (cs := #[.int .i64 a0_0, .string a0_1, .string a0_2, .int .i64 a0_3, .int .i64 a0_4]) (t := 23) ?hr ?_; (case hd => rfl); (case hg => rfl); (case hr => first | (go_simp; done) | (go_simp; rfl) | (go_simp; simp only [isEmpty_ne, isEmpty_eq]; done) | (go_simp; simp only [isEmpty_ne, isEmpty_eq]; rfl)); intro gb101 hg w34 hbox hb; have n0_ := Aside0.mk (below_step (by repeat (first | (with_reducible first | exact HB.out | apply below_alloc | apply pw_below_drewN | apply below_drew1) | exact HB.out)) hb); have n1_ := Aside0.mk (hbox); have n2_ := Aside0.mk ((by rw [hg]; exact (below_size (by repeat (first | (with_reducible first | exact HB.out | apply below_alloc | apply pw_below_drewN | apply below_drew1) | exact HB.out))) : w.heap.size ≤ gb101)); have n3_ := Aside0.mk ((by rw [hg]; exact (below_size (by repeat (first | (with_reducible first | exact HB.out | apply below_alloc | apply pw_below_drewN | apply below_drew1) | exact HB.out))) : w.heap.size ≤ gb101)); clear HB; have HB := n0_; have BK101 := n1_; have GW101 := n2_; have GE101 := n3_; clear n0_ n1_ n2_ n3_; clear hb hbox hg; have hcz35_0 : w34.cell? ⟨gb101, 0, none⟩ = some (.int .i64 a0_0) := (blk_cell BK101.out 0).trans rfl; have hcz35_1 : w34.cell? ⟨gb101, 1, none⟩ = some (.string a0_1) := (blk_cell BK101.out 1).trans rfl; have hcz35_2 : w34.cell? ⟨gb101, 2, none⟩ = some (.string a0_2) := (blk_cell BK101.out 2).trans rfl; have hcz35_3 : w34.cell? ⟨gb101, 3, none⟩ = some (.int .i64 a0_3) := (blk_cell BK101.out 3).trans rfl; have hcz35_4 : w34.cell? ⟨gb101, 4, none⟩ = some (.int .i64 a0_4) := (blk_cell BK101.out 4).trans rfl; have hfz35_0 := blk_frozen BK101.out 0; have hfz35_1 := blk_frozen BK101.out 1; have hfz35_2 := blk_frozen BK101.out 2; have hfz35_3 := blk_frozen BK101.out 3; have hfz35_4 := blk_frozen BK101.out 4))
              all_goals (first | (go_ret; exact ⟨by first | rfl | (simp [errW_none, errW_some] <;> rfl) | (simp [*, errW_none, errW_some] <;> rfl) | (simp_all; done), by repeat (first | (with_reducible first | exact HB.out | apply below_alloc | apply pw_below_drewN | apply below_drew1 | refine below_set ?_ GE101.out) | exact HB.out)⟩) | (exfalso; simp_all; done))
          · rw [if_neg c24] at H
            have c24b0 : (a0_2.toList == ([] : List UInt8)) = false := beq_eq_false_iff_ne.mpr c24
            have c24b1 : (a0_2.toList != ([] : List UInt8)) = true := bne_iff_ne.mpr c24
            obtain rfl := Option.some.inj H
            go_enter Tryd.func22, Tryd.ntmps22
            go_wp2_with (first | ((with_reducible refine gate_dst (N := 1) rfl ?_); refine box_event ?hg (N := 1) ?hd (cs := #[.int .i64 a0_0, .string a0_1, .string a0_2, .int .i64 a0_3, .int .i64 a0_4]) (t := 23) ?hr ?_; (case hd => rfl); (case hg => rfl); (case hr => first | (go_simp; done) | (go_simp; rfl) | (go_simp; simp only [isEmpty_ne, isEmpty_eq]; done) | (go_simp; simp only [isEmpty_ne, isEmpty_eq]; rfl)); intro gb101 hg w36 hbox hb; have n0_ := Aside0.mk (below_step (by repeat (first | (with_reducible first | exact HB.out | apply below_alloc | apply pw_below_drewN | apply below_drew1) | exact HB.out)) hb); have n1_ := Aside0.mk (hbox); have n2_ := Aside0.mk ((by rw [hg]; exact (below_size (by repeat (first | (with_reducible first | exact HB.out | apply below_alloc | apply pw_below_drewN | apply below_drew1) | exact HB.out))) : w.heap.size ≤ gb101)); have n3_ := Aside0.mk ((by rw [hg]; exact (below_size (by repeat (first | (with_reducible first | exact HB.out | apply below_alloc | apply pw_below_drewN | apply below_drew1) | exact HB.out))) : w.heap.size ≤ gb101)); clear HB; have HB := n0_; have BK101 := n1_; have GW101 := n2_; have GE101 := n3_; clear n0_ n1_ n2_ n3_; clear hb hbox hg; have hcz37_0 : w36.cell? ⟨gb101, 0, none⟩ = some (.int .i64 a0_0) := (blk_cell BK101.out 0).trans rfl; have hcz37_1 : w36.cell? ⟨gb101, 1, none⟩ = some (.string a0_1) := (blk_cell BK101.out 1).trans rfl; have hcz37_2 : w36.cell? ⟨gb101, 2, none⟩ = some (.string a0_2) := (blk_cell BK101.out 2).trans rfl; have hcz37_3 : w36.cell? ⟨gb101, 3, none⟩ = some (.int .i64 a0_3) := (blk_cell BK101.out 3).trans rfl; have hcz37_4 : w36.cell? ⟨gb101, 4, none⟩ = some (.int .i64 a0_4) := (blk_cell BK101.out 4).trans rfl; have hfz37_0 := blk_frozen BK101.out 0; have hfz37_1 := blk_frozen BK101.out 1; have hfz37_2 := blk_frozen BK101.out 2; have hfz37_3 := blk_frozen BK101.out 3; have hfz37_4 := blk_frozen BK101.out 4))
            all_goals (first | (go_ret; exact ⟨by first | rfl | (simp [errW_none, errW_some] <;> rfl) | (simp [*, errW_none, errW_some] <;> rfl) | (simp_all; done), by repeat (first | (with_reducible first | exact HB.out | apply below_alloc | apply pw_below_drewN | apply below_drew1 | refine below_set ?_ GE101.out) | exact HB.out)⟩) | (exfalso; simp_all; done))
        · rw [if_neg c23] at H
          have c23b0 : (a0_1.toList == ([] : List UInt8)) = false := beq_eq_false_iff_ne.mpr c23
          have c23b1 : (a0_1.toList != ([] : List UInt8)) = true := bne_iff_ne.mpr c23
          obtain rfl := Option.some.inj H
          go_enter Tryd.func22, Tryd.ntmps22
          go_wp2_with (first | ((with_reducible refine gate_dst (N := 1) rfl ?_); refine box_event ?hg (N := 1) ?hd (cs := #[.int .i64 a0_0, .string a0_1, .string a0_2, .int .i64 a0_3, .int .i64 a0_4]) (t := 23) ?hr ?_; (case hd => rfl); (case hg => rfl); (case hr => first | (go_simp; done) | (go_simp; rfl) | (go_simp; simp only [isEmpty_ne, isEmpty_eq]; done) | (go_simp; simp only [isEmpty_ne, isEmpty_eq]; rfl)); intro gb101 hg w38 hbox hb; have n0_ := Aside0.mk (below_step (by repeat (first | (with_reducible first | exact HB.out | apply below_alloc | apply pw_below_drewN | apply below_drew1) | exact HB.out)) hb); have n1_ := Aside0.mk (hbox); have n2_ := Aside0.mk ((by rw [hg]; exact (below_size (by repeat (first | (with_reducible first | exact HB.out | apply below_alloc | apply pw_below_drewN | apply below_drew1) | exact HB.out))) : w.heap.size ≤ gb101)); have n3_ := Aside0.mk ((by rw [hg]; exact (below_size (by repeat (first | (with_reducible first | exact HB.out | apply below_alloc | apply pw_below_drewN | apply below_drew1) | exact HB.out))) : w.heap.size ≤ gb101)); clear HB; have HB := n0_; have BK101 := n1_; have GW101 := n2_; have GE101 := n3_; clear n0_ n1_ n2_ n3_; clear hb hbox hg; have hcz39_0 : w38.cell? ⟨gb101, 0, none⟩ = some (.int .i64 a0_0) := (blk_cell BK101.out 0).trans rfl; have hcz39_1 : w38.cell? ⟨gb101, 1, none⟩ = some (.string a0_1) := (blk_cell BK101.out 1).trans rfl; have hcz39_2 : w38.cell? ⟨gb101, 2, none⟩ = some (.string a0_2) := (blk_cell BK101.out 2).trans rfl; have hcz39_3 : w38.cell? ⟨gb101, 3, none⟩ = some (.int .i64 a0_3) := (blk_cell BK101.out 3).trans rfl; have hcz39_4 : w38.cell? ⟨gb101, 4, none⟩ = some (.int .i64 a0_4) := (blk_cell BK101.out 4).trans rfl; have hfz39_0 := blk_frozen BK101.out 0; have hfz39_1 := blk_frozen BK101.out 1; have hfz39_2 := blk_frozen BK101.out 2; have hfz39_3 := blk_frozen BK101.out 3; have hfz39_4 := blk_frozen BK101.out 4))
          all_goals (first | (go_ret; exact ⟨by first | rfl | (simp [errW_none, errW_some] <;> rfl) | (simp [*, errW_none, errW_some] <;> rfl) | (simp_all; done), by repeat (first | (with_reducible first | exact HB.out | apply below_alloc | apply pw_below_drewN | apply below_drew1 | refine below_set ?_ GE101.out) | exact HB.out)⟩) | (exfalso; simp_all; done))
      · rw [if_neg c22] at H
        have c22b0 : (a0_0 == 2) = false := beq_eq_false_iff_ne.mpr c22
        have c22b1 : (a0_0 != 2) = true := bne_iff_ne.mpr c22
        obtain rfl := Option.some.inj H
        go_enter Tryd.func22, Tryd.ntmps22
        go_wp2_with (first | ((with_reducible refine gate_dst (N := 1) rfl ?_); refine box_event ?hg (N := 1) ?hd (cs := #[.int .i64 a0_0, .string a0_1, .string a0_2, .int .i64 a0_3, .int .i64 a0_4]) (t := 23) ?hr ?_; (case hd => rfl); (case hg => rfl); (case hr => first | (go_simp; done) | (go_simp; rfl) | (go_simp; simp only [isEmpty_ne, isEmpty_eq]; done) | (go_simp; simp only [isEmpty_ne, isEmpty_eq]; rfl)); intro gb101 hg w40 hbox hb; have n0_ := Aside0.mk (below_step (by repeat (first | (with_reducible first | exact HB.out | apply below_alloc | apply pw_below_drewN | apply below_drew1) | exact HB.out)) hb); have n1_ := Aside0.mk (hbox); have n2_ := Aside0.mk ((by rw [hg]; exact (below_size (by repeat (first | (with_reducible first | exact HB.out | apply below_alloc | apply pw_below_drewN | apply below_drew1) | exact HB.out))) : w.heap.size ≤ gb101)); have n3_ := Aside0.mk ((by rw [hg]; exact (below_size (by repeat (first | (with_reducible first | exact HB.out | apply below_alloc | apply pw_below_drewN | apply below_drew1) | exact HB.out))) : w.heap.size ≤ gb101)); clear HB; have HB := n0_; have BK101 := n1_; have GW101 := n2_; have GE101 := n3_; clear n0_ n1_ n2_ n3_; clear hb hbox hg; have hcz41_0 : w40.cell? ⟨gb101, 0, none⟩ = some (.int .i64 a0_0) := (blk_cell BK101.out 0).trans rfl; have hcz41_1 : w40.cell? ⟨gb101, 1, none⟩ = some (.string a0_1) := (blk_cell BK101.out 1).trans rfl; have hcz41_2 : w40.cell? ⟨gb101, 2, none⟩ = some (.string a0_2) := (blk_cell BK101.out 2).trans rfl; have hcz41_3 : w40.cell? ⟨gb101, 3, none⟩ = some (.int .i64 a0_3) := (blk_cell BK101.out 3).trans rfl; have hcz41_4 : w40.cell? ⟨gb101, 4, none⟩ = some (.int .i64 a0_4) := (blk_cell BK101.out 4).trans rfl; have hfz41_0 := blk_frozen BK101.out 0; have hfz41_1 := blk_frozen BK101.out 1; have hfz41_2 := blk_frozen BK101.out 2; have hfz41_3 := blk_frozen BK101.out 3; have hfz41_4 := blk_frozen BK101.out 4))
        all_goals (first | (go_ret; exact ⟨by first | rfl | (simp [errW_none, errW_some] <;> rfl) | (simp [*, errW_none, errW_some] <;> rfl) | (simp_all; done), by repeat (first | (with_reducible first | exact HB.out | apply below_alloc | apply pw_below_drewN | apply below_drew1 | refine below_set ?_ GE101.out) | exact HB.out)⟩) | (exfalso; simp_all; done))
end Go.Proofs.YtandbobinjhehaaDoor.SE
end

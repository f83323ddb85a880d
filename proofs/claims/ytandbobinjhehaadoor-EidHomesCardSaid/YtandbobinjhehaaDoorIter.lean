/- A range over a function, by one law: the iterator has a footprint X of blocks that were there when the loop began: it changes none but these, and the body keeps these. -/
import Derived.Test.YtandbobinjhehaaDoorBase
import Derived.RangeFuncNested
import Derived.RangeFuncBound
import Derived.RangeFuncCalls
import Derived.RangeFuncLeaves
import Derived.Shelf.Abstract
import Derived.OwnWalkIn
import Derived.TacticsInMore
import Derived.LoopNIn
import Derived.LoopIn
namespace Go.Proofs.YtandbobinjhehaaDoor.Hand
open Go.RowKit

/-- B is A, but for X's blocks, and for what is no cells from B0 on; and new blocks. -/
structure KeptX (X : Nat → Prop) (B0 : Nat) (A B : World) : Prop where
  os : B.os = A.os
  tape : B.tape = A.tape
  output : B.output = A.output
  size : A.heap.size ≤ B.heap.size
  block : ∀ k o, A.heap[k]? = some o → ¬ X k → (k < B0 ∨ o.isCells = true) → B.heap[k]? = some o
/-- B is A, but for X's blocks and new ones. -/
structure KeptA (X : Nat → Prop) (A B : World) : Prop where
  os : B.os = A.os
  tape : B.tape = A.tape
  output : B.output = A.output
  size : A.heap.size ≤ B.heap.size
  block : ∀ k o, A.heap[k]? = some o → ¬ X k → B.heap[k]? = some o
theorem KeptA.kx {X : Nat → Prop} {A B : World} (h : KeptA X A B) (B0 : Nat) : KeptX X B0 A B := ⟨h.os, h.tape, h.output, h.size, fun k o hk hx _ => h.block k o hk hx⟩
theorem KeptA.refl (X : Nat → Prop) (A : World) : KeptA X A A := ⟨rfl, rfl, rfl, Nat.le_refl _, fun _ _ h _ => h⟩
theorem KeptA.trans {X : Nat → Prop} {A B C : World} (h : KeptA X A B) (k : KeptA X B C) : KeptA X A C := ⟨k.os.trans h.os, k.tape.trans h.tape, k.output.trans h.output, Nat.le_trans h.size k.size, fun i o hi hx => k.block i o (h.block i o hi hx) hx⟩
theorem KeptA.of_below {X : Nat → Prop} {A B : World} (h : Below A.heap.size A B) : KeptA X A B := ⟨h.os, h.tape, h.output, h.size, fun k o hk _ => by rw [h.block k (Array.getElem?_eq_some_iff.1 hk).1]; exact hk⟩
theorem KeptA.setCell {X : Nat → Prop} {A B : World} (h : KeptA X A B) {p : Addr} (hp : X p.block) (v : Value) : KeptA X A (B.setCell p v) :=
  h.trans ⟨rfl, rfl, rfl, by simp [World.setCell], fun k o hk hx => by rw [Below.heap_setCell B p v k (fun e => hx (by rw [e]; exact hp))]; exact hk⟩
theorem KeptX.below {X : Nat → Prop} {B0 n : Nat} {W0 A B : World} (h : KeptX X B0 A B) (hb : Below n W0 A) (h0 : n ≤ B0) (h1 : n ≤ W0.heap.size) (hx : ∀ k, k < n → ¬ X k) : Below n W0 B :=
  ⟨h.os.trans hb.os, h.tape.trans hb.tape, h.output.trans hb.output, Nat.le_trans hb.size h.size, fun k hk => by
    have hlt : k < W0.heap.size := by omega
    have e : W0.heap[k]? = some W0.heap[k] := Array.getElem?_eq_getElem hlt
    have e2 := (hb.block k hk).trans e
    rw [h.block k _ e2 (hx k hk) (.inl (by omega)), e]⟩
theorem KeptX.blk {X : Nat → Prop} {B0 : Nat} {A B : World} (h : KeptX X B0 A B) {k : Nat} {c : Array Value} {t : TypeId} {fr : Nat × Nat} (hk : A.heap[k]? = some (.cells c t fr)) (hx : ¬ X k) : B.heap[k]? = some (.cells c t fr) := h.block k _ hk hx (.inr rfl)
theorem KeptX.obj {X : Nat → Prop} {B0 : Nat} {A B : World} (h : KeptX X B0 A B) {k : Nat} {o : Obj} (hk : A.heap[k]? = some o) (hx : ¬ X k) (h0 : k < B0) : B.heap[k]? = some o := h.block k _ hk hx (.inl h0)

def SameX (X : Nat → Prop) (A B : World) : Prop := ∀ k, X k → B.heap[k]? = A.heap[k]?
theorem SameX.trans {X : Nat → Prop} {A B C : World} (h : SameX X A B) (h2 : SameX X B C) : SameX X A C := fun i hi => (h2 i hi).trans (h i hi)
theorem SameX.putObj {X : Nat → Prop} (W : World) {l : Nat} (o : Obj) (h : ¬ X l) : SameX X W (W.putObj l o) := fun _ hk => World.putObj_heap_other (fun e => h (e ▸ hk))

/-- The contract of an iterator that yields xs's elements, in their order, till it is told to stop. -/
def IterX {α : Type} (P : Program) (gf : Nat) (lb : Array Value) (encs : α → Array Value) (X R : Nat → Prop) (xs : List α) (w0 : World) : Prop :=
  ∀ (l : Nat) (J Jx : List α → World → Prop) (W : World), Below w0.heap.size w0 W → (∀ s A B, J s A → KeptA X A B → J s B) → (∀ s A B, Jx s A → KeptA X A B → Jx s B) →
    (∀ pre x W1, J pre W1 → (pre ++ [x]) <+: xs → YieldAt Fence.wide 9 P l (encs x) W1 fun e W' =>
      (e = .returned (.bool true) ∧ J (pre ++ [x]) W' ∧ SameX R W1 W' ∧ KeepsFrom W.heap.size W1 W') ∨ (e = .returned (.bool false) ∧ Jx (pre ++ [x]) W')) →
    J [] W →
    CallsIn Fence.wide 10 P gf (#[.func (.yield l) #[] #[]] ++ lb) W fun e W' => (∃ v, e = .returned v) ∧ (J xs W' ∨ ∃ pre, pre <+: xs ∧ Jx pre W')

def postX {α : Type} (B : Nat) (R : Nat → Prop) (I : List α → World → Prop) (Ix : Code → List α → World → Prop) (xs : List α) (W : World) : Exit → Act → World → Prop
  | .normal, _, W' => KeepsFrom B W W' ∧ SameX R W W' ∧ I xs W'
  | .ret, _, W' => KeepsFrom B W W' ∧ Ix .ret xs W'
  | .exit id, _, W' => KeepsFrom B W W' ∧ Ix (.exit id) xs W'
  | .goto t, _, W' => KeepsFrom B W W' ∧ Ix (.goto t) xs W'
  | .panic _, _, _ => False
  | .outgrown, _, _ => False

theorem keptX_putObj {X : Nat → Prop} {B0 l : Nat} {W : World} {o : Obj} (o' : Obj) (hB : B0 ≤ l) (hl : W.heap[l]? = some o) (ho : o.isCells = false) : KeptX X B0 W (W.putObj l o') :=
  ⟨rfl, rfl, rfl, by simp, fun k oo hk _ hh => by
    have hne : k ≠ l := by
      rintro rfl
      rcases hh with hh | hh
      · omega
      · rw [hl] at hk; cases hk; rw [ho] at hh; cases hh
    rw [World.putObj_heap_other hne]; exact hk⟩

theorem kf_up {B B' : Nat} {W W' : World} (h : KeepsFrom B W W') (hB : B ≤ B') : KeepsFrom B' W W' := ⟨h.size, fun k o hk ho hc => h.same k o (by omega) ho hc⟩
theorem keepsFrom_putObj {B l : Nat} {W : World} (o : Obj) (h : l < B) : KeepsFrom B W (W.putObj l o) := ⟨by simp, fun k o' hk ho _ => by rw [World.putObj_heap_other (by omega)]; exact ho⟩

theorem rangeFuncX {P : Program} {α : Type} {g : Operand} {ps : Array Tmp} {assign body : Code} {Q : Exit → Act → World → Prop} {a : Act} {w : World}
    {gf : Nat} {lb : Array Value} (hg : a.eval g = .func (.func gf) #[] lb) (eg : ∀ args w, (callFunc gf args).run P w = .ok (.enter gf args) w)
    {encs : α → Array Value} {X R : Nat → Prop} {xs : List α} {w0 : World} (hseq : IterX P gf lb encs X R xs w0) (hX : ∀ k, X k → k < w.heap.size) (hR : ∀ k, R k → k < w.heap.size)
    (hb0 : Below w0.heap.size w0 w) (hps : ∀ x, (encs x).size = ps.size)
    (I : List α → World → Prop) (Ix : Code → List α → World → Prop) (hI : ∀ s A B, I s A → KeptX X w.heap.size A B → I s B) (hIx : ∀ c s A B, Ix c s A → KeptX X w.heap.size A B → Ix c s B) (h0 : I [] w)
    (hround : ∀ (l : Nat) (pre : List α) (x : α) (W : World) (K : Act → World → Prop), w.heap.size ≤ l → (∃ r, W.heap[l]? = some (.loop r)) → I pre W → (pre ++ [x]) <+: xs →
      (∀ a' W', KeepsFrom w.heap.size W W' → SameX R W W' → (∀ W1, KeptX X w.heap.size W' W1 → (∃ r, W1.heap[l]? = some (.loop r)) → w.heap.size ≤ W1.heap.size → body.wpIn (Fence.wide.inRound l) 9 P (postX w.heap.size R I Ix (pre ++ [x]) W1) a' W1) → K a' W') →
      assign.wpIn (Fence.wide.inRound l) 9 P (Exit.then K (fun _ _ _ => False)) { tmps := (ps.zip (encs x)).foldl (fun t (p, v) => t.setIfInBounds p v) a.tmps, defers := [] } W)
    (hdone : ∀ (D : Nat) (W : World), w.heap.size ≤ D → I xs W → W.heap[D]? = some (.deferred (some [])) → Q .normal { a with defers := { target := .collected D, args := #[] } :: a.defers } W)
    (hstop : ∀ (D : Nat) (c : Code) (pre : List α) (W : World), w.heap.size ≤ D → pre <+: xs → Ix c pre W → W.heap[D]? = some (.deferred (some [])) → c.wpIn Fence.wide 11 P Q { a with defers := { target := .collected D, args := #[] } :: a.defers } W) :
    (Code.rangeFunc g ps assign body).wpIn Fence.wide 11 P Q a w := by
  refine wpIn_rangeFunc ?_
  intro fn hfn
  rw [show Fence.wide.round = none from rfl]
  obtain ⟨rec, hrec⟩ : ∃ rec : LoopState → Option Code → Loop, rec = fun st pe => { state := st, pending := pe, fn, tmps := a.tmps, params := ps, assign, body, defers := w.heap.size } := ⟨_, rfl⟩
  obtain ⟨W1, hW1⟩ : ∃ W1, (w.alloc (.deferred (some []))).alloc (.loop (rec .ready none)) = W1 := ⟨_, rfl⟩
  have hL1 : W1.heap[w.heap.size + 1]? = some (.loop (rec .ready none)) := by
    rw [← hW1]; have := World.alloc_heap_new (w.alloc (.deferred (some []))) (.loop (rec .ready none)); rwa [World.size_alloc] at this
  have hK1 : W1.heap[w.heap.size]? = some (.deferred (some [])) := by
    rw [← hW1]; exact (Below.heap_alloc _ _ _ (by simp)).trans (World.alloc_heap_new w _)
  have hbW : Below w.heap.size w W1 := by rw [← hW1]; exact ((Below.refl _ w).alloc (Nat.le_refl _) _).alloc (by simp) _
  have hI1 : I [] W1 := hI _ _ _ h0 ((KeptA.of_below hbW).kx _)
  have hb1 : Below w0.heap.size w0 W1 := hb0.trans (hbW.mono hb0.size)
  have hnX : ¬ X w.heap.size := fun h => by have := hX _ h; omega
  have hnX1 : ¬ X (w.heap.size + 1) := fun h => by have := hX _ h; omega
  have hnR1 : ¬ R (w.heap.size + 1) := fun h => by have := hR _ h; omega
  refine ⟨w.heap.size + 1, [{ target := .collected w.heap.size, args := #[] }], W1, { target := .fn (.func gf) lb, args := #[.func (.yield (w.heap.size + 1)) #[] #[]] }, W1, gf,
    #[.func (.yield (w.heap.size + 1)) #[] #[]] ++ lb, W1, ?_, ?_, ?_, ?_, fun _ => by decide, ?_⟩
  · rw [← hW1, hrec]; exact run_enterLoop_outer _ _ _ _ _
  · simp only [resolve, hg]
    simp [go_sem]
  · intro f' hf'; exact trivial
  · simp [invoke, go_sem, eg]
  · refine (hseq (w.heap.size + 1)
      (fun pre W => I pre W ∧ W.heap[w.heap.size + 1]? = some (.loop (rec .ready none)) ∧ W.heap[w.heap.size]? = some (.deferred (some [])))
      (fun pre W => ∃ c, Ix c pre W ∧ W.heap[w.heap.size + 1]? = some (.loop (rec .done (some c))) ∧ W.heap[w.heap.size]? = some (.deferred (some [])))
      W1 hb1
      (fun s A B hs hk => ⟨hI s A B hs.1 (hk.kx _), hk.block _ _ hs.2.1 hnX1, hk.block _ _ hs.2.2 hnX⟩)
      (fun s A B hs hk => by
        obtain ⟨c, hc, hl, hd⟩ := hs
        exact ⟨c, hIx c s A B hc (hk.kx _), hk.block _ _ hl hnX1, hk.block _ _ hd hnX⟩)
      ?_ ⟨hI1, hL1, hK1⟩).mono ?_
    · have hsz1 : w.heap.size ≤ W1.heap.size := hbW.size
      have hsz2 : w.heap.size + 1 < W1.heap.size := (Array.getElem?_eq_some_iff.1 hL1).1
      rintro pre x W ⟨hi, hl, hk⟩ hpre
      have hlt : w.heap.size + 1 < W.heap.size := (Array.getElem?_eq_some_iff.1 hl).1
      have hy := run_yield (P := P) (args := encs x) hl (by rw [hrec]; exact hps x)
      rw [hrec] at hy
      refine ⟨fn, _, assign, body, hy, roundIn_of_wpIn hfn (hround _ pre x W _ (by omega) ⟨_, hl⟩ hi hpre ?_)⟩
      clear hy
      intro a' Wa hkfa hkpa hbody
      replace hl := hkfa.same _ _ (by omega) hl rfl
      replace hk := hkfa.same _ _ (Nat.le_refl _) hk rfl
      replace hlt : w.heap.size + 1 < Wa.heap.size := (Array.getElem?_eq_some_iff.1 hl).1
      refine ⟨_, run_beginRound hl (by rw [hrec]), ?_⟩
      have hl2 : (Wa.putObj (w.heap.size + 1) (.loop { rec .ready none with state := .busy })).heap[w.heap.size + 1]? = some (.loop { rec .ready none with state := .busy }) := World.putObj_heap_same hlt
      have hk2 : (Wa.putObj (w.heap.size + 1) (.loop { rec .ready none with state := .busy })).heap[w.heap.size]? = some (.deferred (some [])) := (World.putObj_heap_other (by omega)).trans hk
      have hw2 : SameX R Wa (Wa.putObj (w.heap.size + 1) (.loop { rec .ready none with state := .busy })) := SameX.putObj _ _ hnR1
      refine wpIn_mono (hbody _ (keptX_putObj _ (by omega) hl rfl) ⟨_, hl2⟩ (by simp; omega)) ?_
      have fin : ∀ (jump : Option Code) (W3 : World), KeepsFrom w.heap.size (Wa.putObj (w.heap.size + 1) (.loop { rec .ready none with state := .busy })) W3 →
          (Instr.endRound (w.heap.size + 1) jump).run P W3 = .ok (.bool jump.isNone) (W3.putObj (w.heap.size + 1) (.loop (rec (if jump.isNone then .ready else .done) jump))) ∧
          W3.heap[w.heap.size + 1]? = some (.loop { rec .ready none with state := .busy }) ∧
          (W3.putObj (w.heap.size + 1) (.loop (rec (if jump.isNone then .ready else .done) jump))).heap[w.heap.size + 1]? = some (.loop (rec (if jump.isNone then .ready else .done) jump)) ∧
          (W3.putObj (w.heap.size + 1) (.loop (rec (if jump.isNone then .ready else .done) jump))).heap[w.heap.size]? = some (.deferred (some [])) := fun jump W3 hk3 => by
        have hl3 := hk3.same _ _ (by omega) hl2 rfl
        have := run_endRound (P := P) jump hl3
        rw [hrec] at this ⊢
        exact ⟨this, by rw [hrec] at hl3; exact hl3, World.putObj_heap_same (Array.getElem?_eq_some_iff.1 hl3).1, (World.putObj_heap_other (by omega)).trans (hk3.same _ _ (Nat.le_refl _) hk2 rfl)⟩
      rintro e a3 W3 hp
      cases e with
      | normal =>
        obtain ⟨hk3, hkp3, hi3⟩ := hp
        obtain ⟨hr, hl3, hl4, hk4⟩ := fin none W3 hk3
        exact ⟨_, _, hr, .inl ⟨rfl, ⟨hI _ _ _ hi3 (keptX_putObj _ (by omega) hl3 rfl), hl4, hk4⟩, hkpa.trans ((hw2.trans hkp3).trans (SameX.putObj _ _ hnR1)), (kf_up hkfa hsz1).trans (((keepsFrom_putObj _ (by omega)).trans (kf_up hk3 hsz1)).trans (keepsFrom_putObj _ (by omega)))⟩⟩
      | ret =>
        obtain ⟨hk3, hi3⟩ := hp
        obtain ⟨hr, hl3, hl4, hk4⟩ := fin (some .ret) W3 hk3
        exact ⟨_, _, hr, .inr ⟨rfl, .ret, hIx _ _ _ _ hi3 (keptX_putObj _ (by omega) hl3 rfl), hl4, hk4⟩⟩
      | exit id =>
        obtain ⟨hk3, hi3⟩ := hp
        obtain ⟨hr, hl3, hl4, hk4⟩ := fin (some (.exit id)) W3 hk3
        exact ⟨_, _, hr, .inr ⟨rfl, .exit id, hIx _ _ _ _ hi3 (keptX_putObj _ (by omega) hl3 rfl), hl4, hk4⟩⟩
      | goto t =>
        obtain ⟨hk3, hi3⟩ := hp
        obtain ⟨hr, hl3, hl4, hk4⟩ := fin (some (.goto t)) W3 hk3
        exact ⟨_, _, hr, .inr ⟨rfl, .goto t, hIx _ _ _ _ hi3 (keptX_putObj _ (by omega) hl3 rfl), hl4, hk4⟩⟩
      | panic ch => exact hp.elim
      | outgrown => exact hp.elim
    · rintro e W2 ⟨⟨v, rfl⟩, (⟨hi, hl, hk⟩ | ⟨pre, hSp, c, hi, hl, hk⟩)⟩
      · exact ⟨none, _, by have := run_endLoop (P := P) hl (by rw [hrec]; simp); rw [hrec] at this; exact this, hdone _ _ (Nat.le_refl _) (hI _ _ _ hi (keptX_putObj _ (by omega) hl rfl)) ((World.putObj_heap_other (by omega)).trans hk)⟩
      · exact ⟨some c, _, by have := run_endLoop (P := P) hl (by rw [hrec]; simp); rw [hrec] at this; exact this, hstop _ c pre _ (Nat.le_refl _) hSp (hIx _ _ _ _ hi (keptX_putObj _ (by omega) hl rfl)) ((World.putObj_heap_other (by omega)).trans hk)⟩

/-- The same in the plain walk's words (the round's own code stays inside its round). -/
theorem rangeFuncW {P : Program} {α : Type} {g : Operand} {ps : Array Tmp} {assign body : Code} {Q : Exit → Act → World → Prop} {a : Act} {w : World}
    {gf : Nat} {lb : Array Value} (hg : a.eval g = .func (.func gf) #[] lb) (eg : ∀ args w, (callFunc gf args).run P w = .ok (.enter gf args) w)
    {encs : α → Array Value} {X R : Nat → Prop} {xs : List α} {w0 : World} (hseq : IterX P gf lb encs X R xs w0) (hX : ∀ k, X k → k < w.heap.size) (hR : ∀ k, R k → k < w.heap.size)
    (hb0 : Below w0.heap.size w0 w) (hps : ∀ x, (encs x).size = ps.size)
    (I : List α → World → Prop) (Ix : Code → List α → World → Prop) (hI : ∀ s A B, I s A → KeptX X w.heap.size A B → I s B) (hIx : ∀ c s A B, Ix c s A → KeptX X w.heap.size A B → Ix c s B) (h0 : I [] w)
    (hround : ∀ (l : Nat) (pre : List α) (x : α) (W : World) (K : Act → World → Prop), w.heap.size ≤ l → (∃ r, W.heap[l]? = some (.loop r)) → I pre W → (pre ++ [x]) <+: xs →
      (∀ a' W', KeepsFrom w.heap.size W W' → SameX R W W' → (∀ W1, KeptX X w.heap.size W' W1 → (∃ r, W1.heap[l]? = some (.loop r)) → w.heap.size ≤ W1.heap.size → body.wpIn (Fence.wide.inRound l) 9 P (postX w.heap.size R I Ix (pre ++ [x]) W1) a' W1) → K a' W') →
      assign.wpIn (Fence.wide.inRound l) 9 P (Exit.then K (fun _ _ _ => False)) { tmps := (ps.zip (encs x)).foldl (fun t (p, v) => t.setIfInBounds p v) a.tmps, defers := [] } W)
    (hdone : ∀ (D : Nat) (W : World), w.heap.size ≤ D → I xs W → W.heap[D]? = some (.deferred (some [])) → Q .normal { a with defers := { target := .collected D, args := #[] } :: a.defers } W)
    (hstop : ∀ (D : Nat) (c : Code) (pre : List α) (W : World), w.heap.size ≤ D → pre <+: xs → Ix c pre W → W.heap[D]? = some (.deferred (some [])) → c.wp P Q { a with defers := { target := .collected D, args := #[] } :: a.defers } W) :
    (Code.rangeFunc g ps assign body).wp P Q a w :=
  wpIn_wide.1 (rangeFuncX hg eg hseq hX hR hb0 hps I Ix hI hIx h0 hround hdone (fun D c pre W h1 h2 h3 h4 => wpIn_wide.2 (hstop D c pre W h1 h2 h3 h4)))

end Go.Proofs.YtandbobinjhehaaDoor.Hand

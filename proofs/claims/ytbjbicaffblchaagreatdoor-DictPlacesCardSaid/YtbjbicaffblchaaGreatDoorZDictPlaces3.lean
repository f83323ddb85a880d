import Derived.Test.YtbjbicaffblchaaGreatDoorZDictPlaces2
import Derived.ArgAppend
import Derived.Below
import Derived.BigQuiet
import Derived.Carry
import Derived.ChangeArms
import Derived.ChangeSlices
import Derived.Deep.AppendLies
import Derived.Deep.CutBlock
import Derived.Deep.DeepCutAuto
import Derived.Deep.DeepHandedRow
import Derived.Deep.DeepWitnessRowRef
import Derived.Deep.Draws
import Derived.Deep.LoopGhost
import Derived.Deep.OwnRows
import Derived.Deep.QuietTactic
import Derived.Deep.RegionHeld3
import Derived.Deep.RegionLaw
import Derived.KernelRfl
import Derived.LaidMore
import Derived.Laws.BitsLemmas
import Derived.Laws.BytesArg
import Derived.Laws.IdiomCopy
import Derived.Laws.MakeOwn
import Derived.Laws.OwnMore
import Derived.Laws.ResultCell
import Derived.Laws.Rows
import Derived.Laws.Slices
import Derived.Lib.AppendStr
import Derived.Lib.ConvBytes
import Derived.Lib.LaidTab
import Derived.Lib.SmallJoins
import Derived.LoopIn
import Derived.LoopNIn
import Derived.MakeChecks
import Derived.Maps.AppendAt
import Derived.Maps.OwnIn
import Derived.Maps.OwnSet
import Derived.OpenShut
import Derived.OrdersHeld
import Derived.Outline
import Derived.OwnWalk
import Derived.OwnWalkIn
import Derived.ProofKit
import Derived.RangeFuncBound
import Derived.RangeFuncCalls
import Derived.RangeFuncLeaves
import Derived.RangeFuncNested
import Derived.RowKit
import Derived.RowKit3
import Derived.ScopeJumps
import Derived.Shelf.Abstract
import Derived.Stop.LaidErr
import Derived.Tactics
import Derived.TacticsInMore
import Derived.Test.YtbjbicaffblchaaGreatDoorCards
import Derived.Test.YtbjbicaffblchaaGreatDoorProg
import Derived.Test.YtbjbicaffblchaaGreatDoorTie
import Derived.WalkKit
import Derived.WalkMore
import Derived.WideLaws
section
namespace Go.Proofs.YtbjbicaffblchaaGreatDoor.Hand
open Go.RowKit
structure KeptX (X : Nat → Prop) (B0 : Nat) (A B : World) : Prop where
  os : B.os = A.os
  tape : B.tape = A.tape
  output : B.output = A.output
  size : A.heap.size ≤ B.heap.size
  block : ∀ k o, A.heap[k]? = some o → ¬ X k → (k < B0 ∨ o.isCells = true) → B.heap[k]? = some o
structure KeptA (X : Nat → Prop) (A B : World) : Prop where
  os : B.os = A.os
  tape : B.tape = A.tape
  output : B.output = A.output
  size : A.heap.size ≤ B.heap.size
  block : ∀ k o, A.heap[k]? = some o → ¬ X k → B.heap[k]? = some o
theorem KeptA.kx {X : Nat → Prop} {A B : World} (h : KeptA X A B) (B0 : Nat) : KeptX X B0 A B := ⟨h.os, h.tape, h.output, h.size, fun k o hk hx _ => h.block k o hk hx⟩
theorem KeptA.refl (X : Nat → Prop) (A : World) : KeptA X A A := ⟨rfl, rfl, rfl, Nat.le_refl _, fun _ _ h _ => h⟩
theorem KeptA.trans {X : Nat → Prop} {A B C : World} (h : KeptA X A B) (k : KeptA X B C) : KeptA X A C := ⟨k.os.trans h.os, k.tape.trans h.tape, k.output.trans h.output, Nat.le_trans h.size k.size, fun i o hi hx => k.block i o (h.block i o hi hx) hx⟩
theorem KeptA.of_below {X : Nat → Prop} {A B : World} (h : Below A.heap.size A B) : KeptA X A B := ⟨h.os, h.tape, h.output, h.size, fun k o hk _ => by rw [h.block k (Array.getElem?_eq_some_iff.1 hk).1]; exact hk⟩
theorem KeptA.setCell {X : Nat → Prop} {A B : World} (h : KeptA X A B) {p : Addr} (hp : X p.block) (v : Value) : KeptA X A (B.setCell p v) :=
  h.trans ⟨rfl, rfl, rfl, by simp [World.setCell], fun k o hk hx => by rw [Below.heap_setCell B p v k (fun e => hx (by rw [e]; exact hp))]; exact hk⟩
theorem KeptX.below {X : Nat → Prop} {B0 n : Nat} {W0 A B : World} (h : KeptX X B0 A B) (hb : Below n W0 A) (h0 : n ≤ B0) (h1 : n ≤ W0.heap.size) (hx : ∀ k, k < n → ¬ X k) : Below n W0 B :=
  ⟨h.os.trans hb.os, h.tape.trans hb.tape, h.output.trans hb.output, Nat.le_trans hb.size h.size, fun k hk => by
    have hlt : k < W0.heap.size := by omega
    have e : W0.heap[k]? = some W0.heap[k] := Array.getElem?_eq_getElem hlt
    have e2 := (hb.block k hk).trans e
    rw [h.block k _ e2 (hx k hk) (.inl (by omega)), e]⟩
theorem KeptX.blk {X : Nat → Prop} {B0 : Nat} {A B : World} (h : KeptX X B0 A B) {k : Nat} {c : Array Value} {t : TypeId} {fr : Nat × Nat} (hk : A.heap[k]? = some (.cells c t fr)) (hx : ¬ X k) : B.heap[k]? = some (.cells c t fr) := h.block k _ hk hx (.inr rfl)
theorem KeptX.obj {X : Nat → Prop} {B0 : Nat} {A B : World} (h : KeptX X B0 A B) {k : Nat} {o : Obj} (hk : A.heap[k]? = some o) (hx : ¬ X k) (h0 : k < B0) : B.heap[k]? = some o := h.block k _ hk hx (.inl h0)
def SameX (X : Nat → Prop) (A B : World) : Prop := ∀ k, X k → B.heap[k]? = A.heap[k]?
theorem SameX.trans {X : Nat → Prop} {A B C : World} (h : SameX X A B) (h2 : SameX X B C) : SameX X A C := fun i hi => (h2 i hi).trans (h i hi)
theorem SameX.putObj {X : Nat → Prop} (W : World) {l : Nat} (o : Obj) (h : ¬ X l) : SameX X W (W.putObj l o) := fun _ hk => World.putObj_heap_other (fun e => h (e ▸ hk))
def IterX {α : Type} (P : Program) (gf : Nat) (lb : Array Value) (encs : α → Array Value) (X R : Nat → Prop) (xs : List α) (w0 : World) : Prop :=
  ∀ (l : Nat) (J Jx : List α → World → Prop) (W : World), Below w0.heap.size w0 W → (∀ s A B, J s A → KeptA X A B → J s B) → (∀ s A B, Jx s A → KeptA X A B → Jx s B) →
    (∀ pre x W1, J pre W1 → (pre ++ [x]) <+: xs → YieldAt Fence.wide 9 P l (encs x) W1 fun e W' =>
      (e = .returned (.bool true) ∧ J (pre ++ [x]) W' ∧ SameX R W1 W' ∧ KeepsFrom W.heap.size W1 W') ∨ (e = .returned (.bool false) ∧ Jx (pre ++ [x]) W')) →
    J [] W →
    CallsIn Fence.wide 10 P gf (#[.func (.yield l) #[] #[]] ++ lb) W fun e W' => (∃ v, e = .returned v) ∧ (J xs W' ∨ ∃ pre, pre <+: xs ∧ Jx pre W')
def postX {α : Type} (B : Nat) (R : Nat → Prop) (I : List α → World → Prop) (Ix : Code → List α → World → Prop) (xs : List α) (W : World) : Exit → Act → World → Prop
  | .normal, _, W' => KeepsFrom B W W' ∧ SameX R W W' ∧ I xs W'
  | .ret, _, W' => KeepsFrom B W W' ∧ Ix .ret xs W'
  | .exit id, _, W' => KeepsFrom B W W' ∧ Ix (.exit id) xs W'
  | .goto t, _, W' => KeepsFrom B W W' ∧ Ix (.goto t) xs W'
  | .panic _, _, _ => False
  | .outgrown, _, _ => False
theorem keptX_putObj {X : Nat → Prop} {B0 l : Nat} {W : World} {o : Obj} (o' : Obj) (hB : B0 ≤ l) (hl : W.heap[l]? = some o) (ho : o.isCells = false) : KeptX X B0 W (W.putObj l o') :=
  ⟨rfl, rfl, rfl, by simp, fun k oo hk _ hh => by
    have hne : k ≠ l := by
      rintro rfl
      rcases hh with hh | hh
      · omega
      · rw [hl] at hk; cases hk; rw [ho] at hh; cases hh
    rw [World.putObj_heap_other hne]; exact hk⟩
theorem kf_up {B B' : Nat} {W W' : World} (h : KeepsFrom B W W') (hB : B ≤ B') : KeepsFrom B' W W' := ⟨h.size, fun k o hk ho hc => h.same k o (by omega) ho hc⟩
theorem keepsFrom_putObj {B l : Nat} {W : World} (o : Obj) (h : l < B) : KeepsFrom B W (W.putObj l o) := ⟨by simp, fun k o' hk ho _ => by rw [World.putObj_heap_other (by omega)]; exact ho⟩
theorem rangeFuncX {P : Program} {α : Type} {g : Operand} {ps : Array Tmp} {assign body : Code} {Q : Exit → Act → World → Prop} {a : Act} {w : World}
    {gf : Nat} {lb : Array Value} (hg : a.eval g = .func (.func gf) #[] lb) (eg : ∀ args w, (callFunc gf args).run P w = .ok (.enter gf args) w)
    {encs : α → Array Value} {X R : Nat → Prop} {xs : List α} {w0 : World} (hseq : IterX P gf lb encs X R xs w0) (hX : ∀ k, X k → k < w.heap.size) (hR : ∀ k, R k → k < w.heap.size)
    (hb0 : Below w0.heap.size w0 w) (hps : ∀ x, (encs x).size = ps.size)
    (I : List α → World → Prop) (Ix : Code → List α → World → Prop) (hI : ∀ s A B, I s A → KeptX X w.heap.size A B → I s B) (hIx : ∀ c s A B, Ix c s A → KeptX X w.heap.size A B → Ix c s B) (h0 : I [] w)
    (hround : ∀ (l : Nat) (pre : List α) (x : α) (W : World) (K : Act → World → Prop), w.heap.size ≤ l → (∃ r, W.heap[l]? = some (.loop r)) → I pre W → (pre ++ [x]) <+: xs →
      (∀ a' W', KeepsFrom w.heap.size W W' → SameX R W W' → (∀ W1, KeptX X w.heap.size W' W1 → (∃ r, W1.heap[l]? = some (.loop r)) → w.heap.size ≤ W1.heap.size → body.wpIn (Fence.wide.inRound l) 9 P (postX w.heap.size R I Ix (pre ++ [x]) W1) a' W1) → K a' W') →
      assign.wpIn (Fence.wide.inRound l) 9 P (Exit.then K (fun _ _ _ => False)) { tmps := (ps.zip (encs x)).foldl (fun t (p, v) => t.setIfInBounds p v) a.tmps, defers := [] } W)
    (hdone : ∀ (D : Nat) (W : World), w.heap.size ≤ D → I xs W → W.heap[D]? = some (.deferred (some [])) → Q .normal { a with defers := { target := .collected D, args := #[] } :: a.defers } W)
    (hstop : ∀ (D : Nat) (c : Code) (pre : List α) (W : World), w.heap.size ≤ D → pre <+: xs → Ix c pre W → W.heap[D]? = some (.deferred (some [])) → c.wpIn Fence.wide 11 P Q { a with defers := { target := .collected D, args := #[] } :: a.defers } W) :
    (Code.rangeFunc g ps assign body).wpIn Fence.wide 11 P Q a w := by
  refine wpIn_rangeFunc ?_
  intro fn hfn
  rw [show Fence.wide.round = none from rfl]
  obtain ⟨rec, hrec⟩ : ∃ rec : LoopState → Option Code → Loop, rec = fun st pe => { state := st, pending := pe, fn, tmps := a.tmps, params := ps, assign, body, defers := w.heap.size } := ⟨_, rfl⟩
  obtain ⟨W1, hW1⟩ : ∃ W1, (w.alloc (.deferred (some []))).alloc (.loop (rec .ready none)) = W1 := ⟨_, rfl⟩
  have hL1 : W1.heap[w.heap.size + 1]? = some (.loop (rec .ready none)) := by
    rw [← hW1]; have := World.alloc_heap_new (w.alloc (.deferred (some []))) (.loop (rec .ready none)); rwa [World.size_alloc] at this
  have hK1 : W1.heap[w.heap.size]? = some (.deferred (some [])) := by
    rw [← hW1]; exact (Below.heap_alloc _ _ _ (by simp)).trans (World.alloc_heap_new w _)
  have hbW : Below w.heap.size w W1 := by rw [← hW1]; exact ((Below.refl _ w).alloc (Nat.le_refl _) _).alloc (by simp) _
  have hI1 : I [] W1 := hI _ _ _ h0 ((KeptA.of_below hbW).kx _)
  have hb1 : Below w0.heap.size w0 W1 := hb0.trans (hbW.mono hb0.size)
  have hnX : ¬ X w.heap.size := fun h => by have := hX _ h; omega
  have hnX1 : ¬ X (w.heap.size + 1) := fun h => by have := hX _ h; omega
  have hnR1 : ¬ R (w.heap.size + 1) := fun h => by have := hR _ h; omega
  refine ⟨w.heap.size + 1, [{ target := .collected w.heap.size, args := #[] }], W1, { target := .fn (.func gf) lb, args := #[.func (.yield (w.heap.size + 1)) #[] #[]] }, W1, gf,
    #[.func (.yield (w.heap.size + 1)) #[] #[]] ++ lb, W1, ?_, ?_, ?_, ?_, fun _ => by decide, ?_⟩
  · rw [← hW1, hrec]; exact run_enterLoop_outer _ _ _ _ _
  · simp only [resolve, hg]
    simp [go_sem]
  · intro f' hf'; exact trivial
  · simp [invoke, go_sem, eg]
  · refine (hseq (w.heap.size + 1)
      (fun pre W => I pre W ∧ W.heap[w.heap.size + 1]? = some (.loop (rec .ready none)) ∧ W.heap[w.heap.size]? = some (.deferred (some [])))
      (fun pre W => ∃ c, Ix c pre W ∧ W.heap[w.heap.size + 1]? = some (.loop (rec .done (some c))) ∧ W.heap[w.heap.size]? = some (.deferred (some [])))
      W1 hb1
      (fun s A B hs hk => ⟨hI s A B hs.1 (hk.kx _), hk.block _ _ hs.2.1 hnX1, hk.block _ _ hs.2.2 hnX⟩)
      (fun s A B hs hk => by
        obtain ⟨c, hc, hl, hd⟩ := hs
        exact ⟨c, hIx c s A B hc (hk.kx _), hk.block _ _ hl hnX1, hk.block _ _ hd hnX⟩)
      ?_ ⟨hI1, hL1, hK1⟩).mono ?_
    · have hsz1 : w.heap.size ≤ W1.heap.size := hbW.size
      have hsz2 : w.heap.size + 1 < W1.heap.size := (Array.getElem?_eq_some_iff.1 hL1).1
      rintro pre x W ⟨hi, hl, hk⟩ hpre
      have hlt : w.heap.size + 1 < W.heap.size := (Array.getElem?_eq_some_iff.1 hl).1
      have hy := run_yield (P := P) (args := encs x) hl (by rw [hrec]; exact hps x)
      rw [hrec] at hy
      refine ⟨fn, _, assign, body, hy, roundIn_of_wpIn hfn (hround _ pre x W _ (by omega) ⟨_, hl⟩ hi hpre ?_)⟩
      clear hy
      intro a' Wa hkfa hkpa hbody
      replace hl := hkfa.same _ _ (by omega) hl rfl
      replace hk := hkfa.same _ _ (Nat.le_refl _) hk rfl
      replace hlt : w.heap.size + 1 < Wa.heap.size := (Array.getElem?_eq_some_iff.1 hl).1
      refine ⟨_, run_beginRound hl (by rw [hrec]), ?_⟩
      have hl2 : (Wa.putObj (w.heap.size + 1) (.loop { rec .ready none with state := .busy })).heap[w.heap.size + 1]? = some (.loop { rec .ready none with state := .busy }) := World.putObj_heap_same hlt
      have hk2 : (Wa.putObj (w.heap.size + 1) (.loop { rec .ready none with state := .busy })).heap[w.heap.size]? = some (.deferred (some [])) := (World.putObj_heap_other (by omega)).trans hk
      have hw2 : SameX R Wa (Wa.putObj (w.heap.size + 1) (.loop { rec .ready none with state := .busy })) := SameX.putObj _ _ hnR1
      refine wpIn_mono (hbody _ (keptX_putObj _ (by omega) hl rfl) ⟨_, hl2⟩ (by simp; omega)) ?_
      have fin : ∀ (jump : Option Code) (W3 : World), KeepsFrom w.heap.size (Wa.putObj (w.heap.size + 1) (.loop { rec .ready none with state := .busy })) W3 →
          (Instr.endRound (w.heap.size + 1) jump).run P W3 = .ok (.bool jump.isNone) (W3.putObj (w.heap.size + 1) (.loop (rec (if jump.isNone then .ready else .done) jump))) ∧
          W3.heap[w.heap.size + 1]? = some (.loop { rec .ready none with state := .busy }) ∧
          (W3.putObj (w.heap.size + 1) (.loop (rec (if jump.isNone then .ready else .done) jump))).heap[w.heap.size + 1]? = some (.loop (rec (if jump.isNone then .ready else .done) jump)) ∧
          (W3.putObj (w.heap.size + 1) (.loop (rec (if jump.isNone then .ready else .done) jump))).heap[w.heap.size]? = some (.deferred (some [])) := fun jump W3 hk3 => by
        have hl3 := hk3.same _ _ (by omega) hl2 rfl
        have := run_endRound (P := P) jump hl3
        rw [hrec] at this ⊢
        exact ⟨this, by rw [hrec] at hl3; exact hl3, World.putObj_heap_same (Array.getElem?_eq_some_iff.1 hl3).1, (World.putObj_heap_other (by omega)).trans (hk3.same _ _ (Nat.le_refl _) hk2 rfl)⟩
      rintro e a3 W3 hp
      cases e with
      | normal =>
        obtain ⟨hk3, hkp3, hi3⟩ := hp
        obtain ⟨hr, hl3, hl4, hk4⟩ := fin none W3 hk3
        exact ⟨_, _, hr, .inl ⟨rfl, ⟨hI _ _ _ hi3 (keptX_putObj _ (by omega) hl3 rfl), hl4, hk4⟩, hkpa.trans ((hw2.trans hkp3).trans (SameX.putObj _ _ hnR1)), (kf_up hkfa hsz1).trans (((keepsFrom_putObj _ (by omega)).trans (kf_up hk3 hsz1)).trans (keepsFrom_putObj _ (by omega)))⟩⟩
      | ret =>
        obtain ⟨hk3, hi3⟩ := hp
        obtain ⟨hr, hl3, hl4, hk4⟩ := fin (some .ret) W3 hk3
        exact ⟨_, _, hr, .inr ⟨rfl, .ret, hIx _ _ _ _ hi3 (keptX_putObj _ (by omega) hl3 rfl), hl4, hk4⟩⟩
      | exit id =>
        obtain ⟨hk3, hi3⟩ := hp
        obtain ⟨hr, hl3, hl4, hk4⟩ := fin (some (.exit id)) W3 hk3
        exact ⟨_, _, hr, .inr ⟨rfl, .exit id, hIx _ _ _ _ hi3 (keptX_putObj _ (by omega) hl3 rfl), hl4, hk4⟩⟩
      | goto t =>
        obtain ⟨hk3, hi3⟩ := hp
        obtain ⟨hr, hl3, hl4, hk4⟩ := fin (some (.goto t)) W3 hk3
        exact ⟨_, _, hr, .inr ⟨rfl, .goto t, hIx _ _ _ _ hi3 (keptX_putObj _ (by omega) hl3 rfl), hl4, hk4⟩⟩
      | panic ch => exact hp.elim
      | outgrown => exact hp.elim
    · rintro e W2 ⟨⟨v, rfl⟩, (⟨hi, hl, hk⟩ | ⟨pre, hSp, c, hi, hl, hk⟩)⟩
      · exact ⟨none, _, by have := run_endLoop (P := P) hl (by rw [hrec]; simp); rw [hrec] at this; exact this, hdone _ _ (Nat.le_refl _) (hI _ _ _ hi (keptX_putObj _ (by omega) hl rfl)) ((World.putObj_heap_other (by omega)).trans hk)⟩
      · exact ⟨some c, _, by have := run_endLoop (P := P) hl (by rw [hrec]; simp); rw [hrec] at this; exact this, hstop _ c pre _ (Nat.le_refl _) hSp (hIx _ _ _ _ hi (keptX_putObj _ (by omega) hl rfl)) ((World.putObj_heap_other (by omega)).trans hk)⟩
theorem rangeFuncW {P : Program} {α : Type} {g : Operand} {ps : Array Tmp} {assign body : Code} {Q : Exit → Act → World → Prop} {a : Act} {w : World}
    {gf : Nat} {lb : Array Value} (hg : a.eval g = .func (.func gf) #[] lb) (eg : ∀ args w, (callFunc gf args).run P w = .ok (.enter gf args) w)
    {encs : α → Array Value} {X R : Nat → Prop} {xs : List α} {w0 : World} (hseq : IterX P gf lb encs X R xs w0) (hX : ∀ k, X k → k < w.heap.size) (hR : ∀ k, R k → k < w.heap.size)
    (hb0 : Below w0.heap.size w0 w) (hps : ∀ x, (encs x).size = ps.size)
    (I : List α → World → Prop) (Ix : Code → List α → World → Prop) (hI : ∀ s A B, I s A → KeptX X w.heap.size A B → I s B) (hIx : ∀ c s A B, Ix c s A → KeptX X w.heap.size A B → Ix c s B) (h0 : I [] w)
    (hround : ∀ (l : Nat) (pre : List α) (x : α) (W : World) (K : Act → World → Prop), w.heap.size ≤ l → (∃ r, W.heap[l]? = some (.loop r)) → I pre W → (pre ++ [x]) <+: xs →
      (∀ a' W', KeepsFrom w.heap.size W W' → SameX R W W' → (∀ W1, KeptX X w.heap.size W' W1 → (∃ r, W1.heap[l]? = some (.loop r)) → w.heap.size ≤ W1.heap.size → body.wpIn (Fence.wide.inRound l) 9 P (postX w.heap.size R I Ix (pre ++ [x]) W1) a' W1) → K a' W') →
      assign.wpIn (Fence.wide.inRound l) 9 P (Exit.then K (fun _ _ _ => False)) { tmps := (ps.zip (encs x)).foldl (fun t (p, v) => t.setIfInBounds p v) a.tmps, defers := [] } W)
    (hdone : ∀ (D : Nat) (W : World), w.heap.size ≤ D → I xs W → W.heap[D]? = some (.deferred (some [])) → Q .normal { a with defers := { target := .collected D, args := #[] } :: a.defers } W)
    (hstop : ∀ (D : Nat) (c : Code) (pre : List α) (W : World), w.heap.size ≤ D → pre <+: xs → Ix c pre W → W.heap[D]? = some (.deferred (some [])) → c.wp P Q { a with defers := { target := .collected D, args := #[] } :: a.defers } W) :
    (Code.rangeFunc g ps assign body).wp P Q a w :=
  wpIn_wide.1 (rangeFuncX hg eg hseq hX hR hb0 hps I Ix hI hIx h0 hround hdone (fun D c pre W h1 h2 h3 h4 => wpIn_wide.2 (hstop D c pre W h1 h2 h3 h4)))
end Go.Proofs.YtbjbicaffblchaaGreatDoor.Hand
end
section
namespace Go.Proofs.YtbjbicaffblchaaGreatDoor.Hand
open Go.RowKit Go.Proofs.YtbjbicaffblchaaGreatDoor.SA Go.Proofs.YtbjbicaffblchaaGreatDoor.SB
structure Eid where
  s : Int
  n : ByteArray
  v : ByteArray
  a : Int
  b : Int
def Eid.enc (x : Eid) : Value := .agg #[.int .i64 x.s, .string x.n, .string x.v, .int .i64 x.a, .int .i64 x.b]
def cands (word rest : ByteArray) (k : Nat) : List Eid :=
  (if 0 < k ∧ word.toList = [100, 116, 110] then [⟨0, ⟨#[]⟩, ⟨#[]⟩, 0, 0⟩] else []) ++ ((if 1 < k ∧ word.toList = [100, 116, 110] then [⟨1, (dtnParts rest).1, (dtnParts rest).2, 0, 0⟩] else []) ++
    (if 2 < k ∧ word.toList = [105, 112, 110] then [⟨2, ⟨#[]⟩, ⟨#[]⟩, (ipnParts rest).1, (ipnParts rest).2⟩] else []))
set_option maxRecDepth 100000 in
theorem readings_calls (word rest : ByteArray) (w : World) :
    Calls Tryz.prog 64 #[.string word, .string rest] w fun e w' =>
      e = .returned (.func (.func 72) #[] #[.pointer (some ⟨w.heap.size, 0, none⟩), .pointer (some ⟨w.heap.size + 1, 0, none⟩)]) ∧ (w.alloc (.cells #[.string word] 9)).alloc (.cells #[.string rest] 9) = w' := by
  go_enter Tryz.func64, Tryz.ntmps64
  go_wp2
  go_ret
  exact ⟨rfl, rfl⟩
attribute [local go_sem] Oper.semAt_some
theorem rounds_keep0 {word rest : ByteArray} {b1 b2 g : Nat} {wr w3 : World} (h1 : Hid (wr.heap[g]? = some (.map schs 3))) (h2 : Hid (wr.heap[b1]? = some (.cells #[.string word] 9))) (h3 : Hid (wr.heap[b2]? = some (.cells #[.string rest] 9))) (h4 : Hid (Laid wr)) (hb : Below wr.heap.size wr w3) :
    Hid (w3.heap[g]? = some (.map schs 3)) ∧ Hid (w3.heap[b1]? = some (.cells #[.string word] 9)) ∧ Hid (w3.heap[b2]? = some (.cells #[.string rest] 9)) ∧ Hid (Laid w3) := by
  have k : ∀ (j : Nat) (o : Obj), wr.heap[j]? = some o → w3.heap[j]? = some o := fun j o h => (hb.block _ (Array.getElem?_eq_some_iff.1 h).1).trans h
  exact ⟨k _ _ h1.out, k _ _ h2.out, k _ _ h3.out, h4.out.below hb⟩
theorem rounds_keep {word rest : ByteArray} {b1 b2 g : Nat} {wr w3 W' : World} (h1 : Hid (wr.heap[g]? = some (.map schs 3))) (h2 : Hid (wr.heap[b1]? = some (.cells #[.string word] 9))) (h3 : Hid (wr.heap[b2]? = some (.cells #[.string rest] 9))) (h4 : Hid (Laid wr)) (hb : Below wr.heap.size wr w3)
    (hs : SameX (fun k => k = b1 ∨ k = b2 ∨ k < NG) w3 W') (hk : KeepsFrom g w3 W') :
    Hid (W'.heap[g]? = some (.map schs 3)) ∧ Hid (W'.heap[b1]? = some (.cells #[.string word] 9)) ∧ Hid (W'.heap[b2]? = some (.cells #[.string rest] 9)) ∧ Hid (Laid W') := by
  obtain ⟨a1, a2, a3, a4⟩ := rounds_keep0 h1 h2 h3 h4 hb
  exact ⟨hk.same _ _ (Nat.le_refl _) a1.out rfl, (hs _ (.inl rfl)).trans a2.out, (hs _ (.inr (.inl rfl))).trans a3.out, a4.out.same fun k hk => hs _ (.inr (.inr hk))⟩
set_option maxRecDepth 100000 in
set_option maxHeartbeats 4000000 in
theorem readings_iter (word rest : ByteArray) (b1 b2 : Nat) (w0 : World) (hL : Laid w0) (hr : rest.size < 4294967281) (h1 : w0.heap[b1]? = some (.cells #[.string word] 9)) (h2 : w0.heap[b2]? = some (.cells #[.string rest] 9)) (h3 : 6 < w0.heap.size) :
    IterX Tryz.prog 72 #[.pointer (some ⟨b1, 0, none⟩), .pointer (some ⟨b2, 0, none⟩)] (fun x => #[Eid.enc x]) (fun _ => False) (fun k => k = b1 ∨ k = b2 ∨ k < NG) (cands word rest 3) w0 := by
  intro l J Jx W hW hJ hJx hY h0
  have hlt1 : b1 < w0.heap.size := (Array.getElem?_eq_some_iff.1 h1).1
  have hlt2 : b2 < w0.heap.size := (Array.getElem?_eq_some_iff.1 h2).1
  have hLW := hL.below hW
  have hbW1 := (hW.block _ hlt1).trans h1
  have hbW2 := (hW.block _ hlt2).trans h2
  have hsW : 6 < W.heap.size := Nat.lt_of_lt_of_le h3 hW.size
  have HJ := Lib.hid hJ
  have HJx := Lib.hid hJx
  have HY := Lib.hid hY
  have HLW := Lib.hid hLW
  have HB1 := Lib.hid hbW1
  have HB2 := Lib.hid hbW2
  have H0 := Lib.hid h0
  clear hL h1 h2 hW hJ hJx hY hLW hbW1 hbW2 h0 hlt1 hlt2 h3
  refine (callsIn_wide (n := 10)).2 ?_
  simp only [List.append_toArray, List.cons_append, List.nil_append]
  go_enter Tryz.func72, Tryz.ntmps72
  go_wp2
  go_step3
  go_wp2_with (go_at_call 37; refine (schemes_calls _).mono ?_; rintro e w' ⟨rfl, rfl⟩)
  go_step3
  go_wp2_with (fail)
  obtain ⟨w1, hw1⟩ : ∃ w1, w1 = W.alloc (.map schs 3) := ⟨_, rfl⟩
  have hb : Below W.heap.size W w1 := by rw [hw1]; exact b_alloc (Below.refl _ _) _
  have hm : w1.heap[W.heap.size]? = some (.map schs 3) := by rw [hw1]; exact World.alloc_heap_new _ _
  rw [← hw1]
  clear hw1
  have HJ1 := Lib.hid (HJ.out _ _ _ H0.out (KeptA.of_below hb))
  have HL1 := Lib.hid (HLW.out.below hb)
  have hb1' := (hb.block _ (Array.getElem?_eq_some_iff.1 HB1.out).1).trans HB1.out
  have hb2' := (hb.block _ (Array.getElem?_eq_some_iff.1 HB2.out).1).trans HB2.out
  have HM := Lib.hid hm
  have HB1' := Lib.hid hb1'
  have HB2' := Lib.hid hb2'
  clear hb hm hb1' hb2' H0
  go_loopw [9] (fun i wr => ∃ k : Nat, k ≤ 3 ∧ i = .int .i64 k ∧ Hid (J (cands word rest k) wr) ∧ Hid (wr.heap[W.heap.size]? = some (.map schs 3)) ∧ Hid (wr.heap[b1]? = some (.cells #[.string word] 9)) ∧ Hid (wr.heap[b2]? = some (.cells #[.string rest] 9)) ∧ Hid (Laid wr)) (fun i _ => 3 - (intOf i).toNat)
  case atStart => exact ⟨0, by omega, rfl, HJ1, HM, HB1', HB2', HL1⟩
  case round =>
    obtain ⟨k, hk, rfl, HJr, HMr, HBr1, HBr2, HLr⟩ := hrel
    clear HB1 HB2 HJ1 HM HB1' HB2' HL1 HLW
    have hm1 : b1 < wr.heap.size := (Array.getElem?_eq_some_iff.1 HBr1.out).1
    have hm2 : b2 < wr.heap.size := (Array.getElem?_eq_some_iff.1 HBr2.out).1
    have q1 : wr.cell? ⟨b1, 0, none⟩ = some (.string word) := (cell_blk HBr1.out 0).trans rfl
    have q2 : wr.cell? ⟨b2, 0, none⟩ = some (.string rest) := (cell_blk HBr2.out 0).trans rfl
    rcases (show k = 0 ∨ k = 1 ∨ k = 2 ∨ k = 3 by omega) with rfl | rfl | rfl | rfl
    · have hl := look_some (n := 0) (wd := wDtn) (by rw [schAt, if_pos rfl]; rfl) false wr W.heap.size HMr.out
      simp only [schOf, Bool.false_eq_true, if_false] at hl
      by_cases hw : word.toList = [100, 116, 110]
      · have t1 : ([100, 116, 110] == word.toList) = true := by rw [hw]; decide
        have t2 : ([100, 116, 110] != word.toList) = false := by rw [hw]; decide
        have HP := Lib.hid (show cands word rest 0 ++ [⟨0, ⟨#[]⟩, ⟨#[]⟩, 0, 0⟩] <+: cands word rest 3 by simp [cands, hw])
        have HN := Lib.hid (show cands word rest 0 ++ [⟨0, ⟨#[]⟩, ⟨#[]⟩, 0, 0⟩] = cands word rest 1 by simp [cands, hw])
        clear hw
        unfold wDtn at hl
        go_wp2_with (fail)
        have hbb0 : Below wr.heap.size wr ((wr.alloc (.cells #[.string ⟨#[100, 116, 110]⟩, .func (.func 50) #[] #[], .func (.func 51) #[] #[], .func (.func 52) #[] #[]] 77)).alloc (.cells #[.int .i64 0, .string ⟨#[]⟩, .string ⟨#[]⟩, .int .i64 0, .int .i64 0] 110)) := b_alloc (b_alloc (Below.refl _ _) _) _
        have hpb0 : ((wr.alloc (.cells #[.string ⟨#[100, 116, 110]⟩, .func (.func 50) #[] #[], .func (.func 51) #[] #[], .func (.func 52) #[] #[]] 77)).alloc (.cells #[.int .i64 0, .string ⟨#[]⟩, .string ⟨#[]⟩, .int .i64 0, .int .i64 0] 110)).heap[wr.heap.size + 1]? = some (.cells #[.int .i64 0, .string ⟨#[]⟩, .string ⟨#[]⟩, .int .i64 0, .int .i64 0] 110) := by
          have := World.alloc_heap_new (wr.alloc (.cells #[.string ⟨#[100, 116, 110]⟩, .func (.func 50) #[] #[], .func (.func 51) #[] #[], .func (.func 52) #[] #[]] 77)) (.cells #[.int .i64 0, .string ⟨#[]⟩, .string ⟨#[]⟩, .int .i64 0, .int .i64 0] 110)
          rwa [World.size_alloc] at this
        obtain ⟨w2, hw2⟩ : ∃ w2, w2 = ((wr.alloc (.cells #[.string ⟨#[100, 116, 110]⟩, .func (.func 50) #[] #[], .func (.func 51) #[] #[], .func (.func 52) #[] #[]] 77)).alloc (.cells #[.int .i64 0, .string ⟨#[]⟩, .string ⟨#[]⟩, .int .i64 0, .int .i64 0] 110)) := ⟨_, rfl⟩
        have hsz : w2.heap.size = wr.heap.size + 2 := by rw [hw2]; simp
        rw [← hw2] at hbb0 hpb0
        rw [← hw2]
        clear hw2
        have HPB := Lib.hid hpb0
        have HBB0 := Lib.hid hbb0
        have HL2 := Lib.hid (HLr.out.below hbb0)
        have hwr : 6 < wr.heap.size := by
          obtain ⟨_, _, ⟨_, _, h1⟩, ⟨_, _, h2⟩⟩ := HLr.out
          have := World.block_lt_of_cell? wr _ h2
          exact Nat.lt_of_le_of_lt (by decide) this
        refine (parse0_calls _ rest _).mono ?_
        rintro e w3 ⟨rfl, hb3⟩
        have hpb : w3.heap[wr.heap.size + 1]? = some (.cells #[.int .i64 0, .string ⟨#[]⟩, .string ⟨#[]⟩, .int .i64 0, .int .i64 0] 110) := (hb3.block _ (by rw [hsz]; omega)).trans HPB.out
        have hb3' : Below wr.heap.size wr w3 := HBB0.out.trans (hb3.mono (by rw [hsz]; omega))
        have p0 : w3.cell? ⟨wr.heap.size + 1, 0, none⟩ = some (.int .i64 0) := cell_blk hpb 0
        have p1 : w3.cell? ⟨wr.heap.size + 1, 1, none⟩ = some (.string ⟨#[]⟩) := cell_blk hpb 1
        have p2 : w3.cell? ⟨wr.heap.size + 1, 2, none⟩ = some (.string ⟨#[]⟩) := cell_blk hpb 2
        have p3 : w3.cell? ⟨wr.heap.size + 1, 3, none⟩ = some (.int .i64 0) := cell_blk hpb 3
        have p4 : w3.cell? ⟨wr.heap.size + 1, 4, none⟩ = some (.int .i64 0) := cell_blk hpb 4
        have HJ3 := Lib.hid (HJ.out _ _ _ HJr.out (KeptA.of_below hb3'))
        have HBB := Lib.hid hb3'
        obtain ⟨fn, tmps, assign, body, hy, hR⟩ := HY.out _ _ _ HJ3.out HP.out
        unfold Eid.enc at hy
        dsimp only at hy
        have HR := Lib.hid hR
        have hE1 : wr.heap.size ≤ w3.heap.size := hb3'.size
        have HS := Lib.hid hsz
        clear hb3 hpb hR hl q1 q2 t1 t2 hm1 hm2 hbb0 hpb0 hb3' hsz
        have HYY := Lib.hid hy
        clear hy
        go_upto_region 8 with (fail)
        refine (wpIn_wide (n := 10)).1 ?_
        have hy := HYY.out
        clear HYY
        gi_wp2
        refine HR.out.mono ?_
        rintro e W' (⟨rfl, hJ', hsame, hkf⟩ | ⟨rfl, hJx'⟩)
        · have HJ' := Lib.hid hJ'
          have HSame := Lib.hid hsame
          have HKF := Lib.hid hkf
          clear hJ' hsame hkf hy p0 p1 p2 p3 p4
          gi_wp2
          go_wp2
          go_roundw
          case rel => exact ⟨1, by omega, rfl, by rw [← HN.out]; exact HJ', rounds_keep HMr HBr1 HBr2 HLr HBB.out HSame.out HKF.out⟩
          case measure => simp [intOf]
        · have HJx' := Lib.hid hJx'
          clear hJx' hy p0 p1 p2 p3 p4
          gi_wp2
          go_wp2
          rw [show ∀ Q a w, Exit.noGoto Q .normal a w = Q .normal a w from fun _ _ _ => rfl]
          go_end0
          exact ⟨⟨_, rfl⟩, .inr ⟨_, HP.out, HJx'.out⟩⟩
      · have hne : ¬ [100, 116, 110] = word.toList := fun e => hw e.symm
        have t1 : ([100, 116, 110] == word.toList) = false := beq_eq_false_iff_ne.2 hne
        have t2 : ([100, 116, 110] != word.toList) = true := by rw [bne, t1]; rfl
        have HN := Lib.hid (show cands word rest 0 = cands word rest 1 by simp [cands, hw])
        unfold wDtn at hl
        clear hw hne
        go_wp2
        go_roundw
        case rel => exact ⟨1, by omega, rfl, by rw [← HN.out]; exact HJ.out _ _ _ HJr.out (KeptA.of_below (b_alloc (Below.refl _ _) _)), rounds_keep0 HMr HBr1 HBr2 HLr (b_alloc (Below.refl _ _) _)⟩
        case measure => simp [intOf]
    · have hl := look_some (n := 1) (wd := wDtn) (by rw [schAt, if_neg (by decide), if_pos rfl]; rfl) false wr W.heap.size HMr.out
      simp only [schOf, Bool.false_eq_true, if_false] at hl
      by_cases hw : word.toList = [100, 116, 110]
      · have t1 : ([100, 116, 110] == word.toList) = true := by rw [hw]; decide
        have t2 : ([100, 116, 110] != word.toList) = false := by rw [hw]; decide
        have HP := Lib.hid (show cands word rest 1 ++ [⟨1, (dtnParts rest).1, (dtnParts rest).2, 0, 0⟩] <+: cands word rest 3 by simp [cands, hw])
        have HN := Lib.hid (show cands word rest 1 ++ [⟨1, (dtnParts rest).1, (dtnParts rest).2, 0, 0⟩] = cands word rest 2 by simp [cands, hw])
        clear hw
        unfold wDtn at hl
        go_wp2_with (fail)
        have hbb0 : Below wr.heap.size wr ((wr.alloc (.cells #[.string ⟨#[100, 116, 110]⟩, .func (.func 53) #[] #[], .func (.func 54) #[] #[], .func (.func 55) #[] #[]] 77)).alloc (.cells #[.int .i64 1, .string ⟨#[]⟩, .string ⟨#[]⟩, .int .i64 0, .int .i64 0] 110)) := b_alloc (b_alloc (Below.refl _ _) _) _
        have hpb0 : ((wr.alloc (.cells #[.string ⟨#[100, 116, 110]⟩, .func (.func 53) #[] #[], .func (.func 54) #[] #[], .func (.func 55) #[] #[]] 77)).alloc (.cells #[.int .i64 1, .string ⟨#[]⟩, .string ⟨#[]⟩, .int .i64 0, .int .i64 0] 110)).heap[wr.heap.size + 1]? = some (.cells #[.int .i64 1, .string ⟨#[]⟩, .string ⟨#[]⟩, .int .i64 0, .int .i64 0] 110) := by
          have := World.alloc_heap_new (wr.alloc (.cells #[.string ⟨#[100, 116, 110]⟩, .func (.func 53) #[] #[], .func (.func 54) #[] #[], .func (.func 55) #[] #[]] 77)) (.cells #[.int .i64 1, .string ⟨#[]⟩, .string ⟨#[]⟩, .int .i64 0, .int .i64 0] 110)
          rwa [World.size_alloc] at this
        obtain ⟨w2, hw2⟩ : ∃ w2, w2 = ((wr.alloc (.cells #[.string ⟨#[100, 116, 110]⟩, .func (.func 53) #[] #[], .func (.func 54) #[] #[], .func (.func 55) #[] #[]] 77)).alloc (.cells #[.int .i64 1, .string ⟨#[]⟩, .string ⟨#[]⟩, .int .i64 0, .int .i64 0] 110)) := ⟨_, rfl⟩
        have hsz : w2.heap.size = wr.heap.size + 2 := by rw [hw2]; simp
        rw [← hw2] at hbb0 hpb0
        rw [← hw2]
        clear hw2
        have HPB := Lib.hid hpb0
        have HBB0 := Lib.hid hbb0
        have HL2 := Lib.hid (HLr.out.below hbb0)
        have hwr : 6 < wr.heap.size := by
          obtain ⟨_, _, ⟨_, _, h1⟩, ⟨_, _, h2⟩⟩ := HLr.out
          have := World.block_lt_of_cell? wr _ h2
          exact Nat.lt_of_le_of_lt (by decide) this
        refine (parse1_calls (wr.heap.size + 1) 1 ⟨#[]⟩ ⟨#[]⟩ 0 0 rest _ HL2.out hr HPB.out).mono ?_
        rintro e w3 ⟨rfl, hb3, hpb⟩
        have hb3' : Below wr.heap.size wr w3 := HBB0.out.trans (hb3.mono (by omega))
        have p0 : w3.cell? ⟨wr.heap.size + 1, 0, none⟩ = some (.int .i64 1) := cell_blk hpb 0
        have p1 : w3.cell? ⟨wr.heap.size + 1, 1, none⟩ = some (.string (dtnParts rest).1) := cell_blk hpb 1
        have p2 : w3.cell? ⟨wr.heap.size + 1, 2, none⟩ = some (.string (dtnParts rest).2) := cell_blk hpb 2
        have p3 : w3.cell? ⟨wr.heap.size + 1, 3, none⟩ = some (.int .i64 0) := cell_blk hpb 3
        have p4 : w3.cell? ⟨wr.heap.size + 1, 4, none⟩ = some (.int .i64 0) := cell_blk hpb 4
        have HJ3 := Lib.hid (HJ.out _ _ _ HJr.out (KeptA.of_below hb3'))
        have HBB := Lib.hid hb3'
        obtain ⟨fn, tmps, assign, body, hy, hR⟩ := HY.out _ _ _ HJ3.out HP.out
        unfold Eid.enc at hy
        dsimp only at hy
        have HR := Lib.hid hR
        have hE1 : wr.heap.size ≤ w3.heap.size := hb3'.size
        have HS := Lib.hid hsz
        clear hb3 hpb hR hl q1 q2 t1 t2 hm1 hm2 hbb0 hpb0 hb3' hsz
        have HYY := Lib.hid hy
        clear hy
        go_upto_region 8 with (fail)
        refine (wpIn_wide (n := 10)).1 ?_
        have hy := HYY.out
        clear HYY
        gi_wp2
        refine HR.out.mono ?_
        rintro e W' (⟨rfl, hJ', hsame, hkf⟩ | ⟨rfl, hJx'⟩)
        · have HJ' := Lib.hid hJ'
          have HSame := Lib.hid hsame
          have HKF := Lib.hid hkf
          clear hJ' hsame hkf hy p0 p1 p2 p3 p4
          gi_wp2
          go_wp2
          go_roundw
          case rel => exact ⟨2, by omega, rfl, by rw [← HN.out]; exact HJ', rounds_keep HMr HBr1 HBr2 HLr HBB.out HSame.out HKF.out⟩
          case measure => simp [intOf]
        · have HJx' := Lib.hid hJx'
          clear hJx' hy p0 p1 p2 p3 p4
          gi_wp2
          go_wp2
          rw [show ∀ Q a w, Exit.noGoto Q .normal a w = Q .normal a w from fun _ _ _ => rfl]
          go_end0
          exact ⟨⟨_, rfl⟩, .inr ⟨_, HP.out, HJx'.out⟩⟩
      · have hne : ¬ [100, 116, 110] = word.toList := fun e => hw e.symm
        have t1 : ([100, 116, 110] == word.toList) = false := beq_eq_false_iff_ne.2 hne
        have t2 : ([100, 116, 110] != word.toList) = true := by rw [bne, t1]; rfl
        have HN := Lib.hid (show cands word rest 1 = cands word rest 2 by simp [cands, hw])
        unfold wDtn at hl
        clear hw hne
        go_wp2
        go_roundw
        case rel => exact ⟨2, by omega, rfl, by rw [← HN.out]; exact HJ.out _ _ _ HJr.out (KeptA.of_below (b_alloc (Below.refl _ _) _)), rounds_keep0 HMr HBr1 HBr2 HLr (b_alloc (Below.refl _ _) _)⟩
        case measure => simp [intOf]
    · have hl := look_some (n := 2) (wd := wIpn) (by rw [schAt, if_neg (by decide), if_neg (by decide), if_pos rfl]; rfl) false wr W.heap.size HMr.out
      simp only [schOf, Bool.false_eq_true, if_false] at hl
      by_cases hw : word.toList = [105, 112, 110]
      · have t1 : ([105, 112, 110] == word.toList) = true := by rw [hw]; decide
        have t2 : ([105, 112, 110] != word.toList) = false := by rw [hw]; decide
        have HP := Lib.hid (show cands word rest 2 ++ [⟨2, ⟨#[]⟩, ⟨#[]⟩, (ipnParts rest).1, (ipnParts rest).2⟩] <+: cands word rest 3 by simp [cands, hw])
        have HN := Lib.hid (show cands word rest 2 ++ [⟨2, ⟨#[]⟩, ⟨#[]⟩, (ipnParts rest).1, (ipnParts rest).2⟩] = cands word rest 3 by simp [cands, hw])
        clear hw
        unfold wIpn at hl
        go_wp2_with (fail)
        have hbb0 : Below wr.heap.size wr ((wr.alloc (.cells #[.string ⟨#[105, 112, 110]⟩, .func (.func 56) #[] #[], .func (.func 57) #[] #[], .func (.func 59) #[] #[]] 77)).alloc (.cells #[.int .i64 2, .string ⟨#[]⟩, .string ⟨#[]⟩, .int .i64 0, .int .i64 0] 110)) := b_alloc (b_alloc (Below.refl _ _) _) _
        have hpb0 : ((wr.alloc (.cells #[.string ⟨#[105, 112, 110]⟩, .func (.func 56) #[] #[], .func (.func 57) #[] #[], .func (.func 59) #[] #[]] 77)).alloc (.cells #[.int .i64 2, .string ⟨#[]⟩, .string ⟨#[]⟩, .int .i64 0, .int .i64 0] 110)).heap[wr.heap.size + 1]? = some (.cells #[.int .i64 2, .string ⟨#[]⟩, .string ⟨#[]⟩, .int .i64 0, .int .i64 0] 110) := by
          have := World.alloc_heap_new (wr.alloc (.cells #[.string ⟨#[105, 112, 110]⟩, .func (.func 56) #[] #[], .func (.func 57) #[] #[], .func (.func 59) #[] #[]] 77)) (.cells #[.int .i64 2, .string ⟨#[]⟩, .string ⟨#[]⟩, .int .i64 0, .int .i64 0] 110)
          rwa [World.size_alloc] at this
        obtain ⟨w2, hw2⟩ : ∃ w2, w2 = ((wr.alloc (.cells #[.string ⟨#[105, 112, 110]⟩, .func (.func 56) #[] #[], .func (.func 57) #[] #[], .func (.func 59) #[] #[]] 77)).alloc (.cells #[.int .i64 2, .string ⟨#[]⟩, .string ⟨#[]⟩, .int .i64 0, .int .i64 0] 110)) := ⟨_, rfl⟩
        have hsz : w2.heap.size = wr.heap.size + 2 := by rw [hw2]; simp
        rw [← hw2] at hbb0 hpb0
        rw [← hw2]
        clear hw2
        have HPB := Lib.hid hpb0
        have HBB0 := Lib.hid hbb0
        have HL2 := Lib.hid (HLr.out.below hbb0)
        have hwr : 6 < wr.heap.size := by
          obtain ⟨_, _, ⟨_, _, h1⟩, ⟨_, _, h2⟩⟩ := HLr.out
          have := World.block_lt_of_cell? wr _ h2
          exact Nat.lt_of_le_of_lt (by decide) this
        refine (parse2_calls (wr.heap.size + 1) 2 ⟨#[]⟩ ⟨#[]⟩ 0 0 rest _ HL2.out hr HPB.out (by omega)).mono ?_
        rintro e w3 ⟨rfl, hb3, hpb⟩
        have hb3' : Below wr.heap.size wr w3 := HBB0.out.trans (hb3.mono (by omega))
        have p0 : w3.cell? ⟨wr.heap.size + 1, 0, none⟩ = some (.int .i64 2) := cell_blk hpb 0
        have p1 : w3.cell? ⟨wr.heap.size + 1, 1, none⟩ = some (.string ⟨#[]⟩) := cell_blk hpb 1
        have p2 : w3.cell? ⟨wr.heap.size + 1, 2, none⟩ = some (.string ⟨#[]⟩) := cell_blk hpb 2
        have p3 : w3.cell? ⟨wr.heap.size + 1, 3, none⟩ = some (.int .i64 (ipnParts rest).1) := cell_blk hpb 3
        have p4 : w3.cell? ⟨wr.heap.size + 1, 4, none⟩ = some (.int .i64 (ipnParts rest).2) := cell_blk hpb 4
        have HJ3 := Lib.hid (HJ.out _ _ _ HJr.out (KeptA.of_below hb3'))
        have HBB := Lib.hid hb3'
        obtain ⟨fn, tmps, assign, body, hy, hR⟩ := HY.out _ _ _ HJ3.out HP.out
        unfold Eid.enc at hy
        dsimp only at hy
        have HR := Lib.hid hR
        have hE1 : wr.heap.size ≤ w3.heap.size := hb3'.size
        have HS := Lib.hid hsz
        clear hb3 hpb hR hl q1 q2 t1 t2 hm1 hm2 hbb0 hpb0 hb3' hsz
        have HYY := Lib.hid hy
        clear hy
        go_upto_region 8 with (fail)
        refine (wpIn_wide (n := 10)).1 ?_
        have hy := HYY.out
        clear HYY
        gi_wp2
        refine HR.out.mono ?_
        rintro e W' (⟨rfl, hJ', hsame, hkf⟩ | ⟨rfl, hJx'⟩)
        · have HJ' := Lib.hid hJ'
          have HSame := Lib.hid hsame
          have HKF := Lib.hid hkf
          clear hJ' hsame hkf hy p0 p1 p2 p3 p4
          gi_wp2
          go_wp2
          go_roundw
          case rel => exact ⟨3, by omega, rfl, by rw [← HN.out]; exact HJ', rounds_keep HMr HBr1 HBr2 HLr HBB.out HSame.out HKF.out⟩
          case measure => simp [intOf]
        · have HJx' := Lib.hid hJx'
          clear hJx' hy p0 p1 p2 p3 p4
          gi_wp2
          go_wp2
          rw [show ∀ Q a w, Exit.noGoto Q .normal a w = Q .normal a w from fun _ _ _ => rfl]
          go_end0
          exact ⟨⟨_, rfl⟩, .inr ⟨_, HP.out, HJx'.out⟩⟩
      · have hne : ¬ [105, 112, 110] = word.toList := fun e => hw e.symm
        have t1 : ([105, 112, 110] == word.toList) = false := beq_eq_false_iff_ne.2 hne
        have t2 : ([105, 112, 110] != word.toList) = true := by rw [bne, t1]; rfl
        have HN := Lib.hid (show cands word rest 2 = cands word rest 3 by simp [cands, hw])
        unfold wIpn at hl
        clear hw hne
        go_wp2
        go_roundw
        case rel => exact ⟨3, by omega, rfl, by rw [← HN.out]; exact HJ.out _ _ _ HJr.out (KeptA.of_below (b_alloc (Below.refl _ _) _)), rounds_keep0 HMr HBr1 HBr2 HLr (b_alloc (Below.refl _ _) _)⟩
        case measure => simp [intOf]
    · go_wp2
      rw [show ∀ Q a w, Exit.noGoto Q .normal a w = Q .normal a w from fun _ _ _ => rfl]
      go_end0
      exact ⟨⟨_, rfl⟩, .inl HJr.out⟩
end Go.Proofs.YtbjbicaffblchaaGreatDoor.Hand
end
section
namespace Go.Proofs.YtbjbicaffblchaaGreatDoor.Hand
open Go.RowKit Go.Proofs.YtbjbicaffblchaaGreatDoor.SA Go.Proofs.YtbjbicaffblchaaGreatDoor.SB
def isHalf (word rest : ByteArray) (x : Eid) : Bool := (halvesS x.s x.n x.v x.a x.b).2.2 == 0 && ((halvesS x.s x.n x.v x.a x.b).1.toList == word.toList && (halvesS x.s x.n x.v x.a x.b).2.1.toList == rest.toList)
def zeroEid : Eid := ⟨0, ⟨#[]⟩, ⟨#[]⟩, 0, 0⟩
def joinS (word rest : ByteArray) : Option Eid := (cands word rest 3).find? (isHalf word rest)
def joinV : Option Eid → Value
  | some x => .tuple #[x.enc, .int .i64 0]
  | none => .tuple #[zeroEid.enc, .int .i64 60]
def eidCells (x : Eid) : Array Value := #[.int .i64 x.s, .string x.n, .string x.v, .int .i64 x.a, .int .i64 x.b]
attribute [local go_sem] Oper.semAt_some
theorem areAll3 (x y z : Bool) (g : Nat) (w : World) (h : w.heap[g]? = some (.cells #[.bool x, .bool y, .bool z] 4)) :
    Calls Tryz.prog 65 #[.slice (some ⟨g, 0, none⟩) 3 3] w fun e w' => e = .returned (.bool (x && (y && z))) ∧ Below w.heap.size w w' := by
  have hr : YtbjbicaffblchaaGreatDoorW.PrintWords.ReadsOf Value.bool false w (some ⟨g, 0, none⟩) 3 [x, y, z] := ⟨rfl, by decide, fun _ => ⟨_, rfl, fun j hj => by
    rw [YtbjbicaffblchaaGreatDoorW.PrintWords.add_plain, cell_blk h]
    rcases (show j = 0 ∨ j = 1 ∨ j = 2 by omega) with rfl | rfl | rfl <;> rfl⟩⟩
  have hc := YtbjbicaffblchaaGreatDoorW.PrintWords.Kd.C_of_reads (h1 := fun _ => rfl) hr
  refine (eid_areAll.calls 10 (some ⟨g, 0, none⟩) 3 [x, y, z] (x && (y && z)) w hc (Nat.le_refl _) ?_).mono fun _ _ h => ⟨h.1, h.2.below⟩
  rw [areAll_is _ _ (by simp) (by simp)]
  simp
theorem cands_size (word rest : ByteArray) (x : Eid) (h : x ∈ cands word rest 3) : x.n.size ≤ rest.size ∧ x.v.size ≤ rest.size := by
  have hp : (dtnParts rest).1.size ≤ rest.size ∧ (dtnParts rest).2.size ≤ rest.size := by
    unfold dtnParts
    have := cut_sizes (Lib.trimPrefix rest.data.toList [47, 47]) [47]
    have := trim_le rest
    simp only [txt_size]
    omega
  unfold cands at h
  simp only [List.mem_append] at h
  rcases h with h | h | h
  · split at h
    · simp only [List.mem_singleton] at h; subst h; exact ⟨Nat.zero_le _, Nat.zero_le _⟩
    · cases h
  · split at h
    · simp only [List.mem_singleton] at h; subst h; exact hp
    · cases h
  · split at h
    · simp only [List.mem_singleton] at h; subst h; exact ⟨Nat.zero_le _, Nat.zero_le _⟩
    · cases h
def joinFr (word rest : ByteArray) (w W : World) : Prop :=
  Below w.heap.size w W ∧ W.heap[w.heap.size]? = some (.cells #[.string word] 9) ∧ W.heap[w.heap.size + 1]? = some (.cells #[.string rest] 9) ∧ W.heap[w.heap.size + 2]? = some (.cells (eidCells zeroEid) 41) ∧ W.heap[w.heap.size + 3]? = some (.cells #[.int .i64 0] 28)
def joinTo (word rest : ByteArray) (w W : World) : Prop :=
  Below w.heap.size w W ∧ ∃ x, joinS word rest = some x ∧ W.heap[w.heap.size + 2]? = some (.cells (eidCells x) 41) ∧ W.heap[w.heap.size + 3]? = some (.cells #[.int .i64 0] 28)
theorem joinFr_keep {word rest : ByteArray} {w A B : World} {B0 : Nat} (h : joinFr word rest w A) (hk : KeptX (fun _ => False) B0 A B) (h0 : w.heap.size ≤ B0) : joinFr word rest w B :=
  ⟨hk.below h.1 h0 (Nat.le_refl _) (fun _ _ => id), hk.blk h.2.1 id, hk.blk h.2.2.1 id, hk.blk h.2.2.2.1 id, hk.blk h.2.2.2.2 id⟩
theorem joinTo_keep {word rest : ByteArray} {w A B : World} {B0 : Nat} (h : joinTo word rest w A) (hk : KeptX (fun _ => False) B0 A B) (h0 : w.heap.size ≤ B0) : joinTo word rest w B := by
  obtain ⟨hb, x, hj, h2, h3⟩ := h
  exact ⟨hk.below hb h0 (Nat.le_refl _) (fun _ _ => id), x, hj, hk.blk h2 id, hk.blk h3 id⟩
theorem joinFr_below {word rest : ByteArray} {w A B : World} (h : joinFr word rest w A) (hb : Below A.heap.size A B) : joinFr word rest w B := joinFr_keep (B0 := w.heap.size) h ((KeptA.of_below hb).kx _) (Nat.le_refl _)
theorem join_end (w W : World) (D : Nat) (x : Eid) (e : Int) (a : Act) (hd : a.defers = [{ target := .collected D, args := #[] }]) (h4 : a.tmps[4]? = some (.pointer (some ⟨w.heap.size + 1 + 1, 0, none⟩))) (h5 : a.tmps[5]? = some (.pointer (some ⟨w.heap.size + 1 + 1 + 1, 0, none⟩)))
    (h2 : W.heap[w.heap.size + 1 + 1]? = some (.cells (eidCells x) 41)) (h3 : W.heap[w.heap.size + 1 + 1 + 1]? = some (.cells #[.int .i64 e] 28)) (hD : W.heap[D]? = some (.deferred (some []))) (hDn : w.heap.size + 3 < D) (hb : Below w.heap.size w W) (v : Value) (hv : v = .tuple #[x.enc, .int .i64 e]) :
    bodyPostM Fence.wide 11 Tryz.prog Tryz.f45 (fun e w' => e = .returned v ∧ Below w.heap.size w w') .ret a W := by
  subst hv
  show LeavesInM Fence.wide 11 Tryz.prog Tryz.f45 a.tmps _ a.defers .returning W
  rw [hd]
  have hu := Tryz.underlying41
  have hb' : Below w.heap.size w (W.putObj D (.deferred none)) := hb.trans ⟨rfl, rfl, rfl, by simp, fun k hk => World.putObj_heap_other (by omega)⟩
  have g2 : (W.putObj D (.deferred none)).heap[w.heap.size + 1 + 1]? = some (.cells (eidCells x) 41) := (World.putObj_heap_other (by omega)).trans h2
  have g3 : (W.putObj D (.deferred none)).heap[w.heap.size + 1 + 1 + 1]? = some (.cells #[.int .i64 e] 28) := (World.putObj_heap_other (by omega)).trans h3
  refine ⟨by simp, .inl ⟨_, _, rfl, run_takeDeferred hD, ?_⟩⟩
  have c0 := cell_blk g2 0
  have c1 := cell_blk g2 1
  have c2 := cell_blk g2 2
  have c3 := cell_blk g2 3
  have c4 := cell_blk g2 4
  have d0 := cell_blk g3 0
  simp [eidCells] at c0 c1 c2 c3 c4 d0
  exact ⟨_, by simp [results, Tryz.f45, go_sem, Array.getD_eq_getD_getElem?, h4, h5, c0, c1, c2, c3, c4, d0, Eid.enc], rfl, hb'⟩
theorem set5 {W : World} {g : Nat} {t : TypeId} {y x : Eid} (h : W.heap[g]? = some (.cells (eidCells y) t)) :
    (((((W.setCell ⟨g, 0, none⟩ (.int .i64 x.s)).setCell ⟨g, 1, none⟩ (.string x.n)).setCell ⟨g, 2, none⟩ (.string x.v)).setCell ⟨g, 3, none⟩ (.int .i64 x.a)).setCell ⟨g, 4, none⟩ (.int .i64 x.b)).heap[g]? = some (.cells (eidCells x) t) :=
  YtbjbicaffblchaaGreatDoorW.PrintWords.blk_set (YtbjbicaffblchaaGreatDoorW.PrintWords.blk_set (YtbjbicaffblchaaGreatDoorW.PrintWords.blk_set (YtbjbicaffblchaaGreatDoorW.PrintWords.blk_set (YtbjbicaffblchaaGreatDoorW.PrintWords.blk_set h 0 _) 1 _) 2 _) 3 _) 4 _
theorem keepsOthers_below {A B : World} (h : Below A.heap.size A B) : KeepsOthers A B := ⟨h.size, fun _ _ hk _ => (h.block _ (Array.getElem?_eq_some_iff.1 hk).1).trans hk⟩
theorem keptR {n a b c k : Nat} (h1 : b = n + 6) (h2 : a = n + 4) (h3 : b ≤ c) (hk : k = a ∨ k = a + 1 ∨ k < NG) (h4 : 6 < n := by omega) : k < c := by
  rcases hk with rfl | rfl | hk
  · omega
  · omega
  · have : k < 6 + 1 := hk
    omega
theorem join_found {word rest : ByteArray} {pre : List Eid} {x : Eid} (hp : (pre ++ [x]) <+: cands word rest 3) (hn : ∀ z ∈ pre, isHalf word rest z = false) (hx : isHalf word rest x = true) : joinS word rest = some x := by
  obtain ⟨t, ht⟩ := hp
  unfold joinS
  rw [← ht, List.append_assoc, List.find?_append, List.find?_eq_none.2 (fun z hz => by rw [hn z hz]; decide)]
  simp [hx]
theorem alloc4 (w : World) (o0 o1 o2 o3 : Obj) : (((((w.alloc o0).alloc o1).alloc o2).alloc o3).heap.size = w.heap.size + 4) ∧ ((((w.alloc o0).alloc o1).alloc o2).alloc o3).heap[w.heap.size]? = some o0 ∧
    ((((w.alloc o0).alloc o1).alloc o2).alloc o3).heap[w.heap.size + 1]? = some o1 ∧ ((((w.alloc o0).alloc o1).alloc o2).alloc o3).heap[w.heap.size + 2]? = some o2 ∧ ((((w.alloc o0).alloc o1).alloc o2).alloc o3).heap[w.heap.size + 3]? = some o3 := by
  have h0 := World.alloc_heap_new w o0
  have h1 := World.alloc_heap_new (w.alloc o0) o1
  have h2 := World.alloc_heap_new ((w.alloc o0).alloc o1) o2
  have h3 := World.alloc_heap_new (((w.alloc o0).alloc o1).alloc o2) o3
  simp only [World.size_alloc] at h1 h2 h3
  refine ⟨by simp, ?_, ?_, ?_, h3⟩
  · exact YtbjbicaffblchaaGreatDoorW.PrintWords.blk_alloc (YtbjbicaffblchaaGreatDoorW.PrintWords.blk_alloc (YtbjbicaffblchaaGreatDoorW.PrintWords.blk_alloc h0 _) _) _
  · exact YtbjbicaffblchaaGreatDoorW.PrintWords.blk_alloc (YtbjbicaffblchaaGreatDoorW.PrintWords.blk_alloc h1 _) _
  · exact YtbjbicaffblchaaGreatDoorW.PrintWords.blk_alloc h2 _
theorem alloc2 (w : World) (o0 o1 : Obj) : (((w.alloc o0).alloc o1).heap.size = w.heap.size + 2) ∧ ((w.alloc o0).alloc o1).heap[w.heap.size]? = some o0 ∧ ((w.alloc o0).alloc o1).heap[w.heap.size + 1]? = some o1 := by
  have h0 := World.alloc_heap_new w o0
  have h1 := World.alloc_heap_new (w.alloc o0) o1
  simp only [World.size_alloc] at h1
  exact ⟨by simp, YtbjbicaffblchaaGreatDoorW.PrintWords.blk_alloc h0 _, h1⟩
set_option maxRecDepth 100000 in
set_option maxHeartbeats 4000000 in
theorem join_walk (word rest : ByteArray) (w : World) (hL : Laid w) (hr : rest.size < 4294967281) (h3 : 6 < w.heap.size) :
    Calls Tryz.prog 45 #[.string word, .string rest] w fun e w' =>
      e = .returned (joinV (joinS word rest)) ∧ Below w.heap.size w w' := by
  have hu := Tryz.underlying41
  have HL := Lib.hid hL
  clear hL
  refine (callsIn_wide (n := 11)).1 (callsIn_of_wp_marks Tryz.func45 rfl trivial (wpIn_wide.2 ?_) rfl)
  simp only [Tryz.ntmps45, List.size_toArray, List.length_cons, List.length_nil, Nat.reduceAdd, Nat.reduceSub, Array.replicate_succ, Array.replicate_zero, List.push_toArray, List.append_toArray, List.nil_append, List.cons_append]
  go_wp2_with (fail)
  obtain ⟨w1, hw1⟩ : ∃ w1, w1 = (((w.alloc (.cells #[.string word] 9)).alloc (.cells #[.string rest] 9)).alloc (.cells #[.int .i64 0, .string ⟨#[]⟩, .string ⟨#[]⟩, .int .i64 0, .int .i64 0] 41)).alloc (.cells #[.int .i64 0] 28) := ⟨_, rfl⟩
  have hb1 : Below w.heap.size w w1 := by rw [hw1]; exact b_alloc (b_alloc (b_alloc (b_alloc (Below.refl _ _) _) _) _) _
  obtain ⟨hs1, hz0, hz1, hz2, hz3⟩ := alloc4 w (.cells #[.string word] 9) (.cells #[.string rest] 9) (.cells #[.int .i64 0, .string ⟨#[]⟩, .string ⟨#[]⟩, .int .i64 0, .int .i64 0] 41) (.cells #[.int .i64 0] 28)
  rw [← hw1] at hs1 hz0 hz1 hz2 hz3
  rw [← hw1]
  clear hw1
  refine (readings_calls word rest w1).mono ?_
  rintro e w2' ⟨rfl, hw2⟩
  obtain ⟨hs2, hy0, hy1⟩ := alloc2 w1 (.cells #[.string word] 9) (.cells #[.string rest] 9)
  have hb2 : Below w1.heap.size w1 w2' := by rw [← hw2]; exact b_alloc (b_alloc (Below.refl _ _) _) _
  rw [hw2] at hs2 hy0 hy1
  clear hw2
  obtain ⟨w2, rfl⟩ : ∃ w2, w2 = w2' := ⟨_, rfl⟩
  have keep : ∀ (k : Nat) (o : Obj), w1.heap[k]? = some o → w2.heap[k]? = some o := fun k o h => (hb2.block _ (Array.getElem?_eq_some_iff.1 h).1).trans h
  have HZ0 := Lib.hid (keep _ _ hz0)
  have HZ1 := Lib.hid (keep _ _ hz1)
  have HZ2 := Lib.hid (keep _ _ hz2)
  have HZ3 := Lib.hid (keep _ _ hz3)
  have HB := Lib.hid (hb1.trans (hb2.mono hb1.size))
  have HL2 := Lib.hid (HL.out.below (hb1.trans (hb2.mono hb1.size)))
  have HY0 := Lib.hid hy0
  have HY1 := Lib.hid hy1
  have HS2 := Lib.hid (show w2.heap.size = w.heap.size + 6 by omega)
  have hS1 := Lib.hid hs1
  clear keep hz0 hz1 hz2 hz3 hb1 hb2 hy0 hy1 hs2 hs1
  go_wp2_with (fail)
  refine rangeFuncW (gf := 72) (lb := #[.pointer (some ⟨w1.heap.size, 0, none⟩), .pointer (some ⟨w1.heap.size + 1, 0, none⟩)]) rfl (Go.Proofs.enters_of Tryz.func72 (by kernel_rfl) rfl)
    (readings_iter word rest w1.heap.size (w1.heap.size + 1) w2 HL2.out hr HY0.out HY1.out (by have := HS2.out; omega)) (fun _ h => h.elim) ?hR (Below.refl _ _) (fun _ => rfl)
    (fun pre W => (∀ x ∈ pre, isHalf word rest x = false) ∧ joinFr word rest w W) (fun c _ W => c = .ret ∧ joinTo word rest w W)
    ?hI ?hIx ?h0 ?hround ?hdone ?hstop
  case hR =>
    have e1 := HS2.out
    have e2 := hS1.out
    rintro k (rfl | rfl | h)
    · omega
    · omega
    · have : k < 6 + 1 := h
      omega
  case hI => exact fun s A B hs hk => ⟨hs.1, joinFr_keep hs.2 hk (by have := HS2.out; omega)⟩
  case hIx => exact fun c s A B hs hk => ⟨hs.1, joinTo_keep hs.2 hk (by have := HS2.out; omega)⟩
  case h0 => exact ⟨(fun x hx => by cases hx), HB.out, HZ0.out, HZ1.out, HZ2.out, HZ3.out⟩
  case hround =>
    intro l pre x W K hlw hloop hi hpre hK
    obtain ⟨hno, hfr⟩ := hi
    have hxm : x ∈ cands word rest 3 := hpre.subset (by simp)
    obtain ⟨hxn, hxv⟩ := cands_size word rest x hxm
    have HK := Lib.hid hK
    have HFR := Lib.hid hfr
    have HNO := Lib.hid hno
    have HPRE := Lib.hid hpre
    clear hK hfr hno hpre hxm
    unfold Eid.enc
    dsimp only
    gi_wp2
    refine HK.out _ _ ((KeepsOthers.alloc _ _).from _) (fun k hk => Below.heap_alloc _ _ _ ?_) ?_
    · obtain ⟨r0, hr0⟩ := hloop
      have hl0 : l < W.heap.size := (Array.getElem?_eq_some_iff.1 hr0).1
      have e1 := HS2.out
      have e2 := hS1.out
      rcases hk with rfl | rfl | hk
      · omega
      · omega
      · have : k < 6 + 1 := hk
        omega
    · intro W1 hkx hl1 hsz1
      have hxb := hkx.blk (World.alloc_heap_new W (.cells #[.int .i64 x.s, .string x.n, .string x.v, .int .i64 x.a, .int .i64 x.b] 41)) id
      have hfr1 := joinFr_keep (joinFr_below HFR.out (b_alloc (Below.refl _ _) _)) hkx (by have := HS2.out; omega)
      have hxlt : W.heap.size < W1.heap.size := (Array.getElem?_eq_some_iff.1 hxb).1
      have x0 : W1.cell? ⟨W.heap.size, 0, none⟩ = some (.int .i64 x.s) := cell_blk hxb 0
      have x1 : W1.cell? ⟨W.heap.size, 1, none⟩ = some (.string x.n) := cell_blk hxb 1
      have x2 : W1.cell? ⟨W.heap.size, 2, none⟩ = some (.string x.v) := cell_blk hxb 2
      have x3 : W1.cell? ⟨W.heap.size, 3, none⟩ = some (.int .i64 x.a) := cell_blk hxb 3
      have x4 : W1.cell? ⟨W.heap.size, 4, none⟩ = some (.int .i64 x.b) := cell_blk hxb 4
      have HXB := Lib.hid hxb
      have HF1 := Lib.hid hfr1
      clear hxb hfr1 hkx hl1
      obtain ⟨y1, y2, y3, hy⟩ : ∃ y1 y2 y3, halvesS x.s x.n x.v x.a x.b = (y1, y2, y3) := ⟨_, _, _, rfl⟩
      have HYY := Lib.hid hy
      clear hy
      gi_wp2_with (fail)
      refine ⟨trivial, (CallsIn.inRound l (callsIn_wide.2 (eid_Halves.calls x.s x.n x.v x.a x.b y1 y2 y3 W1 (HL.out.below HF1.out.1) ?_))).mono ?_⟩
      · unfold eid_Halves.f
        rw [if_pos ⟨by unfold maxLen; omega, by unfold maxLen; omega⟩, HYY.out]
      · rintro e w4 ⟨rfl, hb4⟩
        have hfr4 := joinFr_below HF1.out hb4
        have hxb4 := (hb4.block _ hxlt).trans HXB.out
        have hw0 : w4.cell? ⟨w.heap.size, 0, none⟩ = some (.string word) := cell_blk hfr4.2.1 0
        have hw1 : w4.cell? ⟨w.heap.size + 1, 0, none⟩ = some (.string rest) := cell_blk hfr4.2.2.1 0
        have HF4 := Lib.hid hfr4
        have HX4 := Lib.hid hxb4
        have HB4 := Lib.hid hb4
        clear hfr4 hxb4 hb4
        gi_wp2_with (fail)
        refine ⟨trivial, (CallsIn.inRound l (callsIn_wide.2 (areAll3 (y3 == 0) (y1.toList == word.toList) (y2.toList == rest.toList) w4.heap.size _ (World.alloc_heap_new _ _)))).mono ?_⟩
        rintro e w5 ⟨rfl, hb5⟩
        have hb45 : Below w4.heap.size w4 w5 := (b_alloc (Below.refl _ _) _).trans (hb5.mono (by simp))
        have hfr5 := joinFr_below HF4.out hb45
        have hxlt4 : W.heap.size < w4.heap.size := (Array.getElem?_eq_some_iff.1 HX4.out).1
        have hxb5 := (hb45.block _ hxlt4).trans HX4.out
        have hb15 : Below W1.heap.size W1 w5 := HB4.out.trans (hb45.mono HB4.out.size)
        have hval : (y3 == 0 && (y1.toList == word.toList && y2.toList == rest.toList)) = isHalf word rest x := by unfold isHalf; rw [HYY.out]
        rw [hval]
        have HF5 := Lib.hid hfr5
        have HX5 := Lib.hid hxb5
        have HB15 := Lib.hid hb15
        clear hb5 hb45 hfr5 hxb5 hb15 hval hw0 hw1 x0 x1 x2 x3 x4
        cases hh : isHalf word rest x with
        | false =>
          have HH := Lib.hid hh
          clear hh
          gi_wp2
          exact ⟨(keepsOthers_below HB15.out).from _, fun k hk => HB15.out.block k (keptR HS2.out hS1.out hsz1 hk), fun z hz => by
            rcases List.mem_append.1 hz with hz | hz
            · exact HNO.out z hz
            · rw [List.mem_singleton.1 hz]; exact HH.out, HF5.out⟩
        | true =>
          have HH := Lib.hid hh
          clear hh
          have g0 : w5.cell? ⟨W.heap.size, 0, none⟩ = some (.int .i64 x.s) := cell_blk HX5.out 0
          have g1 : w5.cell? ⟨W.heap.size, 1, none⟩ = some (.string x.n) := cell_blk HX5.out 1
          have g2 : w5.cell? ⟨W.heap.size, 2, none⟩ = some (.string x.v) := cell_blk HX5.out 2
          have g3 : w5.cell? ⟨W.heap.size, 3, none⟩ = some (.int .i64 x.a) := cell_blk HX5.out 3
          have g4 : w5.cell? ⟨W.heap.size, 4, none⟩ = some (.int .i64 x.b) := cell_blk HX5.out 4
          gi_wp2_with (fail)
          refine ⟨trivial, (CallsIn.inRound l (callsIn_wide.2 (api_Eid.calls x.s x.n x.v x.a x.b true x.s x.n x.v x.a x.b 0 _ (by unfold api_Eid.f; rw [if_pos rfl])))).mono ?_⟩
          rintro e w6 ⟨rfl, hb6⟩
          have hfr6 := joinFr_below HF5.out hb6
          have k2 : w6.heap[w.heap.size + 1 + 1]? = some (.cells (eidCells zeroEid) 41) := hfr6.2.2.2.1
          have k3 : w6.heap[w.heap.size + 1 + 1 + 1]? = some (.cells #[.int .i64 0] 28) := hfr6.2.2.2.2
          have c0 : w6.cell? ⟨w.heap.size + 1 + 1, 0, none⟩ = some (.int .i64 0) := cell_blk k2 0
          have c1 : w6.cell? ⟨w.heap.size + 1 + 1, 1, none⟩ = some (.string ⟨#[]⟩) := cell_blk k2 1
          have c2 : w6.cell? ⟨w.heap.size + 1 + 1, 2, none⟩ = some (.string ⟨#[]⟩) := cell_blk k2 2
          have c3 : w6.cell? ⟨w.heap.size + 1 + 1, 3, none⟩ = some (.int .i64 0) := cell_blk k2 3
          have c4 : w6.cell? ⟨w.heap.size + 1 + 1, 4, none⟩ = some (.int .i64 0) := cell_blk k2 4
          have d0 : w6.cell? ⟨w.heap.size + 1 + 1 + 1, 0, none⟩ = some (.int .i64 0) := cell_blk k3 0
          have f0 : ∀ j, w6.frozen? ⟨w.heap.size + 1 + 1, j, none⟩ = false := fun j => frozen_blk k2 j
          have f1 : w6.frozen? ⟨w.heap.size + 1 + 1 + 1, 0, none⟩ = false := frozen_blk k3 0
          have HK2 := Lib.hid k2
          have HK3 := Lib.hid k3
          have HF6 := Lib.hid hfr6
          have HB6 := Lib.hid hb6
          clear k2 k3 hfr6 hb6 g0 g1 g2 g3 g4
          gi_wp2
          refine ⟨?_, rfl, ?_, x, ?_, ?_, ?_⟩
          · have hk : KeepsOthers W1 w6 := (keepsOthers_below HB15.out).trans (keepsOthers_below HB6.out)
            exact ((((((hk.trans (KeepsOthers.setCell _ _ _)).trans (KeepsOthers.setCell _ _ _)).trans (KeepsOthers.setCell _ _ _)).trans (KeepsOthers.setCell _ _ _)).trans (KeepsOthers.setCell _ _ _)).trans (KeepsOthers.setCell _ _ _)).from _
          · iterate 6 refine Below.setCell ?_ (by simp; omega) _
            exact HF6.out.1
          · exact join_found HPRE.out HNO.out HH.out
          · exact (Below.heap_setCell _ _ _ _ (by simp)).trans (set5 (x := x) HK2.out)
          · refine YtbjbicaffblchaaGreatDoorW.PrintWords.blk_set (?_ : _ = some (Obj.cells #[.int .i64 0] 28)) 0 _
            iterate 5 refine (Below.heap_setCell _ _ _ _ (by simp)).trans ?_
            exact HK3.out
  case hdone =>
    intro D W hD hi hd
    obtain ⟨hno, hb, hf0, hf1, hf2, hf3⟩ := hi
    have hj : joinS word rest = none := List.find?_eq_none.2 fun x hx => by rw [hno x hx]; decide
    have HD := Lib.hid hd
    have HBB := Lib.hid hb
    have HF2 := Lib.hid hf2
    have HF3 := Lib.hid hf3
    have HJN := Lib.hid hj
    have hs2 := HS2.out
    have hn2 : w.heap.size + 2 < W.heap.size := (Array.getElem?_eq_some_iff.1 hf2).1
    have hn3 : w.heap.size + 3 < W.heap.size := (Array.getElem?_eq_some_iff.1 hf3).1
    have hDW : D < W.heap.size := (Array.getElem?_eq_some_iff.1 hd).1
    have hDn : w.heap.size + 3 < D := by omega
    clear hd hb hf0 hf1 hf2 hf3 hno hj hs2 hD
    go_wp2_with (fail)
    refine (api_Eid.calls 0 ⟨#[]⟩ ⟨#[]⟩ 0 0 false 0 ⟨#[]⟩ ⟨#[]⟩ 0 0 60 _ (by unfold api_Eid.f; rw [if_neg (by decide)])).mono ?_
    rintro e w5 ⟨rfl, hb5⟩
    have k2 : w5.heap[w.heap.size + 1 + 1]? = some (.cells (eidCells zeroEid) 41) := (hb5.block _ hn2).trans HF2.out
    have k3 : w5.heap[w.heap.size + 1 + 1 + 1]? = some (.cells #[.int .i64 0] 28) := (hb5.block _ hn3).trans HF3.out
    have hD5 : w5.heap[D]? = some (.deferred (some [])) := (hb5.block _ hDW).trans HD.out
    have c0 : w5.cell? ⟨w.heap.size + 1 + 1, 0, none⟩ = some (.int .i64 0) := cell_blk k2 0
    have c1 : w5.cell? ⟨w.heap.size + 1 + 1, 1, none⟩ = some (.string ⟨#[]⟩) := cell_blk k2 1
    have c2 : w5.cell? ⟨w.heap.size + 1 + 1, 2, none⟩ = some (.string ⟨#[]⟩) := cell_blk k2 2
    have c3 : w5.cell? ⟨w.heap.size + 1 + 1, 3, none⟩ = some (.int .i64 0) := cell_blk k2 3
    have c4 : w5.cell? ⟨w.heap.size + 1 + 1, 4, none⟩ = some (.int .i64 0) := cell_blk k2 4
    have d0 : w5.cell? ⟨w.heap.size + 1 + 1 + 1, 0, none⟩ = some (.int .i64 0) := cell_blk k3 0
    have f0 : ∀ j, w5.frozen? ⟨w.heap.size + 1 + 1, j, none⟩ = false := fun j => frozen_blk k2 j
    have f1 : w5.frozen? ⟨w.heap.size + 1 + 1 + 1, 0, none⟩ = false := frozen_blk k3 0
    have HK2 := Lib.hid k2
    have HK3 := Lib.hid k3
    have HD5 := Lib.hid hD5
    have HB5 := Lib.hid hb5
    clear k2 k3 hD5 hb5
    go_wp2
    refine join_end w _ D zeroEid 60 _ rfl rfl rfl ?_ ?_ ?_ hDn ?_ _ (by rw [HJN.out]; rfl)
    · exact (Below.heap_setCell _ _ _ _ (by simp)).trans (set5 (x := zeroEid) HK2.out)
    · refine YtbjbicaffblchaaGreatDoorW.PrintWords.blk_set (?_ : _ = some (Obj.cells #[.int .i64 0] 28)) 0 _
      iterate 5 refine (Below.heap_setCell _ _ _ _ (by simp)).trans ?_
      exact HK3.out
    · iterate 6 refine (Below.heap_setCell _ _ _ _ (by simp; omega)).trans ?_
      exact HD5.out
    · have hbw := HBB.out.trans (HB5.out.mono HBB.out.size)
      iterate 6 refine Below.setCell ?_ (by simp; omega) _
      exact hbw
  case hstop =>
    intro D c pre W hD hp hx hd
    obtain ⟨rfl, hb, x, hj, hf2, hf3⟩ := hx
    have HJN := Lib.hid hj
    have hs2 := HS2.out
    have hDn : w.heap.size + 3 < D := by omega
    clear hj hs2 hD
    go_wp2
    exact join_end w W D x 0 _ rfl rfl rfl hf2 hf3 hd hDn hb _ (by rw [HJN.out]; rfl)
end Go.Proofs.YtbjbicaffblchaaGreatDoor.Hand
end
section
namespace Go.Proofs.YtbjbicaffblchaaGreatDoor.Hand
open Go.RowKit
theorem Laid.size {w : World} (h : Laid w) : 6 < w.heap.size := by
  obtain ⟨_, _, _, ⟨_, _, h2⟩⟩ := h
  have := World.block_lt_of_cell? w _ h2
  exact Nat.lt_of_le_of_lt (by decide) this
def joinT (a0 a1 : ByteArray) : Int × ByteArray × ByteArray × Int × Int × Int :=
  match joinS a0 a1 with
  | some x => (x.s, x.n, x.v, x.a, x.b, 0)
  | none => (0, ⟨#[]⟩, ⟨#[]⟩, 0, 0, 60)
def eid_Join.f (a0 a1 : ByteArray) : Option (Int × ByteArray × ByteArray × Int × Int × Int) := if a1.size < 4294967281 then some (joinT a0 a1) else none
theorem eid_Join.calls (a0 a1 : ByteArray) (r1 : Int) (r2 r3 : ByteArray) (r4 r5 r6 : Int) (w : World) (hLd : Laid w) (h : eid_Join.f a0 a1 = some (r1, r2, r3, r4, r5, r6)) :
    Calls Tryz.prog 45 #[.string a0, .string a1] w fun e w' => e = .returned (.tuple #[.agg #[.int .i64 r1, .string r2, .string r3, .int .i64 r4, .int .i64 r5], .int .i64 r6]) ∧ Below w.heap.size w w' := by
  unfold eid_Join.f at h
  split at h
  case isFalse => cases h
  rename_i hs
  obtain h := Option.some.inj h
  refine (join_walk a0 a1 w hLd hs hLd.size).mono fun e w' he => ⟨?_, he.2⟩
  rw [he.1]
  unfold joinT at h
  cases hj : joinS a0 a1 with
  | none =>
    rw [hj] at h
    simp only [Prod.mk.injEq] at h
    obtain ⟨rfl, rfl, rfl, rfl, rfl, rfl⟩ := h
    rfl
  | some x =>
    rw [hj] at h
    simp only [Prod.mk.injEq] at h
    obtain ⟨rfl, rfl, rfl, rfl, rfl, rfl⟩ := h
    rfl
end Go.Proofs.YtbjbicaffblchaaGreatDoor.Hand
end
section
namespace Go.Proofs.YtbjbicaffblchaaGreatDoor.Hand
open Go.RowKit
structure LaidAt (w : World) (am ae ad : Addr) : Prop where
  many : ErrAt w 1 am
  eid : ErrAt w 2 ae
  dict : ErrAt w 0 ad
  n1 : am ≠ ae
  n2 : am ≠ ad
  n3 : ae ≠ ad
theorem LaidAt.below {w w' : World} {am ae ad : Addr} (h : LaidAt w am ae ad) (hb : Below w.heap.size w w') : LaidAt w' am ae ad := ⟨h.many.below hb, h.eid.below hb, h.dict.below hb, h.n1, h.n2, h.n3⟩
structure LaidD (w : World) : Prop where
  laid : Laid w
  errs : ∃ am ae ad, LaidAt w am ae ad
theorem LaidD.below {w w' : World} (h : LaidD w) (hb : Below w.heap.size w w') : LaidD w' := by
  obtain ⟨h1, am, ae, ad, h2⟩ := h
  exact ⟨h1.below hb, am, ae, ad, h2.below hb⟩
set_option maxRecDepth 100000 in
theorem either_int_many (v : Int) (w : World) (am ae ad : Addr) (h : LaidAt w am ae ad) :
    Calls Tryz.prog 25 #[.int .i64 v, errV am] w fun e w' => e = .returned (.tuple #[.int .i64 0, .int .i64 71]) ∧ w' = w := by
  obtain ⟨⟨hm, cm, tm, bm⟩, ⟨he, ce, te, be⟩, ⟨hd, cd, td, bd⟩, n1, n2, n3⟩ := h
  have s0 := is_same am w
  clear bm be bd
  unfold errV at *
  go_enter Tryz.func25, Tryz.ntmps25
  go_wp2_with (go_at_call 42; with_reducible refine s0.mono ?_; rintro e w' ⟨rfl, rfl⟩)
  go_ret2
  exact ⟨rfl, rfl⟩
set_option maxRecDepth 100000 in
theorem either_int_eid (v : Int) (w : World) (am ae ad : Addr) (h : LaidAt w am ae ad) :
    Calls Tryz.prog 25 #[.int .i64 v, errV ae] w fun e w' => e = .returned (.tuple #[.int .i64 0, .int .i64 60]) ∧ w' = w := by
  obtain ⟨⟨hm, cm, tm, bm⟩, ⟨he, ce, te, be⟩, ⟨hd, cd, td, bd⟩, n1, n2, n3⟩ := h
  have s0 := is_other ae am ce cm te tm w n1.symm be bm
  have s1 := is_same ae w
  clear bm be bd
  unfold errV at *
  go_enter Tryz.func25, Tryz.ntmps25
  go_wp2_with (go_at_call 42; (first | (with_reducible refine s0.mono ?_) | (with_reducible refine s1.mono ?_)); rintro e w' ⟨rfl, rfl⟩)
  go_ret2
  exact ⟨rfl, rfl⟩
set_option maxRecDepth 100000 in
theorem either_eids_dict (A : Option Addr) (n c : Nat) (w : World) (am ae ad : Addr) (h : LaidAt w am ae ad) :
    Calls Tryz.prog 29 #[.slice A n c, errV ad] w fun e w' => e = .returned (.tuple #[.slice none 0 0, .int .i64 70]) ∧ w' = w := by
  obtain ⟨⟨hm, cm, tm, bm⟩, ⟨he, ce, te, be⟩, ⟨hd, cd, td, bd⟩, n1, n2, n3⟩ := h
  have s0 := is_other ad am cd cm td tm w n2.symm bd bm
  have s1 := is_other ad ae cd ce td te w n3.symm bd be
  have s2 := is_same ad w
  clear bm be bd
  unfold errV at *
  go_enter Tryz.func29, Tryz.ntmps29
  go_wp2_with (go_at_call 42; (first | (with_reducible refine s0.mono ?_) | (with_reducible refine s1.mono ?_) | (with_reducible refine s2.mono ?_)); rintro e w' ⟨rfl, rfl⟩)
  go_ret2
  exact ⟨rfl, rfl⟩
set_option maxRecDepth 100000 in
theorem either_eids_nil (A : Option Addr) (n c : Nat) (w : World) (am ae ad : Addr) (h : LaidAt w am ae ad) :
    Calls Tryz.prog 29 #[.slice A n c, .nilIface] w fun e w' => e = .returned (.tuple #[.slice A n c, .int .i64 0]) ∧ w' = w := by
  obtain ⟨⟨hm, cm, tm, bm⟩, ⟨he, ce, te, be⟩, ⟨hd, cd, td, bd⟩, n1, n2, n3⟩ := h
  have s0 := is_nil am w
  have s1 := is_nil ae w
  have s2 := is_nil ad w
  clear bm be bd
  unfold errV at *
  go_enter Tryz.func29, Tryz.ntmps29
  go_wp2_with (go_at_call 42; (first | (with_reducible refine s0.mono ?_) | (with_reducible refine s1.mono ?_) | (with_reducible refine s2.mono ?_)); rintro e w' ⟨rfl, rfl⟩)
  go_ret2
  exact ⟨rfl, rfl⟩
set_option maxRecDepth 100000 in
theorem either_strs_dict (A : Option Addr) (n c : Nat) (w : World) (am ae ad : Addr) (h : LaidAt w am ae ad) :
    Calls Tryz.prog 34 #[.slice A n c, errV ad] w fun e w' => e = .returned (.tuple #[.slice none 0 0, .int .i64 70]) ∧ w' = w := by
  obtain ⟨⟨hm, cm, tm, bm⟩, ⟨he, ce, te, be⟩, ⟨hd, cd, td, bd⟩, n1, n2, n3⟩ := h
  have s0 := is_other ad am cd cm td tm w n2.symm bd bm
  have s1 := is_other ad ae cd ce td te w n3.symm bd be
  have s2 := is_same ad w
  clear bm be bd
  unfold errV at *
  go_enter Tryz.func34, Tryz.ntmps34
  go_wp2_with (go_at_call 42; (first | (with_reducible refine s0.mono ?_) | (with_reducible refine s1.mono ?_) | (with_reducible refine s2.mono ?_)); rintro e w' ⟨rfl, rfl⟩)
  go_ret2
  exact ⟨rfl, rfl⟩
set_option maxRecDepth 100000 in
theorem either_strs_nil (A : Option Addr) (n c : Nat) (w : World) (am ae ad : Addr) (h : LaidAt w am ae ad) :
    Calls Tryz.prog 34 #[.slice A n c, .nilIface] w fun e w' => e = .returned (.tuple #[.slice A n c, .int .i64 0]) ∧ w' = w := by
  obtain ⟨⟨hm, cm, tm, bm⟩, ⟨he, ce, te, be⟩, ⟨hd, cd, td, bd⟩, n1, n2, n3⟩ := h
  have s0 := is_nil am w
  have s1 := is_nil ae w
  have s2 := is_nil ad w
  clear bm be bd
  unfold errV at *
  go_enter Tryz.func34, Tryz.ntmps34
  go_wp2_with (go_at_call 42; (first | (with_reducible refine s0.mono ?_) | (with_reducible refine s1.mono ?_) | (with_reducible refine s2.mono ?_)); rintro e w' ⟨rfl, rfl⟩)
  go_ret2
  exact ⟨rfl, rfl⟩
end Go.Proofs.YtbjbicaffblchaaGreatDoor.Hand
end
section
namespace Go.Proofs.YtbjbicaffblchaaGreatDoor.Hand
open Go.RowKit
theorem ba_ext {a b : ByteArray} (h : a.toList = b.toList) : a = b := by
  rw [ByteArray.toList_eq, ByteArray.toList_eq] at h
  exact ByteArray.ext (Array.toList_inj.1 h)
theorem ba_nil {a : ByteArray} (h : a.toList = []) : a = ⟨#[]⟩ := ba_ext (h.trans (by rw [ByteArray.toList_eq]))
theorem index_one (c : UInt8) (q : List UInt8) : ∀ p : List UInt8, c ∉ p → Lib.index (p ++ c :: q) [c] = p.length
  | [], _ => by simp [Lib.index]
  | b :: p, h => by
    have hb : c ≠ b := fun e => h (e ▸ List.mem_cons_self ..)
    have hp : c ∉ p := fun e => h (List.mem_cons_of_mem _ e)
    have ih := index_one c q p hp
    simp only [List.cons_append, Lib.index]
    rw [ih]
    simp [hb, List.isPrefixOf]
    try omega
theorem cut_one (c : UInt8) (p q : List UInt8) (h : c ∉ p) : Lib.cut (p ++ c :: q) [c] = (p, q, true) := by
  unfold Lib.cut
  rw [index_one c q p h, if_pos (by omega)]
  simp
theorem cut_found (l : List UInt8) (c : UInt8) (h : (Lib.cut l [c]).2.2 = true) : l = (Lib.cut l [c]).1 ++ c :: (Lib.cut l [c]).2.1 := by
  unfold Lib.cut at h ⊢
  rcases Lib.index_spec l [c] with ⟨hi, _⟩ | ⟨i, hi, hle, hocc, _⟩
  · rw [hi] at h
    simp at h
  · rw [hi, if_pos (by omega)]
    simp only [Int.toNat_natCast, List.length_singleton]
    unfold Lib.occAt at hocc
    have hd : l.drop i = c :: l.drop (i + 1) := by
      rw [← List.tail_drop]
      cases hdd : l.drop i with
      | nil => rw [hdd] at hocc; simp [List.isPrefixOf] at hocc
      | cons b r =>
        rw [hdd] at hocc
        simp [List.isPrefixOf] at hocc
        rw [hocc]
        rfl
    rw [← hd, List.take_append_drop]
theorem dig_ok : ∀ u : Nat, ∀ d ∈ Lib.decDigits u, 48 ≤ d.toNat ∧ d.toNat ≤ 57 := by
  intro u
  induction u using Nat.strongRecOn with
  | _ u ih =>
    intro d hd
    rw [Lib.decDigits] at hd
    split at hd
    · simp only [List.mem_singleton] at hd
      subst hd
      have : (UInt8.ofNat (48 + u)).toNat = 48 + u := by simp; omega
      omega
    · rcases List.mem_append.1 hd with hd | hd
      · exact ih (u / 10) (by omega) d hd
      · simp only [List.mem_singleton] at hd
        subst hd
        have : (UInt8.ofNat (48 + u % 10)).toNat = 48 + u % 10 := by simp; omega
        omega
theorem dig_len : ∀ k u : Nat, u < 10 ^ (k + 1) → (Lib.decDigits u).length ≤ k + 1 := by
  intro k
  induction k with
  | zero =>
    intro u hu
    rw [Lib.decDigits, dif_pos (by omega)]
    simp
  | succ k ih =>
    intro u hu
    rw [Lib.decDigits]
    split
    · simp
    · have := ih (u / 10) (by rw [Nat.pow_succ] at hu; omega)
      simp
      omega
theorem dig_ne (u : Nat) : Lib.decDigits u ≠ [] := by
  rw [Lib.decDigits]
  split <;> simp
theorem parse_app : ∀ (l r : List UInt8) (acc v : Nat), Lib.parseUint10 acc l = .ok v → Lib.parseUint10 acc (l ++ r) = Lib.parseUint10 v r
  | [], r, acc, v, h => by
    simp only [Lib.parseUint10] at h
    injection h with h
    subst h
    rfl
  | c :: l, r, acc, v, h => by
    simp only [Lib.parseUint10, List.cons_append] at h ⊢
    split at h
    · split at h
      · cases h
      · split at h
        · cases h
        · rename_i h1 h2 h3
          rw [if_pos h1, if_neg h2, if_neg h3]
          exact parse_app l r _ v h
    · cases h
theorem parse_dig : ∀ u : Nat, u ≤ 1000000000000000000 → Lib.parseUint10 0 (Lib.decDigits u) = .ok u := by
  intro u
  induction u using Nat.strongRecOn with
  | _ u ih =>
    intro hu
    rw [Lib.decDigits]
    split
    · have : (UInt8.ofNat (48 + u)).toNat = 48 + u := by simp; omega
      simp only [Lib.parseUint10, this]
      rw [if_pos (by omega), if_neg (by omega), if_neg (by omega)]
      congr 1
      omega
    · rw [parse_app _ _ _ _ (ih (u / 10) (by omega) (by omega))]
      have : (UInt8.ofNat (48 + u % 10)).toNat = 48 + u % 10 := by simp; omega
      simp only [Lib.parseUint10, this]
      rw [if_pos (by omega), if_neg (by omega), if_neg (by omega)]
      congr 1
      omega
theorem itoa_dig (a : Int) (h : 0 ≤ a) : Lib.itoa a = Lib.decDigits a.toNat := by
  unfold Lib.itoa
  rw [if_neg (by omega)]
theorem atoi_itoa (a : Int) (h : 0 ≤ a) (h2 : a ≤ 999999999) : atoiNum (Lib.itoa a) = a := by
  have hp := parse_dig a.toNat (by omega)
  rw [itoa_dig a h]
  cases hd : Lib.decDigits a.toNat with
  | nil => exact absurd hd (dig_ne _)
  | cons c r =>
    have hc := dig_ok a.toNat c (by rw [hd]; exact List.mem_cons_self ..)
    unfold atoiNum Lib.atoiAll
    rw [hd] at hp
    simp only
    rw [if_neg (by omega)]
    unfold Lib.parseMag
    rw [if_neg (by simp), hp]
    simp only
    rw [if_neg (by omega), if_neg (by omega), if_neg (by omega)]
    simp
    omega
theorem restDtn_data (a1 a2 : ByteArray) : (restDtn a1 a2).data.toList = [47, 47] ++ (a1.data.toList ++ 47 :: a2.data.toList) := by
  unfold restDtn
  simp [ByteArray.data_append]
theorem restIpn_data (a3 a4 : Int) : (restIpn a3 a4).data.toList = Lib.itoa a3 ++ 46 :: Lib.itoa a4 := by
  unfold restIpn txt
  simp [ByteArray.data_append]
theorem txt_data (a : ByteArray) : txt a.data.toList = a := by
  unfold txt
  simp
theorem part_no {a : ByteArray} {signs : ByteArray} {c : UInt8} (h : partS a signs = true) (hc : okByte signs c = false) : c ∉ a.data.toList := by
  intro hm
  unfold partS at h
  simp only [Bool.and_eq_true, List.all_eq_true] at h
  rw [h.1 c hm] at hc
  cases hc
theorem dtn_parts (a1 a2 : ByteArray) (h : partS a1 ⟨#[45, 46]⟩ = true) : dtnParts (restDtn a1 a2) = (a1, a2) := by
  have hn : (47 : UInt8) ∉ a1.data.toList := part_no h (by decide)
  unfold dtnParts
  have ht : Lib.trimPrefix (restDtn a1 a2).data.toList [47, 47] = a1.data.toList ++ 47 :: a2.data.toList := by
    rw [restDtn_data]
    unfold Lib.trimPrefix Lib.hasPrefix
    simp [List.isPrefixOf]
  rw [ht, cut_one _ _ _ hn, txt_data, txt_data]
theorem ipn_parts (a3 a4 : Int) (h3 : 0 ≤ a3) (h3' : a3 ≤ 999999999) (h4 : 0 ≤ a4) (h4' : a4 ≤ 999999999) : ipnParts (restIpn a3 a4) = (a3, a4) := by
  have hn : (46 : UInt8) ∉ Lib.itoa a3 := by
    intro hm
    rw [itoa_dig a3 h3] at hm
    have := dig_ok _ _ hm
    simp at this
  unfold ipnParts
  rw [restIpn_data, cut_one _ _ _ hn]
  simp only
  rw [atoi_itoa a3 h3 h3', atoi_itoa a4 h4 h4']
theorem right_none2 {a1 a2 : ByteArray} {a3 a4 : Int} (h : rightS 0 a1 a2 a3 a4 = true) : a1 = ⟨#[]⟩ ∧ a2 = ⟨#[]⟩ ∧ a3 = 0 ∧ a4 = 0 := by
  unfold rightS at h
  rw [if_pos rfl] at h
  simp only [Bool.and_eq_true, beq_iff_eq] at h
  exact ⟨ba_nil h.1, ba_nil h.2.1, h.2.2.1, h.2.2.2⟩
theorem right_num {n : Int} {a1 a2 : ByteArray} {a3 a4 : Int} (h : rightS n a1 a2 a3 a4 = true) : n = 0 ∨ n = 1 ∨ n = 2 := by
  unfold rightS at h
  by_cases h0 : n = 0
  · exact .inl h0
  · by_cases h1 : n = 1
    · exact .inr (.inl h1)
    · by_cases h2 : n = 2
      · exact .inr (.inr h2)
      · rw [if_neg h0, if_neg h1, if_neg h2] at h
        cases h
theorem half_is {word rest : ByteArray} {x : Eid} : isHalf word rest x = true ↔ rightS x.s x.n x.v x.a x.b = true ∧ wordS x.s = word ∧ restS x.s x.n x.v x.a x.b = rest := by
  unfold isHalf halvesS
  by_cases hr : rightS x.s x.n x.v x.a x.b = true
  · rw [if_pos hr]
    simp only [hr, Bool.and_eq_true, beq_iff_eq, true_and]
    exact ⟨fun h => ⟨ba_ext h.1, ba_ext h.2⟩, fun h => ⟨by rw [h.1], by rw [h.2]⟩⟩
  · rw [if_neg hr]
    simp [hr]
theorem join_right {word rest : ByteArray} {x : Eid} (h : joinS word rest = some x) : rightS x.s x.n x.v x.a x.b = true ∧ wordS x.s = word ∧ restS x.s x.n x.v x.a x.b = rest :=
  half_is.1 (List.find?_some h)
theorem join_of {n : Int} {a1 a2 : ByteArray} {a3 a4 : Int} (h : rightS n a1 a2 a3 a4 = true) : joinS (wordS n) (restS n a1 a2 a3 a4) = some ⟨n, a1, a2, a3, a4⟩ := by
  have hh : isHalf (wordS n) (restS n a1 a2 a3 a4) ⟨n, a1, a2, a3, a4⟩ = true := half_is.2 ⟨h, rfl, rfl⟩
  rcases right_num h with rfl | rfl | rfl
  · obtain ⟨rfl, rfl, rfl, rfl⟩ := right_none2 h
    unfold joinS cands
    rw [if_pos ⟨by decide, by rw [ByteArray.toList_eq]; rfl⟩]
    simp only [List.cons_append, List.nil_append, List.find?_cons]
    rw [hh]
  · obtain ⟨_, hp, _, h3, h4⟩ := right_dtn h
    subst h3 h4
    unfold joinS cands
    rw [if_pos ⟨by decide, by rw [ByteArray.toList_eq]; rfl⟩, if_pos ⟨by decide, by rw [ByteArray.toList_eq]; rfl⟩]
    simp only [List.cons_append, List.nil_append, List.find?_cons]
    have h0 : isHalf (wordS 1) (restS 1 a1 a2 0 0) ⟨0, ⟨#[]⟩, ⟨#[]⟩, 0, 0⟩ = false := by
      rw [Bool.eq_false_iff]
      intro hc
      have h2 := (half_is.1 hc).2.2
      have h3 : wNone.data.toList = (restDtn a1 a2).data.toList := congrArg (fun z : ByteArray => z.data.toList) h2
      rw [restDtn_data] at h3
      simp [wNone] at h3
    rw [h0]
    simp only
    rw [show restS 1 a1 a2 0 0 = restDtn a1 a2 from rfl, dtn_parts a1 a2 hp]
    rw [show restS 1 a1 a2 0 0 = restDtn a1 a2 from rfl] at hh
    rw [hh]
  · obtain ⟨h1, h2, h3, h3', h4, h4'⟩ := right_ipn h
    obtain rfl := ba_nil h1
    obtain rfl := ba_nil h2
    unfold joinS cands
    rw [if_neg (by rw [ByteArray.toList_eq]; rintro ⟨_, h⟩; revert h; decide), if_neg (by rw [ByteArray.toList_eq]; rintro ⟨_, h⟩; revert h; decide), if_pos ⟨by decide, by rw [ByteArray.toList_eq]; rfl⟩]
    simp only [List.nil_append, List.find?_cons]
    rw [show restS 2 ⟨#[]⟩ ⟨#[]⟩ a3 a4 = restIpn a3 a4 from rfl, ipn_parts a3 a4 (by omega) h3' h4 h4']
    rw [show restS 2 ⟨#[]⟩ ⟨#[]⟩ a3 a4 = restIpn a3 a4 from rfl] at hh
    rw [hh]
theorem halves_inj {n m : Int} {a1 a2 b1 b2 : ByteArray} {a3 a4 b3 b4 : Int} (h : rightS n a1 a2 a3 a4 = true) (h' : rightS m b1 b2 b3 b4 = true) (hw : wordS n = wordS m) (hr : restS n a1 a2 a3 a4 = restS m b1 b2 b3 b4) :
    n = m ∧ a1 = b1 ∧ a2 = b2 ∧ a3 = b3 ∧ a4 = b4 := by
  have e := join_of h
  rw [hw, hr, join_of h'] at e
  injection e with e
  injection e with e1 e2 e3 e4 e5
  exact ⟨e1.symm, e2.symm, e3.symm, e4.symm, e5.symm⟩
end Go.Proofs.YtbjbicaffblchaaGreatDoor.Hand
end
section
namespace Go.Proofs.YtbjbicaffblchaaGreatDoor.Hand
open Go.RowKit Go.Proofs.YtbjbicaffblchaaGreatDoor.SA
theorem mn_len (n : Nat) (k : Int) (hk : 0 ≤ k) : 0 ≤ YtbjbicaffblchaaGreatDoorW.PrintWords.mn n k ∧ YtbjbicaffblchaaGreatDoorW.PrintWords.mn n k ≤ n ∧ YtbjbicaffblchaaGreatDoorW.PrintWords.mn n k ≤ k := by
  unfold YtbjbicaffblchaaGreatDoorW.PrintWords.mn
  split <;> omega
theorem Cut_is (a0 : Int) (a1 a2 : ByteArray) (a3 a4 : Int) : ∃ b1 b2 : ByteArray, postriderlaw06_Cut.f a0 a1 a2 a3 a4 = some (a0, b1, b2, a3, a4) ∧ b1.size ≤ 21 ∧ b2.size ≤ 21 := by
  obtain ⟨h1, h2, h3⟩ := mn_len a1.size 21 (by decide)
  obtain ⟨k1, k2, k3⟩ := mn_len a2.size 21 (by decide)
  unfold postriderlaw06_Cut.f
  rw [if_pos h1, if_pos h2, if_pos k1, if_pos k2]
  refine ⟨_, _, rfl, ?_, ?_⟩
  · rw [ByteArray.size_extract]; omega
  · rw [ByteArray.size_extract]; omega
theorem le_max {a : ByteArray} (h : a.size ≤ 80) : a.size ≤ maxLen := Nat.le_trans h (by decide)
theorem rest_size {n : Int} {a1 a2 : ByteArray} {a3 a4 : Int} (h : rightS n a1 a2 a3 a4 = true) : (restS n a1 a2 a3 a4).size ≤ 43 := by
  rcases right_num h with rfl | rfl | rfl
  · show wNone.size ≤ 43
    decide
  · obtain ⟨_, hp, hq, h3, h4⟩ := right_dtn h
    have := partS_size hp
    have := partS_size hq
    show (restDtn a1 a2).size ≤ 43
    have e : (restDtn a1 a2).size = (restDtn a1 a2).data.toList.length := (Array.length_toList ..).symm
    rw [e, restDtn_data]
    simp only [List.length_append, List.length_cons, List.length_nil, Array.length_toList]
    show 2 + (a1.size + (a2.size + 1)) ≤ 43
    omega
  · obtain ⟨h1, h2, h3, h3', h4, h4'⟩ := right_ipn h
    show (restIpn a3 a4).size ≤ 43
    have e : (restIpn a3 a4).size = (restIpn a3 a4).data.toList.length := (Array.length_toList ..).symm
    rw [e, restIpn_data, itoa_dig a3 (by omega), itoa_dig a4 h4]
    have := dig_len 8 a3.toNat (by omega)
    have := dig_len 8 a4.toNat (by omega)
    simp only [List.length_append, List.length_cons]
    omega
theorem word_size (n : Int) : (wordS n).size = 3 := by unfold wordS; split <;> decide
theorem Halves_is (n : Int) (a1 a2 : ByteArray) (a3 a4 : Int) (h1 : a1.size ≤ maxLen) (h2 : a2.size ≤ maxLen) : eid_Halves.f n a1 a2 a3 a4 = some (halvesS n a1 a2 a3 a4) := by
  unfold eid_Halves.f; rw [if_pos ⟨h1, h2⟩]
theorem Right_is (n : Int) (a1 a2 : ByteArray) (a3 a4 : Int) (h1 : a1.size ≤ maxLen) (h2 : a2.size ≤ maxLen) : eid_Right.f n a1 a2 a3 a4 = some (rightS n a1 a2 a3 a4) := by
  unfold eid_Right.f; rw [if_pos ⟨h1, h2⟩]
theorem joinT_of {n : Int} {a1 a2 : ByteArray} {a3 a4 : Int} (h : rightS n a1 a2 a3 a4 = true) : joinT (wordS n) (restS n a1 a2 a3 a4) = (n, a1, a2, a3, a4, 0) := by
  unfold joinT
  rw [join_of h]
theorem right_sizes {n : Int} {a1 a2 : ByteArray} {a3 a4 : Int} (h : rightS n a1 a2 a3 a4 = true) : a1.size ≤ 20 ∧ a2.size ≤ 20 := by
  rcases right_num h with rfl | rfl | rfl
  · obtain ⟨rfl, rfl, _⟩ := right_none2 h
    decide
  · obtain ⟨_, hp, hq, _⟩ := right_dtn h
    exact ⟨partS_size hp, partS_size hq⟩
  · obtain ⟨h1, h2, _⟩ := right_ipn h
    obtain rfl := ba_nil h1
    obtain rfl := ba_nil h2
    decide
end Go.Proofs.YtbjbicaffblchaaGreatDoor.Hand
end
section
namespace Go.Proofs.YtbjbicaffblchaaGreatDoor.Hand
open Go.ChangeShapes Go.WideShapes Go.ChangeAt Go.RowKit
theorem own : ownKnob Tryz.prog.godebug = none := by kernel_rfl
abbrev laid5 : List (String × DataW Unit) := [("math/bits.deBruijn32tab", Rows.laid_math_bits_deBruijn32tab), ("math/bits.deBruijn64tab", Rows.laid_math_bits_deBruijn64tab), ("internal/strconv.uint64pow10", Rows.laid_internal_strconv_uint64pow10), ("strconv.ErrRange", Rows.laid_strconv_ErrRange), ("strconv.ErrSyntax", Rows.laid_strconv_ErrSyntax), ("postrider/dict.errMany", Rows.laid_postrider_dict_errMany), ("postrider/dict.errEid", Rows.laid_postrider_dict_errEid), ("postrider/dict.errDict", Rows.laid_postrider_dict_errDict)]
theorem gErrRange : Tryz.prog.globalNamed "strconv.ErrRange" = some 6 := by kernel_rfl
theorem gErrSyntax : Tryz.prog.globalNamed "strconv.ErrSyntax" = some 5 := by kernel_rfl
theorem tyTab : (Tryz.prog.globals[4]?).map (·.type) = some 148 := by kernel_rfl
theorem tyRange : (Tryz.prog.globals[6]?).map (·.type) = some 51 := by kernel_rfl
theorem tySyntax : (Tryz.prog.globals[5]?).map (·.type) = some 51 := by kernel_rfl
theorem star : "*errors.errorString" = "*" ++ "errors.errorString" := by decide
theorem name_row (u : TypeId) (h : Tryz.prog.typeName? 3 u = some "*errors.errorString") : u = 160 :=
  typeName_ptr_named (nm := "errors.errorString") (by rw [← star]; kernel_rfl) (by kernel_rfl) (by decide) u (by rw [← star]; exact h)
theorem sentinel1 {P : Program} {n nm : String} {text : List UInt8} {r : List (String × DataW Unit)} {W : World} {g : Nat} {ti tp te ts : TypeId} {ms : Array (String × TypeId)} {f : Field}
    (h : laidMet P ((n, .iface nm (.ptr (.agg [.lit (.string text)]))) :: r) W)
    (hg : P.globalNamed n = some g) (ht : (P.globals[g]?).map (·.type) = some ti) (hi : P.underlying ti = some (.interface ms)) (hrow : ∀ u, P.typeName? 3 u = some nm → u = tp)
    (hp : P.underlying tp = some (.pointer te)) (he : P.underlying te = some (.struct #[f])) (hft : f.type = ts) (hfo : f.offset = 0) (hs : P.underlying ts = some .string) (hc : P.cellsOf te = 1) (hcs : P.cellsOf ts = 1) :
    ∃ (a : Addr) (s : ByteArray), W.cell? ⟨g, 0, none⟩ = some (.iface tp (.pointer (some a))) ∧ W.cell? a = some (.string s) ∧ s.data.toList = text ∧ ∃ c t, W.heap[a.block]? = some (.cells c t (0, 0)) := by
  obtain ⟨ps, ⟨g0', t0', cs0, f0, p0, q0, hg0', ht0', hv0, hd0, _, e0⟩, hnd, hrows⟩ := h
  obtain rfl := Option.some.inj (hg.symm.trans hg0')
  obtain rfl := Option.some.inj (ht.symm.trans ht0')
  subst e0
  obtain ⟨l0⟩ := cs0
  have ok0 : ∀ u v, l0 = [.iface u v] → Value.okWide P W .any 0 u v := fun u v e => by
    subst e
    exact (hrows g 0 (by simp [MemPlace.row])).2 u v (by simpa using World.var?_cell hg0' hv0 0)
  obtain ⟨a0, s0, rfl, hc0, hs0, hz0, rfl⟩ := errorString_of_trod hi hrow hp he hft hfo hs hc hcs hd0 ok0
  obtain ⟨c0, t0, hb0⟩ := (hrows a0.block a0.off (by simp [MemPlace.row])).1
  exact ⟨a0, s0, World.var?_cell hg0' hv0 0, hc0, hs0, c0, t0, hb0⟩
theorem gMany : Tryz.prog.globalNamed "postrider/dict.errMany" = some 1 := by kernel_rfl
theorem gEid : Tryz.prog.globalNamed "postrider/dict.errEid" = some 2 := by kernel_rfl
theorem gDict : Tryz.prog.globalNamed "postrider/dict.errDict" = some 0 := by kernel_rfl
theorem tyMany : (Tryz.prog.globals[1]?).map (·.type) = some 51 := by kernel_rfl
theorem tyEid : (Tryz.prog.globals[2]?).map (·.type) = some 51 := by kernel_rfl
theorem tyDict : (Tryz.prog.globals[0]?).map (·.type) = some 51 := by kernel_rfl
theorem addr_ne {W : World} {a b : Addr} {s t : ByteArray} (ha : W.cell? a = some (.string s)) (hb : W.cell? b = some (.string t)) (h : s.data.toList ≠ t.data.toList) : a ≠ b := fun e => by
  subst e
  rw [ha] at hb
  injection hb with hb
  injection hb with hb
  exact h (by rw [hb])
theorem laid_of {W : World} (h : laidMetH Tryz.prog laid5 W) (hsh : W.ShapedOpen Tryz.prog) : LaidD W := by
  rw [MakeChecks.laidMetH_plain _ _ _ (by kernel_rfl)] at h
  have h2 := h.tail.tail
  have h3 := h2.tail
  have h4 := h3.tail
  have h5 := h4.tail
  have h6 := h5.tail
  have h7 := h6.tail
  obtain ⟨a3, s3, hv3, _⟩ := sentinel1 h3 gErrRange tyRange Tryz.underlying51 name_row Tryz.underlying160 Tryz.underlying162 rfl rfl Tryz.underlying9 (by kernel_rfl) (by kernel_rfl)
  obtain ⟨a4, s4, hv4, _⟩ := sentinel1 h4 gErrSyntax tySyntax Tryz.underlying51 name_row Tryz.underlying160 Tryz.underlying162 rfl rfl Tryz.underlying9 (by kernel_rfl) (by kernel_rfl)
  obtain ⟨am, sm, hvm, hcm, hsm, hbm⟩ := sentinel1 h5 gMany tyMany Tryz.underlying51 name_row Tryz.underlying160 Tryz.underlying162 rfl rfl Tryz.underlying9 (by kernel_rfl) (by kernel_rfl)
  obtain ⟨ae, se, hve, hce, hse, hbe⟩ := sentinel1 h6 gEid tyEid Tryz.underlying51 name_row Tryz.underlying160 Tryz.underlying162 rfl rfl Tryz.underlying9 (by kernel_rfl) (by kernel_rfl)
  obtain ⟨ad, sd, hvd, hcd, hsd, hbd⟩ := sentinel1 h7 gDict tyDict Tryz.underlying51 name_row Tryz.underlying160 Tryz.underlying162 rfl rfl Tryz.underlying9 (by kernel_rfl) (by kernel_rfl)
  exact {
    laid := {
      max := cell_of_shapedOpen_int (zero := #[.int .i64 0]) (t := 3) hsh (of_decide_eq_true (by kernel_rfl)) (by kernel_rfl) rfl (by kernel_rfl) (by kernel_rfl) Tryz.underlying3
      tab := Lib.tabIs_of_head gTab tyTab Tryz.underlying148 Tryz.underlying133 (by kernel_rfl) (by kernel_rfl) h2
      syn := ⟨_, _, hv4⟩
      rng := ⟨_, _, hv3⟩ }
    errs := ⟨am, ae, ad, ⟨hvm, hbm⟩, ⟨hve, hbe⟩, ⟨hvd, hbd⟩, addr_ne hcm hce (by rw [hsm, hse]; decide), addr_ne hcm hcd (by rw [hsm, hsd]; decide), addr_ne hce hcd (by rw [hse, hsd]; decide)⟩ }
theorem door_met (os : Os) (args : Array Value) : laidMetH Tryz.prog laid5 ((World.doorLaid Tryz.prog 400 os).forCall (fun _ _ => 0) ⟨#[], args, []⟩).memory :=
  laidMetH_of_parts3 (fuel := 8) (laidMet_of_run' 8 (by kernel_rfl) (by kernel_rfl)) (by kernel_rfl) (by kernel_rfl)
section
variable {H : Type} {enc : TypeId × Value → H} {W : World} {base : Nat} {spare : Nat → Bool} {held : Bool}
theorem arr5 {cs : Array Value} (h : cs.size = 5) : ∃ c0 c1 c2 c3 c4, cs = #[c0, c1, c2, c3, c4] := by
  obtain ⟨l⟩ := cs
  match l, h with
  | [c0, c1, c2, c3, c4], _ => exact ⟨c0, c1, c2, c3, c4, rfl⟩
theorem cellsEid : Tryz.prog.cellsOf 41 = 5 := by kernel_rfl
theorem cellsStr : Tryz.prog.cellsOf 9 = 1 := by kernel_rfl
theorem cellsInt : Tryz.prog.cellsOf 3 = 1 := by kernel_rfl
set_option maxRecDepth 100000 in
theorem shut_eid (n : Int) (a1 a2 : ByteArray) (a3 a4 : Int) (w0 : (Lit.int .i64 n).wf = true) (s1 : a1.size ≤ maxLen) (s2 : a2.size ≤ maxLen) (w3 : (Lit.int .i64 a3).wf = true) (w4 : (Lit.int .i64 a4).wf = true) :
    DataW.Trod enc Tryz.prog W base spare held 41 (.agg #[.int .i64 n, .string a1, .string a2, .int .i64 a3, .int .i64 a4])
      (.agg [.lit (.int .i64 n), .lit (.string a1.data.toList), .lit (.string a2.data.toList), .lit (.int .i64 a3), .lit (.int .i64 a4)]) [] := by
  refine ⟨2, ?_⟩
  simp [DataW.trod, Value.cells, Tryz.underlying41, Tryz.underlying3, Tryz.underlying9, cellsEid, cellsStr, cellsInt, w0, s1, s2, w3, w4]
set_option maxRecDepth 100000 in
theorem open_eid {r : Reach} {b0 : Nat} {v : Value} {d : DataW H} {p : List MemPlace} (hv : Value.okWide Tryz.prog W r b0 41 v) (h : DataW.Trod enc Tryz.prog W base spare held 41 v d p) :
    ∃ (n : Int) (a1 a2 : ByteArray) (a3 a4 : Int), v = .agg #[.int .i64 n, .string a1, .string a2, .int .i64 a3, .int .i64 a4] ∧
      d = .agg [.lit (.int .i64 n), .lit (.string a1.data.toList), .lit (.string a2.data.toList), .lit (.int .i64 a3), .lit (.int .i64 a4)] ∧ p = [] ∧
      (Lit.int .i64 n).wf = true ∧ a1.size ≤ maxLen ∧ a2.size ≤ maxLen ∧ (Lit.int .i64 a3).wf = true ∧ (Lit.int .i64 a4).wf = true := by
  obtain ⟨cs, rfl, hsz⟩ := okWide_struct Tryz.underlying41 hv
  obtain ⟨c0, c1, c2, c3, c4, rfl⟩ := arr5 (hsz.trans cellsEid)
  obtain ⟨fuel, hf⟩ := h
  obtain ⟨xs, n, _, hx, hl, hlen, hg⟩ := DataW.trod_struct Tryz.underlying41 hf
  match xs, hlen with
  | [y0, y1, y2, y3, y4], _ =>
    simp only [Prod.mk.injEq] at hx
    obtain ⟨hd, hp⟩ := hx
    have g0 : DataW.trod enc Tryz.prog W base spare held n 3 [c0] = some y0 := by have := hg 0 _ rfl; simpa [Value.cells, cellsInt, cellsStr] using this
    have g1 : DataW.trod enc Tryz.prog W base spare held n 9 [c1] = some y1 := by have := hg 1 _ rfl; simpa [Value.cells, cellsInt, cellsStr] using this
    have g2 : DataW.trod enc Tryz.prog W base spare held n 9 [c2] = some y2 := by have := hg 2 _ rfl; simpa [Value.cells, cellsInt, cellsStr] using this
    have g3 : DataW.trod enc Tryz.prog W base spare held n 3 [c3] = some y3 := by have := hg 3 _ rfl; simpa [Value.cells, cellsInt, cellsStr] using this
    have g4 : DataW.trod enc Tryz.prog W base spare held n 3 [c4] = some y4 := by have := hg 4 _ rfl; simpa [Value.cells, cellsInt, cellsStr] using this
    obtain ⟨m0, e0, x0, w0⟩ := DataW.trod_int Tryz.underlying3 g0
    obtain ⟨m1, e1, x1, w1⟩ := DataW.trod_string Tryz.underlying9 g1
    obtain ⟨m2, e2, x2, w2⟩ := DataW.trod_string Tryz.underlying9 g2
    obtain ⟨m3, e3, x3, w3⟩ := DataW.trod_int Tryz.underlying3 g3
    obtain ⟨m4, e4, x4, w4⟩ := DataW.trod_int Tryz.underlying3 g4
    simp only [List.cons.injEq, and_true] at e0 e1 e2 e3 e4
    subst e0 e1 e2 e3 e4 x0 x1 x2 x3 x4
    exact ⟨m0, m1, m2, m3, m4, rfl, by rw [hd]; rfl, by rw [hp]; rfl, w0, w1, w2, w3, w4⟩
theorem post_plain {f : Func} {s : ChangeSpec} {W' : World} {args : Array Value} {v : Value} {ds : List (DataW H)} (hs : s.vars = [])
    (hW : DataW.Whole enc Tryz.prog f.params.toList s.vars false W args.toList ds [] [])
    (hres : ∀ (b : Nat) (sp : Nat → Bool), DataW.TrodAll enc Tryz.prog W' b sp false f.resultTypes.toList (v.resultList f.resultTypes.size) (s.fn H (ds ++ [])).results [])
    (hargs : ∀ sp : Nat → Bool, DataW.TrodAll enc Tryz.prog W' 0 sp true f.params.toList args.toList (s.fn H (ds ++ [])).args [])
    (hvars : (s.fn H (ds ++ [])).vars = []) (hb : Below W.heap.size W W') : s.post enc Tryz.prog f false true false false W args v W' := by
  refine ⟨ds, [], [], [], [], [], hW, hres _ _, hargs _, ?_, hb.frame _, fun h => by cases h⟩
  rw [hvars, hs]
  exact rfl
end
end Go.Proofs.YtbjbicaffblchaaGreatDoor.Hand
end
section
namespace Go.Proofs.YtbjbicaffblchaaGreatDoor.SK
open Go.Proofs.YtbjbicaffblchaaGreatDoor.Hand
open Go.Proofs.YtbjbicaffblchaaGreatDoor.SA
open Go.RowKit Go.Proofs.YtbjbicaffblchaaGreatDoorW.PrintWords Go.Proofs.YtbjbicaffblchaaGreatDoorW.PrintLast Go.Proofs.YtbjbicaffblchaaGreatDoorW.PrintMore
attribute [local go_sem] max2_int min2_int max_two min_two max_three min_three max_four min_four
set_option linter.unusedVariables false
set_option linter.unusedSimpArgs false
def errW : Option Int → Value
  | none => .nilIface
  | some c => .iface 0 (.int .i64 c)
theorem errW_none : errW none = .nilIface := rfl
theorem errW_some (c : Int) : errW (some c) = .iface 0 (.int .i64 c) := rfl
theorem info3 : (Tryz.prog.info? 3).map (fun i => (i.zero, i.size, i.bytes)) = some (some (.int .i64 0), 1, 8) := by kernel_rfl
theorem info41 : (Tryz.prog.info? 41).map (fun i => (i.zero, i.size, i.bytes)) = some (some (.agg #[(.int .i64 0), (.string ⟨#[]⟩), (.string ⟨#[]⟩), (.int .i64 0), (.int .i64 0)]), 5, 56) := by kernel_rfl
structure S41 where
  f0 : Int
  f1 : ByteArray
  f2 : ByteArray
  f3 : Int
  f4 : Int
def z41 : S41 := ⟨(0 : Int), (⟨#[]⟩ : ByteArray), (⟨#[]⟩ : ByteArray), (0 : Int), (0 : Int)⟩
def k41 : Kd S41 := Kd.iso (Kd.pair (Kd.int .i64) (Kd.pair Kd.string (Kd.pair Kd.string (Kd.pair (Kd.int .i64) (Kd.int .i64))))) (fun x : S41 => (x.f0, x.f1, x.f2, x.f3, x.f4))
theorem k41_open {w : World} {x : S41} {cs : List Value} (h : k41.K w x cs) : cs = [.int .i64 x.f0, .string x.f1, .string x.f2, .int .i64 x.f3, .int .i64 x.f4] := by
  obtain ⟨_, _, rfl, rfl, ⟨_, _, rfl, rfl, ⟨_, _, rfl, rfl, ⟨_, _, rfl, rfl, rfl⟩⟩⟩⟩ := h
  exact rfl
theorem k41_openM {w : World} {base : Nat} {ok : Nat → Prop} {x : S41} {cs : List Value} (h : k41.M w base ok x cs) : cs = [.int .i64 x.f0, .string x.f1, .string x.f2, .int .i64 x.f3, .int .i64 x.f4] := by
  obtain ⟨_, _, rfl, rfl, ⟨_, _, rfl, rfl, ⟨_, _, rfl, rfl, ⟨_, _, rfl, rfl, rfl⟩⟩⟩⟩ := h
  exact rfl
theorem k41_mk (w : World) (x : S41)  : k41.K w x [.int .i64 x.f0, .string x.f1, .string x.f2, .int .i64 x.f3, .int .i64 x.f4] := ⟨[.int .i64 x.f0], [.string x.f1, .string x.f2, .int .i64 x.f3, .int .i64 x.f4], rfl, rfl, ⟨[.string x.f1], [.string x.f2, .int .i64 x.f3, .int .i64 x.f4], rfl, rfl, ⟨[.string x.f2], [.int .i64 x.f3, .int .i64 x.f4], rfl, rfl, ⟨[.int .i64 x.f3], [.int .i64 x.f4], rfl, rfl, rfl⟩⟩⟩⟩
theorem k41_mkM (w : World) (base : Nat) (ok : Nat → Prop) (x : S41)  : k41.M w base ok x [.int .i64 x.f0, .string x.f1, .string x.f2, .int .i64 x.f3, .int .i64 x.f4] := ⟨[.int .i64 x.f0], [.string x.f1, .string x.f2, .int .i64 x.f3, .int .i64 x.f4], rfl, rfl, ⟨[.string x.f1], [.string x.f2, .int .i64 x.f3, .int .i64 x.f4], rfl, rfl, ⟨[.string x.f2], [.int .i64 x.f3, .int .i64 x.f4], rfl, rfl, ⟨[.int .i64 x.f3], [.int .i64 x.f4], rfl, rfl, rfl⟩⟩⟩⟩
def rd_T41 (xs : List S41) (i : Int) : S41 := xs.getD i.toNat z41
theorem at_T41 {w : World} {A : Option Addr} {n : Nat} {xs : List S41} (h : Kd.C k41 w A n xs) (i : Int) (h0 : 0 ≤ i) (h1 : i < n) : ∃ ad , A = some ad ∧ w.cell? (ad.add (i.toNat * 5)) = some (.int .i64 (rd_T41 xs i).f0) ∧ w.cell? ⟨(ad.add (i.toNat * 5)).block, (ad.add (i.toNat * 5)).off + 1, none⟩ = some (.string (rd_T41 xs i).f1) ∧ w.cell? ⟨(ad.add (i.toNat * 5)).block, (ad.add (i.toNat * 5)).off + 2, none⟩ = some (.string (rd_T41 xs i).f2) ∧ w.cell? ⟨(ad.add (i.toNat * 5)).block, (ad.add (i.toNat * 5)).off + 3, none⟩ = some (.int .i64 (rd_T41 xs i).f3) ∧ w.cell? ⟨(ad.add (i.toNat * 5)).block, (ad.add (i.toNat * 5)).off + 4, none⟩ = some (.int .i64 (rd_T41 xs i).f4) := by
  obtain ⟨ad, c, e, _, hK, hc0⟩ := Kd.C_get h z41 i h0 h1
  have hc : ∀ j u, c[j]? = some u → w.cell? (ad.add (i.toNat * 5 + j)) = some u := hc0
  obtain rfl := k41_open hK
  exact ⟨ad, e, hc 0 _ rfl, by rw [← add_field _ _ 1 (by omega)]; exact hc 1 _ rfl, by rw [← add_field _ _ 2 (by omega)]; exact hc 2 _ rfl, by rw [← add_field _ _ 3 (by omega)]; exact hc 3 _ rfl, by rw [← add_field _ _ 4 (by omega)]; exact hc 4 _ rfl⟩
end Go.Proofs.YtbjbicaffblchaaGreatDoor.SK
end
section
namespace Go.Proofs.YtbjbicaffblchaaGreatDoor.SK
open Go.Proofs.YtbjbicaffblchaaGreatDoor.Hand
open Go.Proofs.YtbjbicaffblchaaGreatDoor.SA
open Go.RowKit Go.Proofs.YtbjbicaffblchaaGreatDoorW.PrintWords Go.Proofs.YtbjbicaffblchaaGreatDoorW.PrintLast Go.Proofs.YtbjbicaffblchaaGreatDoorW.PrintMore
attribute [local go_sem] max2_int min2_int max_two min_two max_three min_three max_four min_four
set_option linter.unusedVariables false
set_option linter.unusedSimpArgs false
theorem eqA41 (d : Nat) (w : World) (x0 y0 : Int) (x1 y1 : ByteArray) (x2 y2 : ByteArray) (x3 y3 : Int) (x4 y4 : Int) :
    (Op.equalIn (d + 2) 41 (.agg #[.int .i64 x0, .string x1, .string x2, .int .i64 x3, .int .i64 x4]) (.agg #[.int .i64 y0, .string y1, .string y2, .int .i64 y3, .int .i64 y4])).run Tryz.prog w = .ok (x0 == y0 && (x1.toList == y1.toList && (x2.toList == y2.toList && (x3 == y3 && (x4 == y4))))) w := by
  refine eqA_of Tryz.underlying41 (by kernel_rfl) ?_
  refine eqf_cons (by rfl) (by go_simp; rfl) (by go_simp; rfl) (by go_simp) ?_
  refine eqf_cons (by rfl) (by go_simp; rfl) (by go_simp; rfl) (by go_simp) ?_
  refine eqf_cons (by rfl) (by go_simp; rfl) (by go_simp; rfl) (by go_simp) ?_
  refine eqf_cons (by rfl) (by go_simp; rfl) (by go_simp; rfl) (by go_simp) ?_
  exact eqf_last (by rfl) (by go_simp; rfl) (by go_simp; rfl) (by go_simp)
end Go.Proofs.YtbjbicaffblchaaGreatDoor.SK
end
section
namespace Go.Proofs.YtbjbicaffblchaaGreatDoor.SK
open Go.Proofs.YtbjbicaffblchaaGreatDoor.Hand
open Go.Proofs.YtbjbicaffblchaaGreatDoor.SA
open Go.RowKit Go.Proofs.YtbjbicaffblchaaGreatDoorW.PrintWords Go.Proofs.YtbjbicaffblchaaGreatDoorW.PrintLast Go.Proofs.YtbjbicaffblchaaGreatDoorW.PrintMore
attribute [local go_sem] max2_int min2_int max_two min_two max_three min_three max_four min_four
set_option linter.unusedVariables false
set_option linter.unusedSimpArgs false
attribute [local go_sem high] eqA41
def postriderref06_Same.l0 : Nat → List (S41) → List (S41) → Int → Option (Bool)
  | 0, _, _, _ => none
  | k + 1, x0, x1, x5 => if x5 < (x0.length : Int) then (if 0 ≤ x5 then (if x5 < (x1.length : Int) then (if (!(((rd_T41 x0 x5).f0) == ((rd_T41 x1 x5).f0)) || (!((((rd_T41 x0 x5).f1).toList) == (((rd_T41 x1 x5).f1).toList)) || (!((((rd_T41 x0 x5).f2).toList) == (((rd_T41 x1 x5).f2).toList)) || (!(((rd_T41 x0 x5).f3) == ((rd_T41 x1 x5).f3)) || (!(((rd_T41 x0 x5).f4) == ((rd_T41 x1 x5).f4))))))) = true then (some false) else (postriderref06_Same.l0 k x0 x1 (wrap64 (x5 + 1)))) else (none)) else (none)) else (some true)
def postriderref06_Same.f (k : Nat) (l0 : List (S41)) (l1 : List (S41)) : Option (Bool) := if (l0.length : Int) = (l1.length : Int) then (postriderref06_Same.l0 k l0 l1 0) else (some false)
theorem postriderref06_Same.mono_l : ∀ k, (∀ y0 y1 y2, LeO (postriderref06_Same.l0 k y0 y1 y2) (postriderref06_Same.l0 (k + 1) y0 y1 y2))
  | 0 => fun _ _ _ r h => by simp [postriderref06_Same.l0] at h
  | k + 1 => by
    have ih0 := postriderref06_Same.mono_l k
    · intro y0 y1 y2
      unfold postriderref06_Same.l0
      repeat' first
      | (with_reducible exact ih0 _ _ _)
      | (with_reducible exact LeO.refl _)
      | (with_reducible exact LeO.none _)
      | (with_reducible refine LeO.ite ?_ ?_)
      | (with_reducible refine LeO.bind ?_ (fun _ => ?_))
      | exact ih0 _ _ _
      | exact LeO.none _
      | refine LeO.ite ?_ ?_
      | refine LeO.bind ?_ (fun _ => ?_)
theorem postriderref06_Same.mono : ∀ a0 a1 k, LeO (postriderref06_Same.f k a0 a1) (postriderref06_Same.f (k + 1) a0 a1) := by
  intro a0 a1 k
  have ih0 := postriderref06_Same.mono_l k
  unfold postriderref06_Same.f
  repeat' first
      | (with_reducible exact ih0 _ _ _)
      | (with_reducible exact LeO.refl _)
      | (with_reducible exact LeO.none _)
      | (with_reducible refine LeO.ite ?_ ?_)
      | (with_reducible refine LeO.bind ?_ (fun _ => ?_))
      | exact ih0 _ _ _
      | exact LeO.none _
      | refine LeO.ite ?_ ?_
      | refine LeO.bind ?_ (fun _ => ?_)
set_option maxHeartbeats 8000000 in
set_option maxRecDepth 100000 in
theorem postriderref06_Same.calls (k : Nat) (A0 : Option Addr) (c0 : Nat) (l0 : List (S41)) (A1 : Option Addr) (c1 : Nat) (l1 : List (S41)) (r : Bool) (w : World) (hr0 : Kd.C k41 w A0 l0.length l0) (hc0 : l0.length ≤ c0) (hr1 : Kd.C k41 w A1 l1.length l1) (hc1 : l1.length ≤ c1) (h : postriderref06_Same.f k l0 l1 = some r) :
    Calls Tryz.prog 19 #[.slice A0 l0.length c0, .slice A1 l1.length c1] w fun e w' => e = .returned (.bool r) ∧ Drawn0 w w' := by
  have hu41 := Tryz.underlying41
  have HR0 := Aside0.mk hr0
  have HC0 := Aside0.mk hc0
  clear hr0 hc0
  have HR1 := Aside0.mk hr1
  have HC1 := Aside0.mk hc1
  clear hr1 hc1
  have H : (if (l0.length : Int) = (l1.length : Int) then (postriderref06_Same.l0 k l0 l1 0) else (some false)) = some r := h
  clear h
  by_cases c3 : (l0.length : Int) = (l1.length : Int)
  · rw [if_pos c3] at H
    have c3b0 : ((l0.length : Int) == (l1.length : Int)) = true := beq_iff_eq.mpr c3
    have c3b1 : ((l0.length : Int) != (l1.length : Int)) = false := bne_eq_false_iff_eq.mpr c3
    have c3b2 : (l0.length == l1.length) = true := by first | simpa using c3 | (simp at c3 ⊢; omega)
    clear c3
    have H' := Aside0.mk H
    clear H
    go_enter Tryz.func19, Tryz.ntmps19
    go_wp2
    repeat (go_quiet (fail); try go_wp2)
    go_loopg [5] k (fun kq v5 w' => ∃ (x5_1 : Int), v5 = .int .i64 x5_1 ∧ Aside0 (postriderref06_Same.l0 kq l0 l1 x5_1 = some r) ∧ Aside0 (kq ≤ k) ∧ Drawn0 w w')
    case atStart => exact ⟨(0), (by first | rfl | (simp; done) | (simp [*]; done)), H', ⟨Nat.le_refl _⟩, by repeat (first | exact Drawn0.refl _ | apply Drawn0.step)⟩
    case round =>
      clear H'
      try clear c1
      try clear p2
      try clear c3
      try clear c3b0
      try clear c3b1
      try clear c3b2
      obtain ⟨x5_1, rfl, HA, HK1, ⟨m1, rfl⟩⟩ := hrel
      cases gk with
      | zero => exact absurd HA.out (by simp [postriderref06_Same.l0])
      | succ k1 =>
        have H := HA.out
        clear HA
        simp only [postriderref06_Same.l0] at H
        by_cases c4 : x5_1 < (l0.length : Int)
        · rw [if_pos c4] at H
          have c4b0 : decide (x5_1 < (l0.length : Int)) = true := decide_eq_true c4
          clear c4
          by_cases c5 : 0 ≤ x5_1
          · rw [if_pos c5] at H
            have c5b0 : decide (0 ≤ x5_1) = true := decide_eq_true c5
            clear c5
            by_cases c6 : x5_1 < (l1.length : Int)
            · rw [if_pos c6] at H
              have c6b0 : decide (x5_1 < (l1.length : Int)) = true := decide_eq_true c6
              clear c6
              by_cases c7 : (!(((rd_T41 l0 x5_1).f0) == ((rd_T41 l1 x5_1).f0)) || (!((((rd_T41 l0 x5_1).f1).toList) == (((rd_T41 l1 x5_1).f1).toList)) || (!((((rd_T41 l0 x5_1).f2).toList) == (((rd_T41 l1 x5_1).f2).toList)) || (!(((rd_T41 l0 x5_1).f3) == ((rd_T41 l1 x5_1).f3)) || (!(((rd_T41 l0 x5_1).f4) == ((rd_T41 l1 x5_1).f4))))))) = true
              · rw [if_pos c7] at H
                have c7b0 : (!(((rd_T41 l0 x5_1).f0) == ((rd_T41 l1 x5_1).f0)) || (!((((rd_T41 l0 x5_1).f1).toList) == (((rd_T41 l1 x5_1).f1).toList)) || (!((((rd_T41 l0 x5_1).f2).toList) == (((rd_T41 l1 x5_1).f2).toList)) || (!(((rd_T41 l0 x5_1).f3) == ((rd_T41 l1 x5_1).f3)) || (!(((rd_T41 l0 x5_1).f4) == ((rd_T41 l1 x5_1).f4))))))) = true := c7
                clear c7
                obtain rfl := Option.some.inj H
                have p119 : 0 ≤ (x5_1 : Int) := of_decide_eq_true (by first | (with_reducible assumption) | assumption)
                have q119 : x5_1 < (l0.length : Int) := of_decide_eq_true (by first | (with_reducible assumption) | assumption)
                obtain ⟨ad119, e119, hx119_0, hx119_1, hx119_2, hx119_3, hx119_4⟩ := at_T41 HR0.out x5_1 p119 q119
                cases e119
                replace p119 := eq_true p119
                replace q119 := eq_true q119
                have p120 : 0 ≤ (x5_1 : Int) := of_decide_eq_true (by first | (with_reducible assumption) | assumption)
                have q120 : x5_1 < (l1.length : Int) := of_decide_eq_true (by first | (with_reducible assumption) | assumption)
                obtain ⟨ad120, e120, hx120_0, hx120_1, hx120_2, hx120_3, hx120_4⟩ := at_T41 HR1.out x5_1 p120 q120
                cases e120
                replace p120 := eq_true p120
                replace q120 := eq_true q120
                go_wp2
                repeat (go_quiet (fail); try go_wp2)
                all_goals (first | (go_ret; exact ⟨by first | rfl | (simp; done) | (simp [*]; done) | (simp_all; done), by repeat (first | exact Drawn0.refl _ | apply Drawn0.step)⟩) | (exfalso; simp_all; done))
              · rw [if_neg c7] at H
                have c7b0 : (!(((rd_T41 l0 x5_1).f0) == ((rd_T41 l1 x5_1).f0)) || (!((((rd_T41 l0 x5_1).f1).toList) == (((rd_T41 l1 x5_1).f1).toList)) || (!((((rd_T41 l0 x5_1).f2).toList) == (((rd_T41 l1 x5_1).f2).toList)) || (!(((rd_T41 l0 x5_1).f3) == ((rd_T41 l1 x5_1).f3)) || (!(((rd_T41 l0 x5_1).f4) == ((rd_T41 l1 x5_1).f4))))))) = false := by simpa using c7
                clear c7
                have H' := Aside0.mk H
                clear H
                have p119 : 0 ≤ (x5_1 : Int) := of_decide_eq_true (by first | (with_reducible assumption) | assumption)
                have q119 : x5_1 < (l0.length : Int) := of_decide_eq_true (by first | (with_reducible assumption) | assumption)
                obtain ⟨ad119, e119, hx119_0, hx119_1, hx119_2, hx119_3, hx119_4⟩ := at_T41 HR0.out x5_1 p119 q119
                cases e119
                replace p119 := eq_true p119
                replace q119 := eq_true q119
                have p120 : 0 ≤ (x5_1 : Int) := of_decide_eq_true (by first | (with_reducible assumption) | assumption)
                have q120 : x5_1 < (l1.length : Int) := of_decide_eq_true (by first | (with_reducible assumption) | assumption)
                obtain ⟨ad120, e120, hx120_0, hx120_1, hx120_2, hx120_3, hx120_4⟩ := at_T41 HR1.out x5_1 p120 q120
                cases e120
                replace p120 := eq_true p120
                replace q120 := eq_true q120
                go_wp2
                repeat (go_quiet (fail); try go_wp2)
                go_roundg k1
                case measure => have := HK1.out; omega
                case rel => exact ⟨(wrap64 (x5_1 + 1)), (by first | rfl | (simp; done) | (simp [*]; done)), H', ⟨by have := HK1.out; omega⟩, by repeat (first | exact Drawn0.refl _ | apply Drawn0.step)⟩
            · rw [if_neg c6] at H
              exact absurd H (by simp)
          · rw [if_neg c5] at H
            exact absurd H (by simp)
        · rw [if_neg c4] at H
          have c4b0 : decide (x5_1 < (l0.length : Int)) = false := decide_eq_false c4
          clear c4
          obtain rfl := Option.some.inj H
          go_wp2
          repeat (go_quiet (fail); try go_wp2)
          all_goals (first | (go_ret; exact ⟨by first | rfl | (simp; done) | (simp [*]; done) | (simp_all; done), by repeat (first | exact Drawn0.refl _ | apply Drawn0.step)⟩) | (exfalso; simp_all; done))
  · rw [if_neg c3] at H
    have c3b0 : ((l0.length : Int) == (l1.length : Int)) = false := beq_eq_false_iff_ne.mpr c3
    have c3b1 : ((l0.length : Int) != (l1.length : Int)) = true := bne_iff_ne.mpr c3
    have c3b2 : (l0.length == l1.length) = false := by first | simpa using c3 | (simp at c3 ⊢; omega)
    obtain rfl := Option.some.inj H
    go_enter Tryz.func19, Tryz.ntmps19
    go_wp2
    repeat (go_quiet (fail); try go_wp2)
    all_goals (first | (go_ret; exact ⟨by first | rfl | (simp; done) | (simp [*]; done) | (simp_all; done), by repeat (first | exact Drawn0.refl _ | apply Drawn0.step)⟩) | (exfalso; simp_all; done))
end Go.Proofs.YtbjbicaffblchaaGreatDoor.SK
end
section
namespace Go.Proofs.YtbjbicaffblchaaGreatDoor.Hand
open Go.RowKit Go.Proofs.YtbjbicaffblchaaGreatDoorW Go.Proofs.YtbjbicaffblchaaGreatDoorW.PrintWords Go.Proofs.YtbjbicaffblchaaGreatDoor.SK
abbrev Nm := S41
abbrev kNm : Kd Nm := k41
abbrev Nm.v (x : Nm) : Value := .agg #[.int .i64 x.f0, .string x.f1, .string x.f2, .int .i64 x.f3, .int .i64 x.f4]
def Nm.ok (x : Nm) : Prop := x.f1.size ≤ maxLen ∧ x.f2.size ≤ maxLen
def PredNm (g : Nat) (p : Nm → Bool) (w : World) : Prop := ∀ (W : World) (x : Nm), Below w.heap.size w W → x.ok → Calls Tryz.prog g #[x.v] W fun e w' => e = .returned (.bool (p x)) ∧ Below w.heap.size w w'
theorem isDtn_calls (w : World) : PredNm 38 (fun x => x.f0 == 1) w := fun W x hb _ => by
  go_enter Tryz.func38, Tryz.ntmps38
  go_wp2
  all_goals (go_ret; exact ⟨by simp_all, hb.alloc hb.size _⟩)
theorem isOther_calls (w : World) : PredNm 39 (fun x => !rightS x.f0 x.f1 x.f2 x.f3 x.f4) w := fun W x hb hok => by
  have hR := fun W => eid_Right.calls x.f0 x.f1 x.f2 x.f3 x.f4 (rightS x.f0 x.f1 x.f2 x.f3 x.f4) W (by unfold eid_Right.f; exact if_pos hok)
  have hu := Tryz.underlying41
  go_enter Tryz.func39, Tryz.ntmps39
  go_wp2_with (go_at_call 36; refine (hR _).mono ?_; rintro e w' ⟨rfl, hb'⟩)
  go_ret
  exact ⟨by simp, (hb.alloc hb.size _).trans (hb'.mono (by have := hb.size; simp; omega))⟩
set_option maxHeartbeats 2000000 in
theorem index_nm (g : Nat) (p : Nm → Bool) (eg : ∀ args w, (callFunc g args).run Tryz.prog w = .ok (.enter g args) w) (A : Option Addr) (c : Nat) (l : List Nm) (w : World)
    (hp : PredNm g p w) (hr : Kd.C kNm w A l.length l) (hok : ∀ x ∈ l, x.ok) (hbig : l.length ≤ 9223372036854775807) :
    Calls Tryz.prog 60 #[.slice A l.length c, .func (.func g) #[] #[]] w fun e w' => (∃ i : Int, e = .returned (.int .i64 i) ∧ decide (0 ≤ i) = l.any p) ∧ Below w.heap.size w w' := by
  have hu := Tryz.underlying41
  have HR := Lib.hid hr
  have HP := Lib.hid hp
  have HO := Lib.hid hok
  clear hr hp hok
  go_enter Tryz.func60, Tryz.ntmps60
  go_wp2
  go_loopg [5, 8] l.length (fun gg _ s8 wr => ∃ kk : Nat, kk ≤ l.length ∧ l.length - kk ≤ gg ∧ s8 = .int .i64 kk ∧ Hid (Below w.heap.size w wr) ∧ Hid ((l.take kk).any p = false))
  case atStart => exact ⟨0, Nat.zero_le _, by omega, rfl, Lib.hid (Below.refl _ w), Lib.hid (by simp)⟩
  case round =>
    obtain ⟨kk, hkk, hg, rfl, BW, AA⟩ := hrel
    by_cases hlt : kk < l.length
    · have hltz : (kk : Int) < (l.length : Int) := by omega
      obtain ⟨ad, hA, x0, x1, x2, x3, x4⟩ := at_T41 HR.out (kk : Int) (by omega) hltz
      subst hA
      have hmem : rd_T41 l (kk : Int) ∈ l := by
        unfold rd_T41
        rw [List.getD_eq_getElem?_getD, Int.toNat_natCast, List.getElem?_eq_getElem hlt]
        exact List.getElem_mem _
      have htk : (l.take (kk + 1)).any p = ((l.take kk).any p || p (rd_T41 l (kk : Int))) := by
        unfold rd_T41
        rw [List.getD_eq_getElem?_getD, Int.toNat_natCast, List.getElem?_eq_getElem hlt, List.take_succ_eq_append_getElem hlt, List.any_append]
        simp only [List.any_cons, List.any_nil, Bool.or_false, Option.getD_some]
      have hcall := HP.out wr (rd_T41 l (kk : Int)) BW.out (HO.out _ hmem)
      generalize rd_T41 l (kk : Int) = y at *
      have HT := Lib.hid htk
      clear htk hmem
      simp only [Int.toNat_natCast] at x0 x1 x2 x3 x4
      replace x0 := (BW.out.cell (World.block_lt_of_cell? w _ x0)).trans x0
      replace x1 := (BW.out.cell (World.block_lt_of_cell? w _ x1)).trans x1
      replace x2 := (BW.out.cell (World.block_lt_of_cell? w _ x2)).trans x2
      replace x3 := (BW.out.cell (World.block_lt_of_cell? w _ x3)).trans x3
      replace x4 := (BW.out.cell (World.block_lt_of_cell? w _ x4)).trans x4
      cases hq : p y with
      | true =>
        rw [hq] at hcall
        go_wp2_with (go_at_fn g; refine hcall.mono ?_; rintro e w' ⟨rfl, hb'⟩)
        go_ret
        refine ⟨⟨_, rfl, ?_⟩, hb'⟩
        rw [show l.any p = true from ?_]
        · simp
        · have h1 : (l.take (kk + 1)).any p = true := by rw [HT.out, hq]; simp
          rw [← List.take_append_drop (kk + 1) l, List.any_append, h1]
          rfl
      | false =>
        rw [hq] at hcall
        go_wp2_with (go_at_fn g; refine hcall.mono ?_; rintro e w' ⟨rfl, hb'⟩)
        go_roundg (l.length - (kk + 1))
        case measure => omega
        case rel => exact ⟨kk + 1, by omega, by omega, by go_num, Lib.hid hb', Lib.hid (by rw [HT.out, hq, AA.out]; rfl)⟩
    · have hltz : ¬ (kk : Int) < (l.length : Int) := by omega
      have hk : kk = l.length := by omega
      subst hk
      go_wp2
      go_ret
      refine ⟨⟨_, rfl, ?_⟩, BW.out⟩
      have := AA.out
      rw [List.take_length] at this
      rw [this]
      rfl
theorem contains_nm (g : Nat) (p : Nm → Bool) (eg : ∀ args w, (callFunc g args).run Tryz.prog w = .ok (.enter g args) w) (A : Option Addr) (c : Nat) (l : List Nm) (w : World)
    (hp : PredNm g p w) (hr : Kd.C kNm w A l.length l) (hok : ∀ x ∈ l, x.ok) (hbig : l.length ≤ 9223372036854775807) :
    Calls Tryz.prog 40 #[.slice A l.length c, .func (.func g) #[] #[]] w fun e w' => e = .returned (.bool (l.any p)) ∧ Below w.heap.size w w' := by
  have hI := index_nm g p eg A c l w hp hr hok hbig
  clear hp hr hok
  go_enter Tryz.func40, Tryz.ntmps40
  go_wp2_with (go_at_call 60; refine hI.mono ?_; rintro e w' ⟨⟨i, rfl, hi⟩, hb'⟩)
  all_goals (go_ret; refine ⟨?_, hb'⟩; rw [← hi]; simp_all)
end Go.Proofs.YtbjbicaffblchaaGreatDoor.Hand
end
section
namespace Go.Proofs.YtbjbicaffblchaaGreatDoor.Hand
open Go.ChangeShapes Go.WideShapes Go.ChangeAt Go.RowKit Go.Proofs.YtbjbicaffblchaaGreatDoorW Go.Proofs.YtbjbicaffblchaaGreatDoorW.PrintWords Go.Proofs.YtbjbicaffblchaaGreatDoor.SK
theorem laidOut : laidOutB Tryz.prog = true := by kernel_rfl
section
variable {H : Type} {enc : TypeId × Value → H} {W : World} {base : Nat} {spare : Nat → Bool} {held : Bool}
set_option maxRecDepth 100000 in
theorem eid_cells {fuel : Nat} {cs : List Value} {x : DataW H × List MemPlace} (h : DataW.trod enc Tryz.prog W base spare held fuel 41 cs = some x) :
    ∃ z : Nm, cs = [.int .i64 z.f0, .string z.f1, .string z.f2, .int .i64 z.f3, .int .i64 z.f4] := by
  obtain ⟨xs, n, _, hx, hl, hlen, hg⟩ := DataW.trod_struct Tryz.underlying41 h
  rw [cellsEid] at hl
  match cs, hl with
  | [c0, c1, c2, c3, c4], _ =>
    match xs, hlen with
    | [y0, y1, y2, y3, y4], _ =>
      have g0 : DataW.trod enc Tryz.prog W base spare held n 3 [c0] = some y0 := by have := hg 0 _ rfl; simpa [cellsInt, cellsStr] using this
      have g1 : DataW.trod enc Tryz.prog W base spare held n 9 [c1] = some y1 := by have := hg 1 _ rfl; simpa [cellsInt, cellsStr] using this
      have g2 : DataW.trod enc Tryz.prog W base spare held n 9 [c2] = some y2 := by have := hg 2 _ rfl; simpa [cellsInt, cellsStr] using this
      have g3 : DataW.trod enc Tryz.prog W base spare held n 3 [c3] = some y3 := by have := hg 3 _ rfl; simpa [cellsInt, cellsStr] using this
      have g4 : DataW.trod enc Tryz.prog W base spare held n 3 [c4] = some y4 := by have := hg 4 _ rfl; simpa [cellsInt, cellsStr] using this
      obtain ⟨m0, e0, _, _⟩ := DataW.trod_int Tryz.underlying3 g0
      obtain ⟨m1, e1, _, _⟩ := DataW.trod_string Tryz.underlying9 g1
      obtain ⟨m2, e2, _, _⟩ := DataW.trod_string Tryz.underlying9 g2
      obtain ⟨m3, e3, _, _⟩ := DataW.trod_int Tryz.underlying3 g3
      obtain ⟨m4, e4, _, _⟩ := DataW.trod_int Tryz.underlying3 g4
      simp only [List.cons.injEq, and_true] at e0 e1 e2 e3 e4
      subst e0 e1 e2 e3 e4
      exact ⟨⟨m0, m1, m2, m3, m4⟩, rfl⟩
set_option maxRecDepth 100000 in
theorem open_nms {r : Reach} {b0 : Nat} {v : Value} {d : DataW H} {p : List MemPlace} (hv : Value.okWide Tryz.prog W r b0 22 v) (h : DataW.Trod enc Tryz.prog W base spare held 22 v d p) :
    ∃ (A : Option Addr) (c : Nat) (l : List Nm), v = .slice A l.length c ∧ l.length ≤ c ∧ Kd.C kNm W A l.length l := by
  obtain ⟨A, len, cap, rfl⟩ := okWide_slice Tryz.underlying22 hv
  obtain ⟨fuel, hf⟩ := h
  rcases DataW.trod_slice Tryz.underlying22 hf with ⟨hcs, _⟩ | ⟨a, len', cap', elems, rest, n, _, hcs, _, _, hl, hm, hlen, hel, _, _⟩
  · simp [Value.cells] at hcs
    obtain ⟨rfl, rfl, rfl⟩ := hcs
    exact ⟨none, 0, [], rfl, Nat.le_refl _, rfl, Nat.zero_le _, fun h => absurd h (Nat.lt_irrefl _)⟩
  · simp [Value.cells] at hcs
    obtain ⟨rfl, rfl, rfl⟩ := hcs
    have hx : ∀ i, ∃ z : Nm, i < len → ∀ j u, ([.int .i64 z.f0, .string z.f1, .string z.f2, .int .i64 z.f3, .int .i64 z.f4] : List Value)[j]? = some u → W.cell? (a.add (i * 5 + j)) = some u := by
      intro i
      by_cases hi : i < len
      · have h1 := hel i hi
        rw [List.getElem?_eq_getElem (by omega), cellsEid, Option.bind_eq_some_iff] at h1
        obtain ⟨cs, hc, ht⟩ := h1
        obtain ⟨z, rfl⟩ := eid_cells ht
        obtain ⟨_, _, hcell⟩ := World.cells?_some hc
        refine ⟨z, fun _ j u hu => ?_⟩
        have hj : j < 5 := (List.getElem?_eq_some_iff.1 hu).1
        rw [← Addr.add_add, hcell j hj, hu]
      · exact ⟨⟨0, ⟨#[]⟩, ⟨#[]⟩, 0, 0⟩, fun h => absurd h hi⟩
    obtain ⟨f, hf⟩ := Classical.axiomOfChoice hx
    refine ⟨some a, cap, (List.range len).map f, by simp, by simpa using hl, by simp, ?_, fun _ => ⟨a, rfl, fun j z hj => ?_⟩⟩
    · simp only [List.length_map, List.length_range]
      have : maxLen ≤ 9223372036854775807 := by decide
      omega
    · have hlt : j < len := by
        have := (List.getElem?_eq_some_iff.1 hj).1
        simpa using this
      have hz : f j = z := by
        rw [List.getElem?_map, List.getElem?_range hlt] at hj
        simpa using hj
      subst hz
      exact ⟨_, rfl, k41_mk W (f j), hf j hlt⟩
set_option maxRecDepth 100000 in
theorem open_nums {r : Reach} {b0 : Nat} {v : Value} {d : DataW H} {p : List MemPlace} (hv : Value.okWide Tryz.prog W r b0 23 v) (h : DataW.Trod enc Tryz.prog W base spare held 23 v d p) :
    ∃ (A : Option Addr) (c : Nat) (l : List Int), v = .slice A l.length c ∧ l.length ≤ c ∧ Kd.C (Kd.int .i64) W A l.length l := by
  obtain ⟨A, len, cap, rfl⟩ := okWide_slice Tryz.underlying23 hv
  obtain ⟨fuel, hf⟩ := h
  rcases open_ints Tryz.underlying23 Tryz.underlying3 (by kernel_rfl) hf with ⟨hcs, _⟩ | ⟨x, l, c, zs, hcs, _, hl, hm, hz, _, hcell, _⟩
  · simp [Value.cells] at hcs
    obtain ⟨rfl, rfl, rfl⟩ := hcs
    exact ⟨none, 0, [], rfl, Nat.le_refl _, rfl, Nat.zero_le _, fun h => absurd h (Nat.lt_irrefl _)⟩
  · simp [Value.cells] at hcs
    obtain ⟨rfl, rfl, rfl⟩ := hcs
    have hzl : len ≤ zs.length := by rw [hz]; split <;> omega
    have hl2 : (zs.take len).length = len := by rw [List.length_take]; omega
    refine ⟨some x, cap, zs.take len, by rw [hl2], by omega, ?_⟩
    rw [hl2]
    refine Kd.C_of_reads (d := (0 : Int)) (h1 := fun _ => rfl) ⟨hl2, ?_, fun _ => ⟨x, rfl, fun j hj => ?_⟩⟩
    · have : maxLen ≤ 9223372036854775807 := by decide
      omega
    · rw [hcell j (by omega)]
      simp only [List.getD_eq_getElem?_getD, List.getElem?_take, hj, if_true]
theorem post_args {f : Func} {s : ChangeSpec} {W' : World} {args : Array Value} {v : Value} {ds : List (DataW H)} {before pa : List MemPlace} (hs : s.vars = [])
    (hW : DataW.Whole enc Tryz.prog f.params.toList s.vars false W args.toList ds [] before)
    (hres : DataW.TrodAll enc Tryz.prog W' W.heap.size (fun _ => false) false f.resultTypes.toList (v.resultList f.resultTypes.size) (s.fn H (ds ++ [])).results [])
    (hargs : DataW.TrodAll enc Tryz.prog W' 0 (fun b => decide (b < W.heap.size)) true f.params.toList args.toList (s.fn H (ds ++ [])).args pa)
    (hvars : (s.fn H (ds ++ [])).vars = []) (hb : Below W.heap.size W W') : s.post enc Tryz.prog f false true false false W args v W' := by
  refine ⟨ds, [], before, [], pa, [], hW, hres, hargs, ?_, hb.frame _, fun h => by cases h⟩
  · rw [hvars, hs]
    exact rfl
end
end Go.Proofs.YtbjbicaffblchaaGreatDoor.Hand
end
section
namespace Go.Proofs.YtbjbicaffblchaaGreatDoor.Hand
open Go.RowKit
def flatT (L : List (List UInt8)) : List UInt8 := L.flatMap fun t => t ++ [0]
def placeL : List (List UInt8) → List UInt8 → Nat
  | [], _ => 0
  | x :: r, t => if x = t then 0 else x.length + 1 + placeL r t
def addL (L : List (List UInt8)) (t : List UInt8) : List (List UInt8) := if t ∈ L then L else L ++ [t]
theorem flatT_nil : flatT [] = [] := rfl
theorem flatT_cons (t : List UInt8) (L : List (List UInt8)) : flatT (t :: L) = t ++ 0 :: flatT L := by simp [flatT]
theorem flatT_app (L M : List (List UInt8)) : flatT (L ++ M) = flatT L ++ flatT M := by simp [flatT]
theorem flatT_snoc (L : List (List UInt8)) (t : List UInt8) : flatT (L ++ [t]) = flatT L ++ (t ++ [0]) := by simp [flatT]
theorem placeL_app {L : List (List UInt8)} {t : List UInt8} (M : List (List UInt8)) (h : t ∈ L) : placeL (L ++ M) t = placeL L t := by
  induction L with
  | nil => cases h
  | cons x r ih =>
    simp only [List.cons_append, placeL]
    by_cases e : x = t
    · rw [if_pos e, if_pos e]
    · rw [if_neg e, if_neg e, ih (by rcases List.mem_cons.1 h with h | h; exact absurd h.symm e; exact h)]
theorem placeL_new {L : List (List UInt8)} {t : List UInt8} (h : t ∉ L) : placeL (L ++ [t]) t = (flatT L).length := by
  induction L with
  | nil => simp [placeL, flatT]
  | cons x r ih =>
    simp only [List.cons_append, placeL, flatT_cons, List.length_append, List.length_cons]
    rw [if_neg (fun e => h (by rw [← e]; exact List.mem_cons_self)), ih (fun e => h (List.mem_cons_of_mem _ e))]
    omega
theorem addL_mem (L : List (List UInt8)) (t : List UInt8) : t ∈ addL L t := by
  unfold addL
  split
  · assumption
  · simp
theorem addL_pre (L : List (List UInt8)) (t : List UInt8) : ∃ M, addL L t = L ++ M := by
  unfold addL
  split
  · exact ⟨[], by simp⟩
  · exact ⟨[t], rfl⟩
theorem addL_len (L : List (List UInt8)) (t : List UInt8) : (addL L t).length ≤ L.length + 1 := by
  unfold addL
  split <;> simp
theorem flat_addL (L : List (List UInt8)) (t : List UInt8) : (flatT (addL L t)).length ≤ (flatT L).length + t.length + 1 := by
  unfold addL
  split
  · omega
  · rw [flatT_snoc]; simp; omega
theorem placeL_le {L : List (List UInt8)} {t : List UInt8} (h : t ∈ L) : placeL L t + t.length + 1 ≤ (flatT L).length := by
  induction L with
  | nil => cases h
  | cons x r ih =>
    rw [flatT_cons]
    simp only [placeL, List.length_append, List.length_cons]
    by_cases e : x = t
    · rw [if_pos e, e]; omega
    · rw [if_neg e]
      have := ih (by rcases List.mem_cons.1 h with h | h; exact absurd h.symm e; exact h)
      omega
def MapIs (D : DataW Unit) (L : List (List UInt8)) : Prop := ∀ t, Maps.has D (.string t) = decide (t ∈ L) ∧ (t ∈ L → ∀ z, D.atKey (.string t) z = .lit (.int .i64 (placeL L t)))
theorem mapIs_nil : MapIs (.map []) [] := fun t => ⟨by simp [Maps.has], fun h => by cases h⟩
theorem mapIs_put {D : DataW Unit} {L : List (List UInt8)} (hD : Maps.IsMap D) (h : MapIs D L) {t : List UInt8} (ht : t ∉ L) :
    MapIs (D.put (.string t) (.lit (.int .i64 ((flatT L).length : Nat)))) (L ++ [t]) := by
  intro u
  have hk : WideAt.IsKeyLit (.string t) := by simp [WideAt.IsKeyLit]
  by_cases e : u = t
  · subst e
    refine ⟨by rw [Maps.has_put_same hD hk]; simp, fun _ z => ?_⟩
    rw [Maps.atKey_put_same hD hk, placeL_new ht]
  · have hne : Lit.string u ≠ Lit.string t := fun h => e (by injection h)
    refine ⟨?_, fun hu z => ?_⟩
    · rw [Maps.has_put_other hne, (h u).1]
      simp [e]
    · have hu' : u ∈ L := by
        rcases List.mem_append.1 hu with hu | hu
        · exact hu
        · exact absurd (List.mem_singleton.1 hu) e
      rw [Maps.atKey_put_other hne, (h u).2 hu', placeL_app _ hu']
end Go.Proofs.YtbjbicaffblchaaGreatDoor.Hand
end
section
namespace Go.Proofs.YtbjbicaffblchaaGreatDoor.Hand
open Go.RowKit Go.Proofs.YtbjbicaffblchaaGreatDoorW Go.Proofs.YtbjbicaffblchaaGreatDoorW.PrintWords Go.Proofs.YtbjbicaffblchaaGreatDoor.SK
abbrev tStr : Nat := 9
abbrev tInt : Nat := 3
abbrev tByte : Nat := 5
abbrev tBld : Nat := 61
theorem infoInt : (Tryz.prog.info? tInt).map (fun i => (i.zero, i.size, i.bytes)) = some (some (.int .i64 0), 1, 8) := by kernel_rfl
theorem infoByte : (Tryz.prog.info? tByte).map (fun i => (i.zero, i.size, i.bytes)) = some (some (.int .u8 0), 1, 1) := by kernel_rfl
structure BP (W : World) (B bb mb n : Nat) (D : DataW Unit) (vo vp cm co cp : Value) (out ps : List Int) : Prop where
  blk : W.heap[bb]? = some (.cells #[cm, co, cp] tBld)
  map : W.ownsMap Tryz.prog tStr (plainElem Tryz.prog tInt) mb n D
  row : W.ownsRow B tByte 1 vo out.length (nums .u8 out)
  prs : W.ownsRow B tInt 1 vp ps.length (encs (Value.int .i64) ps)
  hb : B ≤ bb
  hm : B ≤ mb
  hs : B ≤ W.heap.size
section
variable {W w1 : World} {B bb mb n : Nat} {D : DataW Unit} {vo vp cm co cp : Value} {out ps : List Int}
theorem own_block {e : Nat} {v : Value} {m : Nat} {xs : List Value} (h : W.ownsRow B e 1 v m xs) (k : Nat) (hk : v.ownBlock = some k) : B ≤ k ∧ ∃ cs, W.heap[k]? = some (.cells cs e (0, 0)) := ⟨own_base h k hk, own_typed h k hk⟩
theorem map_blk {n mb : Nat} (h : W.ownsMap Tryz.prog tStr (plainElem Tryz.prog tInt) mb n D) : ∃ es c, W.heap[mb]? = some (.map es c) := by
  obtain ⟨es, c, h, _⟩ := h
  exact ⟨es, c, h⟩
theorem BP.move (h : BP W B bb mb n D vo vp cm co cp out ps) (hsz : W.heap.size ≤ w1.heap.size) (h1 : w1.heap[bb]? = W.heap[bb]?) (h2 : w1.heap[mb]? = W.heap[mb]?) (h3 : ∀ k, vo.ownBlock = some k → w1.heap[k]? = W.heap[k]?) (h4 : ∀ k, vp.ownBlock = some k → w1.heap[k]? = W.heap[k]?) :
    BP w1 B bb mb n D vo vp cm co cp out ps := by
  obtain ⟨a1, ⟨es, c, a2, a2'⟩, a3, a4, a5, a6, a7⟩ := h
  exact ⟨h1.trans a1, ⟨es, c, h2.trans a2, a2'⟩, own_move a3 h3, own_move a4 h4, a5, a6, Nat.le_trans a7 hsz⟩
theorem BP.below (h : BP W B bb mb n D vo vp cm co cp out ps) (hb : Below W.heap.size W w1) : BP w1 B bb mb n D vo vp cm co cp out ps := by
  obtain ⟨es, c, hm⟩ := map_blk h.map
  refine h.move hb.size (hb.block _ (Array.getElem?_eq_some_iff.1 h.blk).1) (hb.block _ (Array.getElem?_eq_some_iff.1 hm).1) (fun k hk => ?_) (fun k hk => ?_)
  · obtain ⟨_, cs, hc⟩ := own_block h.row k hk
    exact hb.block _ (Array.getElem?_eq_some_iff.1 hc).1
  · obtain ⟨_, cs, hc⟩ := own_block h.prs k hk
    exact hb.block _ (Array.getElem?_eq_some_iff.1 hc).1
theorem BP.alloc (h : BP W B bb mb n D vo vp cm co cp out ps) (o : Obj) : BP (W.alloc o) B bb mb n D vo vp cm co cp out ps := h.below ((Below.refl _ W).alloc (Nat.le_refl _) o)
theorem BP.drew (h : BP W B bb mb n D vo vp cm co cp out ps) (k : Nat) : BP (W.drewN k) B bb mb n D vo vp cm co cp out ps := h.below (below_drewN W k)
theorem ne_of_obj {k j : Nat} {a b : Obj} (h1 : W.heap[k]? = some a) (h2 : W.heap[j]? = some b) (hne : a ≠ b) : some k ≠ some j := fun e => by
  obtain rfl := Option.some.inj e
  exact hne (Option.some.inj (h1.symm.trans h2))
theorem BP.mapped (h : BP W B bb mb n D vo vp cm co cp out ps) {D' : DataW Unit} (hm : w1.ownsMap Tryz.prog tStr (plainElem Tryz.prog tInt) mb (n + 1) D') (hg : W.grownBy w1 (some mb)) :
    BP w1 B bb mb (n + 1) D' vo vp cm co cp out ps := by
  obtain ⟨es, c, h0⟩ := map_blk h.map
  have keep : ∀ (k : Nat) (cs : Array Value) (t : TypeId), W.heap[k]? = some (.cells cs t (0, 0)) → w1.heap[k]? = W.heap[k]? := fun k cs t hk =>
    hg.block k (Array.getElem?_eq_some_iff.1 hk).1 (ne_of_obj hk h0 (fun e => by cases e))
  refine ⟨(keep _ _ _ h.blk).trans h.blk, hm, own_move h.row (fun k hk => ?_), own_move h.prs (fun k hk => ?_), h.hb, h.hm, Nat.le_trans h.hs hg.size⟩
  · obtain ⟨_, cs, hc⟩ := own_block h.row k hk
    exact keep _ _ _ hc
  · obtain ⟨_, cs, hc⟩ := own_block h.prs k hk
    exact keep _ _ _ hc
theorem BP.outed (h : BP W B bb mb n D vo vp cm co cp out ps) {vo' : Value} {out' : List Int} (ho : w1.ownsRow B tByte 1 vo' out'.length (nums .u8 out')) (hg : W.grownBy w1 vo.ownBlock) :
    BP w1 B bb mb n D vo' vp cm co cp out' ps := by
  obtain ⟨es, c, h0⟩ := map_blk h.map
  have keep : ∀ (k : Nat) (o : Obj), W.heap[k]? = some o → (∀ cs, o ≠ .cells cs tByte (0, 0)) → w1.heap[k]? = W.heap[k]? := fun k o hk hne =>
    hg.block k (Array.getElem?_eq_some_iff.1 hk).1 (fun e => by
      obtain ⟨_, cs, hc⟩ := own_block h.row k e.symm
      exact hne cs (Option.some.inj (hk.symm.trans hc)))
  refine ⟨(keep _ _ h.blk (fun cs e => by injection e with _ e; exact absurd e (by decide))).trans h.blk, ?_, ho, own_move h.prs (fun k hk => ?_), h.hb, h.hm, Nat.le_trans h.hs hg.size⟩
  · obtain ⟨es, c, h1, h2⟩ := h.map
    exact ⟨es, c, (keep _ _ h1 (fun cs e => by cases e)).trans h1, h2⟩
  · obtain ⟨_, cs, hc⟩ := own_block h.prs k hk
    exact keep _ _ hc (fun cs e => by injection e with _ e; exact absurd e (by decide))
theorem BP.prsed (h : BP W B bb mb n D vo vp cm co cp out ps) {vp' : Value} {ps' : List Int} (ho : w1.ownsRow B tInt 1 vp' ps'.length (encs (Value.int .i64) ps')) (hg : W.grownBy w1 vp.ownBlock) :
    BP w1 B bb mb n D vo vp' cm co cp out ps' := by
  have keep : ∀ (k : Nat) (o : Obj), W.heap[k]? = some o → (∀ cs, o ≠ .cells cs tInt (0, 0)) → w1.heap[k]? = W.heap[k]? := fun k o hk hne =>
    hg.block k (Array.getElem?_eq_some_iff.1 hk).1 (fun e => by
      obtain ⟨_, cs, hc⟩ := own_block h.prs k e.symm
      exact hne cs (Option.some.inj (hk.symm.trans hc)))
  refine ⟨(keep _ _ h.blk (fun cs e => by injection e with _ e; exact absurd e (by decide))).trans h.blk, ?_, own_move h.row (fun k hk => ?_), ho, h.hb, h.hm, Nat.le_trans h.hs hg.size⟩
  · obtain ⟨es, c, h1, h2⟩ := h.map
    exact ⟨es, c, (keep _ _ h1 (fun cs e => by cases e)).trans h1, h2⟩
  · obtain ⟨_, cs, hc⟩ := own_block h.row k hk
    exact keep _ _ hc (fun cs e => by injection e with _ e; exact absurd e (by decide))
theorem BP.far (h : BP W B bb mb n D vo vp cm co cp out ps) {cs' : Array Value} (j : Nat) (v : Value) (hb : (W.setCell ⟨bb, j, none⟩ v).heap[bb]? = some (.cells cs' tBld)) {cm' co' cp' : Value} (he : cs' = #[cm', co', cp']) :
    BP (W.setCell ⟨bb, j, none⟩ v) B bb mb n D vo vp cm' co' cp' out ps := by
  subst he
  obtain ⟨es, c, h0⟩ := map_blk h.map
  have keep : ∀ (k : Nat) (o : Obj), W.heap[k]? = some o → (∀ cs, o ≠ .cells cs tBld (0, 0)) → (W.setCell ⟨bb, j, none⟩ v).heap[k]? = W.heap[k]? := fun k o hk hne =>
    Below.heap_setCell W ⟨bb, j, none⟩ v k (fun e => by
      have e' : k = bb := e
      subst e'
      exact hne _ (Option.some.inj (hk.symm.trans h.blk)))
  refine ⟨hb, ?_, own_move h.row (fun k hk => ?_), own_move h.prs (fun k hk => ?_), h.hb, h.hm, by simpa [World.setCell] using h.hs⟩
  · obtain ⟨es, c, h1, h2⟩ := h.map
    exact ⟨es, c, (keep _ _ h1 (fun cs e => by cases e)).trans h1, h2⟩
  · obtain ⟨_, cs, hc⟩ := own_block h.row k hk
    exact keep _ _ hc (fun cs e => by injection e with _ e; exact absurd e (by decide))
  · obtain ⟨_, cs, hc⟩ := own_block h.prs k hk
    exact keep _ _ hc (fun cs e => by injection e with _ e; exact absurd e (by decide))
theorem BP.set1 (h : BP W B bb mb n D vo vp cm co cp out ps) (v : Value) : BP (W.setCell ⟨bb, 1, none⟩ v) B bb mb n D vo vp cm v cp out ps := h.far 1 v (blk_set h.blk 1 v) rfl
theorem BP.set2 (h : BP W B bb mb n D vo vp cm co cp out ps) (v : Value) : BP (W.setCell ⟨bb, 2, none⟩ v) B bb mb n D vo vp cm co v out ps := h.far 2 v (blk_set h.blk 2 v) rfl
end
def BSt (W : World) (B bb : Nat) (L : List (List UInt8)) (ps : List Int) : Prop :=
  ∃ mb n D vo vp, BP W B bb mb n D vo vp (.map (some mb)) vo vp ((flatT L).map fun b => (b.toNat : Int)) ps ∧ n ≤ L.length ∧ MapIs D L
theorem add_old (w : World) (bb mb n : Nat) (D : DataW Unit) (s : ByteArray) (at_ c : Int) (hc : w.cell? ⟨bb, 0, none⟩ = some (.map (some mb))) (hown : w.ownsMap Tryz.prog tStr (plainElem Tryz.prog tInt) mb n D) (hs : s.size ≤ maxLen)
    (hat : ∀ z, D.atKey (.string s.data.toList) z = .lit (.int .i64 c)) (hhas : Maps.has D (.string s.data.toList) = true) :
    Calls Tryz.prog 61 #[.pointer (some ⟨bb, 0, none⟩), .string s, .int .i64 at_] w fun e w' => e = .returned (.tuple #[.int .i64 c, .bool false]) ∧ w' = w := by
  have hu := Tryz.underlying58
  have hkey : keyOf Tryz.prog tStr (.string s) = some (.string s.data.toList) := Go.WideMaps.keyOf_string_mk Tryz.underlying9 hs
  have HAT := Lib.hid hat
  have HOWN := Lib.hid hown
  clear hat hown
  go_enter Tryz.func61, Tryz.ntmps61
  go_wp2_with (at_lookup; refine wpList_lookup_own_ok_int _ rfl _ _ 56 rfl tStr tInt .i64 (Maps.string_keyed Tryz.underlying9) Tryz.underlying56 Tryz.underlying3 (Tryz.zeroValue3 _) mb n D rfl HOWN.out _ _ rfl hkey ?_; intro c' hat' hwc; rw [HAT.out] at hat'; injection hat' with hat'; injection hat' with _ hat'; subst hat'; rw [hhas])
  go_ret2
  exact ⟨rfl, rfl⟩
theorem add_new (w : World) (bb mb n : Nat) (D : DataW Unit) (s : ByteArray) (at_ : Int) (hc : w.cell? ⟨bb, 0, none⟩ = some (.map (some mb))) (hown : w.ownsMap Tryz.prog tStr (plainElem Tryz.prog tInt) mb n D) (hs : s.size ≤ maxLen)
    (hn : n < maxLen) (hw : (Lit.int .i64 at_).wf = true) (hhas : Maps.has D (.string s.data.toList) = false) :
    Calls Tryz.prog 61 #[.pointer (some ⟨bb, 0, none⟩), .string s, .int .i64 at_] w fun e w' => e = .returned (.tuple #[.int .i64 at_, .bool true]) ∧
      w'.ownsMap Tryz.prog tStr (plainElem Tryz.prog tInt) mb (n + 1) (D.put (.string s.data.toList) (.lit (.int .i64 at_))) ∧ w.grownBy w' (some mb) := by
  have hu := Tryz.underlying58
  have hkey : keyOf Tryz.prog tStr (.string s) = some (.string s.data.toList) := Go.WideMaps.keyOf_string_mk Tryz.underlying9 hs
  have hv : plainElem (H := Unit) Tryz.prog tInt (.int .i64 at_) = some (.lit (.int .i64 at_), []) := plainElem_int Tryz.underlying3 hw
  have HOWN := Lib.hid hown
  clear hown
  go_enter Tryz.func61, Tryz.ntmps61
  go_wp2_with (first | (at_lookup; refine wpList_lookup_own_ok_int _ rfl _ _ 56 rfl tStr tInt .i64 (Maps.string_keyed Tryz.underlying9) Tryz.underlying56 Tryz.underlying3 (Tryz.zeroValue3 _) mb n D rfl HOWN.out _ _ rfl hkey ?_; intro c' hat' hwc; rw [hhas]) | (at_mapUpdate; refine wpList_mapUpdate_own _ rfl _ _ _ 56 rfl tStr tInt (Maps.string_keyed Tryz.underlying9) Tryz.underlying56 _ mb n D rfl HOWN.out hn _ _ _ rfl rfl hkey _ [] hv ?_; intro w1 hown1 hgrow1))
  go_ret2
  exact ⟨rfl, hown1, hgrow1⟩
end Go.Proofs.YtbjbicaffblchaaGreatDoor.Hand
end
section
namespace Go.Proofs.YtbjbicaffblchaaGreatDoor.Hand
open Go.RowKit Go.Proofs.YtbjbicaffblchaaGreatDoorW Go.Proofs.YtbjbicaffblchaaGreatDoorW.PrintWords Go.Proofs.YtbjbicaffblchaaGreatDoor.SK
abbrev bytesI (l : List UInt8) : List Int := l.map fun b => (b.toNat : Int)
def textF (st : List (List UInt8) × List Int) (t : ByteArray) : List (List UInt8) × List Int := (addL st.1 t.data.toList, st.2 ++ [((placeL (addL st.1 t.data.toList) t.data.toList : Nat) : Int)])
theorem wf_small (m : Nat) (h : m ≤ 9000000000) : (Lit.int .i64 (m : Int)).wf = true := by
  have e : (m : Int) = wrap64 (m : Int) := by unfold wrap64; omega
  rw [e]
  exact wrap64_wf _
theorem row_slice {W : World} {B e m : Nat} {v : Value} {xs : List Value} (h : W.ownsRow B e 1 v m xs) : ∃ A m' c, v = .slice A m' c ∧ Hid (m' = m) := by
  rcases h.2 with ⟨rfl, rfl⟩ | ⟨g, cap, cur, rfl, _⟩
  · exact ⟨_, _, _, rfl, Lib.hid rfl⟩
  · exact ⟨_, _, _, rfl, Lib.hid rfl⟩
section
variable {W w1 : World} {B bb mb n : Nat} {D : DataW Unit} {vo vp cm co cp : Value} {out ps : List Int} {k : Nat} {cs : Array Value} {fr : Nat × Nat}
theorem BP.otherP (h : BP W B bb mb n D vo vp cm co cp out ps) (hk : W.heap[k]? = some (.cells cs tStr fr)) (hg : W.grownBy w1 vp.ownBlock) : w1.heap[k]? = some (.cells cs tStr fr) :=
  (hg.block k (Array.getElem?_eq_some_iff.1 hk).1 (fun e => by
    obtain ⟨_, cs', hc⟩ := own_block h.prs k e.symm
    rw [hk] at hc
    injection hc with hc
    injection hc with _ hc
    exact absurd hc (by decide))).trans hk
theorem BP.otherO (h : BP W B bb mb n D vo vp cm co cp out ps) (hk : W.heap[k]? = some (.cells cs tStr fr)) (hg : W.grownBy w1 vo.ownBlock) : w1.heap[k]? = some (.cells cs tStr fr) :=
  (hg.block k (Array.getElem?_eq_some_iff.1 hk).1 (fun e => by
    obtain ⟨_, cs', hc⟩ := own_block h.row k e.symm
    rw [hk] at hc
    injection hc with hc
    injection hc with _ hc
    exact absurd hc (by decide))).trans hk
theorem BP.otherM (h : BP W B bb mb n D vo vp cm co cp out ps) (hk : W.heap[k]? = some (.cells cs tStr fr)) (hg : W.grownBy w1 (some mb)) : w1.heap[k]? = some (.cells cs tStr fr) :=
  (hg.block k (Array.getElem?_eq_some_iff.1 hk).1 (fun e => by
    obtain ⟨es, c, hc⟩ := map_blk h.map
    obtain rfl := Option.some.inj e
    rw [hk] at hc
    injection hc with hc
    cases hc)).trans hk
theorem BP.otherS (h : BP W B bb mb n D vo vp cm co cp out ps) (hk : W.heap[k]? = some (.cells cs tStr fr)) (j : Nat) (v : Value) : (W.setCell ⟨bb, j, none⟩ v).heap[k]? = some (.cells cs tStr fr) :=
  (Below.heap_setCell W ⟨bb, j, none⟩ v k (fun e => by
    have e' : k = bb := e
    subst e'
    have := h.blk
    rw [hk] at this
    injection this with this
    injection this with _ this
    exact absurd this (by decide))).trans hk
end
theorem textF_bounds (ts : List ByteArray) : ∀ (st : List (List UInt8) × List Int), (∀ t ∈ ts, t.size ≤ 1000) →
    (ts.foldl textF st).1.length ≤ st.1.length + ts.length ∧ (flatT (ts.foldl textF st).1).length ≤ (flatT st.1).length + 1001 * ts.length ∧ (ts.foldl textF st).2.length = st.2.length + ts.length := by
  induction ts with
  | nil => intro st _; simp
  | cons t r ih =>
    intro st h
    obtain ⟨h1, h2, h3⟩ := ih (textF st t) (fun x hx => h x (List.mem_cons_of_mem _ hx))
    have a1 := addL_len st.1 t.data.toList
    have a2 := flat_addL st.1 t.data.toList
    have a3 : t.data.toList.length ≤ 1000 := by rw [Array.length_toList]; exact h t List.mem_cons_self
    simp only [List.foldl_cons, List.length_cons]
    have b1 : (textF st t).1 = addL st.1 t.data.toList := rfl
    have b2 : (textF st t).2.length = st.2.length + 1 := by simp [textF]
    rw [b1] at h1 h2
    rw [b2] at h3
    omega
set_option maxHeartbeats 4000000 in
set_option maxRecDepth 100000 in
theorem text_calls (w : World) (B bb : Nat) (L : List (List UInt8)) (ps : List Int) (g : Nat) (ts : List ByteArray) (c : Nat) (cs : Array Value) (fr : Nat × Nat) (hblk : w.heap[g]? = some (.cells cs tStr fr))
    (hrd : ∀ j, j < ts.length → w.cell? ⟨g, j, none⟩ = some (.string (ts.getD j ByteArray.empty))) (hB : BSt w B bb L ps) (hsz : ∀ t ∈ ts, t.size ≤ 1000) (hlen : ts.length ≤ 2)
    (hL : (flatT L).length ≤ 1000000) (hLn : L.length ≤ 1000) (hps : ps.length ≤ 1000) :
    Calls Tryz.prog 41 #[.pointer (some ⟨bb, 0, none⟩), .slice (some ⟨g, 0, none⟩) ts.length c] w fun e w' => (∃ v, e = .returned v) ∧ BSt w' B bb (ts.foldl textF (L, ps)).1 (ts.foldl textF (L, ps)).2 ∧ Below B w w' := by
  have hu := Tryz.underlying61
  have HR := Lib.hid hrd
  have HSZ := Lib.hid hsz
  have H0 := Lib.hid hblk
  have HB0 := Lib.hid hB
  clear hrd hsz hblk hB
  go_enter Tryz.func41, Tryz.ntmps41
  go_wp2
  go_loopg [10] ts.length (fun gg s10 wr => ∃ kk : Nat, kk ≤ ts.length ∧ ts.length - kk ≤ gg ∧ s10 = .int .i64 kk ∧ Hid (Below B w wr) ∧ Hid (wr.heap[g]? = some (.cells cs tStr fr)) ∧ Hid (BSt wr B bb ((ts.take kk).foldl textF (L, ps)).1 ((ts.take kk).foldl textF (L, ps)).2))
  case atStart => exact ⟨0, Nat.zero_le _, by omega, rfl, Lib.hid (Below.refl _ w), H0, HB0⟩
  case round =>
    obtain ⟨kk, hkk, hg, rfl, BW, BK, BS⟩ := hrel
    by_cases hlt : kk < ts.length
    · have hltz : (kk : Int) < (ts.length : Int) := by omega
      have hx : wr.cell? ⟨g, kk, none⟩ = some (.string (ts.getD kk ByteArray.empty)) := (cell_blk BK.out kk).trans ((cell_blk H0.out kk).symm.trans (HR.out kk hlt))
      have htk : (ts.take (kk + 1)).foldl textF (L, ps) = textF ((ts.take kk).foldl textF (L, ps)) (ts.getD kk ByteArray.empty) := by
        rw [List.take_succ_eq_append_getElem hlt, List.foldl_append, List.getD_eq_getElem?_getD, List.getElem?_eq_getElem hlt]
        rfl
      have hel : (ts.getD kk ByteArray.empty).size ≤ 1000 := by
        rw [List.getD_eq_getElem?_getD, List.getElem?_eq_getElem hlt]
        exact HSZ.out _ (List.getElem_mem _)
      obtain ⟨q1, q2, q3⟩ := textF_bounds (ts.take kk) (L, ps) (fun t ht => HSZ.out t (List.mem_of_mem_take ht))
      have htl : (ts.take kk).length ≤ 2 := by rw [List.length_take]; omega
      generalize (ts.take kk).foldl textF (L, ps) = st at *
      obtain ⟨Lk, pk⟩ := st
      generalize ts.getD kk ByteArray.empty = el at *
      simp only at q1 q2 q3
      have Q1 : Lk.length ≤ 1002 := by omega
      have Q2 : (flatT Lk).length ≤ 1002002 := by omega
      have Q3 : pk.length ≤ 1002 := by omega
      clear q1 q2 q3 htl
      have HT := Lib.hid htk
      clear htk
      obtain ⟨mb, n, D, vo, vp, hbp, hn, hmap⟩ := BS.out
      clear BS
      obtain ⟨Ao, mo, co, rfl, hmo⟩ := row_slice hbp.row
      obtain ⟨Ap, mp, cp, rfl, hmp⟩ := row_slice hbp.prs
      have c0 := cell_blk hbp.blk 0
      have c1 := cell_blk hbp.blk 1
      have c2 := cell_blk hbp.blk 2
      simp at c0 c1 c2
      have HBP := Lib.hid hbp
      clear hbp
      have els : el.size ≤ maxLen := Nat.le_trans hel (by decide)
      have HB1 := Lib.hid (BW.out.trans ((below_drewN wr 1).mono HBP.out.hs))
      have HBP1 := Lib.hid (HBP.out.drew 1)
      have HK1 : Hid ((wr.drewN 1).heap[g]? = some (.cells cs tStr fr)) := Lib.hid BK.out
      by_cases hin : el.data.toList ∈ Lk
      · have hhas := (hmap el.data.toList).1
        rw [decide_eq_true hin] at hhas
        have hat := (hmap el.data.toList).2 hin
        have HMM := Lib.hid hmap
        have HTF : Hid (textF (Lk, pk) el = (Lk, pk ++ [((placeL Lk el.data.toList : Nat) : Int)])) := Lib.hid (by simp only [textF, addL, if_pos hin])
        generalize placeL Lk el.data.toList = pl at *
        clear hmap
        have hcall := add_old wr.drew bb mb n D el mo pl (by simpa using c0) HBP1.out.map els hat hhas
        clear hat hhas hin
        go_wp2
        go_region_with (go_at_call 61; refine hcall.mono ?_; rintro e w' ⟨rfl, rfl⟩)
        clear hcall c0 c1 c2 hx HBP BW BK
        change Hid (BP wr.drew _ _ _ _ _ _ _ _ _ _ _ _) at HBP1
        change Hid (Below B w wr.drew) at HB1
        change Hid (wr.drew.heap[g]? = _) at HK1
        generalize wr.drew = w1 at *
        have d2 := cell_blk HBP1.out.blk 2
        simp at d2
        go_wp2_with ((with_reducible refine gate_builtin (b := .append) (xs := #[.tmp 43, .tmp 45]) rfl ?_); at_builtin; go_loud (refine print_append_of (w0 := w) (Value.int .i64) B rfl (.tmp 43) (.tmp 45) 23 tInt (.int .i64 0) 8 rfl Tryz.underlying23 infoInt rfl (by decide) (.slice Ap mp cp) pk (pl : Int) rfl rfl rfl HBP1.out.prs HB1.out HBP1.out.hs (by omega) ?_); intro vp1 w9 hown9 hb9 hg9 hat9; clear hat9; obtain ⟨Ap1, mp1, cp1, rfl, hmp1⟩ := row_slice hown9; have HBP9 := Lib.hid (HBP1.out.prsed hown9 hg9); have HB9 := Lib.hid hb9; have HK9 := Lib.hid (HBP1.out.otherP HK1.out hg9); clear hown9 hb9 hg9; have d2 := cell_blk HBP9.out.blk 2; have e2 := frozen_blk HBP9.out.blk 2; simp at d2)
        go_roundg (ts.length - (kk + 1))
        case measure => omega
        case rel =>
          refine ⟨kk + 1, by omega, by omega, by go_num, Lib.hid (HB9.out.setCell (p := ⟨bb, 2, none⟩) HBP9.out.hb _), Lib.hid (HBP9.out.otherS HK9.out 2 _), Lib.hid ?_⟩
          rw [HT.out, HTF.out]
          exact ⟨mb, _, _, _, _, HBP9.out.set2 (.slice Ap1 mp1 cp1), by exact hn, HMM.out⟩
      · have hhas := (hmap el.data.toList).1
        rw [decide_eq_false hin] at hhas
        have hmo' : mo = (flatT Lk).length := hmo.out.trans (by simp)
        have HMM : Hid (MapIs (D.put (.string el.data.toList) (.lit (.int .i64 (mo : Int)))) (Lk ++ [el.data.toList])) := Lib.hid (by rw [hmo']; exact mapIs_put HBP.out.map.isMap hmap hin)
        have HTF : Hid (textF (Lk, pk) el = (Lk ++ [el.data.toList], pk ++ [(mo : Int)])) := Lib.hid (by simp only [textF, addL, if_neg hin, placeL_new hin, hmo'])
        have HFL : Hid (bytesI (flatT Lk) ++ bytesOf el ++ [0] = bytesI (flatT (Lk ++ [el.data.toList]))) := Lib.hid (by rw [flatT_snoc]; simp [bytesOf])
        have hbnd : (bytesI (flatT Lk)).length ≤ 1002002 := by simpa using Q2
        have hbnd2 : (bytesI (flatT Lk) ++ bytesOf el).length ≤ 1003002 := by rw [List.length_append, bytesOf_length]; omega
        have hcall := add_new wr.drew bb mb n D el mo (by simpa using c0) HBP1.out.map els (Nat.lt_of_le_of_lt (Nat.le_trans hn Q1) (by decide)) (wf_small mo (by omega)) hhas
        have HNB := Lib.hid hbnd
        have HNB2 := Lib.hid hbnd2
        clear hmap hhas hin hmo' hbnd hbnd2
        go_wp2
        go_region_with (go_at_call 61; refine hcall.mono ?_; rintro e w2 ⟨rfl, hown2, hg2⟩)
        have HBP2 := Lib.hid (HBP1.out.mapped hown2 hg2)
        have HB2 := Lib.hid (HB1.out.grown hg2 HBP1.out.hs (fun k e => by cases e; exact HBP1.out.hm))
        have HK2 := Lib.hid (HBP1.out.otherM HK1.out hg2)
        clear hcall c0 c1 c2 hx HBP BW BK HBP1 HB1 HK1 hown2 hg2
        have d1 := cell_blk HBP2.out.blk 1
        simp at d1
        go_wp2_with (first | ((with_reducible refine gate_builtin (b := .append) (xs := #[.tmp 32, .tmp 33]) rfl ?_); at_builtin; go_loud (refine print_append_str (w0 := w) B rfl (.tmp 32) (.tmp 33) 59 tStr tByte rfl Tryz.underlying59 Tryz.underlying9 infoByte (.slice Ao mo co) (bytesI (flatT Lk)) el rfl rfl HBP2.out.row HB2.out HBP2.out.hs (by have := HNB.out; omega) ?_); intro vo3 w3 hown3 hb3 hg3; obtain ⟨Ao3, mo3, co3, rfl, hmo3⟩ := row_slice hown3; have HBP3 := Lib.hid (HBP2.out.outed hown3 hg3); have HB3 := Lib.hid hb3; have HK3 := Lib.hid (HBP2.out.otherO HK2.out hg3); clear hown3 hb3 hg3) | ((with_reducible refine gate_builtin (b := .append) (xs := #[.tmp 34, .tmp 35]) rfl ?_); at_builtin; go_loud (refine print_append_num (w0 := w) B rfl (.tmp 34) (.tmp 35) 59 tByte .u8 1 rfl Tryz.underlying59 infoByte (by decide) (.slice Ao3 mo3 co3) (bytesI (flatT Lk) ++ bytesOf el) 0 rfl rfl HBP3.out.row HB3.out HBP3.out.hs (by have := HNB2.out; omega) ?_); intro vo4 w4 hown4 hb4 hg4 hat4; clear hat4; obtain ⟨Ao4, mo4, co4, rfl, hmo4⟩ := row_slice hown4; have HBP4 := Lib.hid (HBP3.out.outed hown4 hg4); have HB4 := Lib.hid (hb4.setCell (p := ⟨bb, 1, none⟩) HBP4.out.hb (.slice Ao4 mo4 co4)); have HK4 := Lib.hid (HBP4.out.otherS (HBP3.out.otherO HK3.out hg4) 1 (.slice Ao4 mo4 co4)); clear hown4 hb4 hg4; have d1 := cell_blk HBP4.out.blk 1; have e1 := frozen_blk HBP4.out.blk 1; simp at d1; have HBP5 := Lib.hid (HBP4.out.set1 (.slice Ao4 mo4 co4)); have d2 := cell_blk HBP5.out.blk 2; simp at d2; rw [HFL.out] at HBP5) | ((with_reducible refine gate_builtin (b := .append) (xs := #[.tmp 43, .tmp 45]) rfl ?_); at_builtin; go_loud (refine print_append_of (w0 := w) (Value.int .i64) B rfl (.tmp 43) (.tmp 45) 23 tInt (.int .i64 0) 8 rfl Tryz.underlying23 infoInt rfl (by decide) (.slice Ap mp cp) pk (mo : Int) rfl (by show Value.slice (some ⟨w4.heap.size, 0, none⟩) 1 1 = _; simp [World.setCell]) rfl HBP5.out.prs HB4.out HBP5.out.hs (by omega) ?_); intro vp1 w9 hown9 hb9 hg9 hat9; clear hat9; obtain ⟨Ap1, mp1, cp1, rfl, hmp1⟩ := row_slice hown9; have HBP9 := Lib.hid (HBP5.out.prsed hown9 hg9); have HB9 := Lib.hid hb9; have HK9 := Lib.hid (HBP5.out.otherP HK4.out hg9); clear hown9 hb9 hg9; have d2 := cell_blk HBP9.out.blk 2; have e2 := frozen_blk HBP9.out.blk 2; simp at d2))
        go_roundg (ts.length - (kk + 1))
        case measure => omega
        case rel =>
          refine ⟨kk + 1, by omega, by omega, by go_num, Lib.hid (HB9.out.setCell (p := ⟨bb, 2, none⟩) HBP9.out.hb _), Lib.hid (HBP9.out.otherS HK9.out 2 _), Lib.hid ?_⟩
          rw [HT.out, HTF.out]
          exact ⟨mb, _, _, _, _, HBP9.out.set2 (.slice Ap1 mp1 cp1), by simpa using hn, HMM.out⟩
    · have hltz : ¬ (kk : Int) < (ts.length : Int) := by omega
      have hk : kk = ts.length := by omega
      subst hk
      have HS := BS.out
      rw [List.take_length] at HS
      have HS' := Lib.hid HS
      clear HS BS
      go_wp2
      go_end0
      exact ⟨⟨_, rfl⟩, HS'.out, BW.out⟩
end Go.Proofs.YtbjbicaffblchaaGreatDoor.Hand
end
section
namespace Go.Proofs.YtbjbicaffblchaaGreatDoor.Hand
open Go.RowKit Go.Proofs.YtbjbicaffblchaaGreatDoorW Go.Proofs.YtbjbicaffblchaaGreatDoorW.PrintWords Go.Proofs.YtbjbicaffblchaaGreatDoor.SK
def Nm.right (x : Nm) : Bool := rightS x.f0 x.f1 x.f2 x.f3 x.f4
def Nm.dtn (x : Nm) : Bool := x.f0 == 1
def Nm.word (x : Nm) : ByteArray := (halvesS x.f0 x.f1 x.f2 x.f3 x.f4).1
def Nm.rest (x : Nm) : ByteArray := (halvesS x.f0 x.f1 x.f2 x.f3 x.f4).2.1
def buildF (dtn : Bool) (st : List (List UInt8) × List Int) (x : Nm) : List (List UInt8) × List Int := if dtn then textF (textF st x.word) x.rest else (st.1, st.2 ++ [x.f3, x.f4])
def builtS (l : List Nm) : List (List UInt8) × List Int := l.foldl (buildF (l.any Nm.dtn)) ([], [])
theorem Nm.halves {x : Nm} (h : x.right = true) : halvesS x.f0 x.f1 x.f2 x.f3 x.f4 = (x.word, x.rest, 0) := by
  unfold Nm.right at h
  unfold Nm.word Nm.rest halvesS
  rw [if_pos h]
theorem Nm.word_is {x : Nm} (h : x.right = true) : x.word = wordS x.f0 := by unfold Nm.right at h; unfold Nm.word halvesS; rw [if_pos h]
theorem Nm.rest_is {x : Nm} (h : x.right = true) : x.rest = restS x.f0 x.f1 x.f2 x.f3 x.f4 := by unfold Nm.right at h; unfold Nm.rest halvesS; rw [if_pos h]
theorem Nm.sizes {x : Nm} (h : x.right = true) : ∀ t ∈ [x.word, x.rest], t.size ≤ 43 := by
  intro t ht
  simp only [List.mem_cons, List.not_mem_nil, or_false] at ht
  rcases ht with rfl | rfl
  · rw [Nm.word_is h, word_size]; decide
  · rw [Nm.rest_is h]; exact rest_size h
theorem buildF_true (st : List (List UInt8) × List Int) (x : Nm) : buildF true st x = [x.word, x.rest].foldl textF st := rfl
theorem buildF_bounds (dtn : Bool) (l : List Nm) : ∀ (st : List (List UInt8) × List Int), (∀ x ∈ l, x.right = true) →
    (l.foldl (buildF dtn) st).1.length ≤ st.1.length + 2 * l.length ∧ (flatT (l.foldl (buildF dtn) st).1).length ≤ (flatT st.1).length + 2002 * l.length ∧ (l.foldl (buildF dtn) st).2.length = st.2.length + 2 * l.length := by
  induction l with
  | nil => intro st _; simp
  | cons x r ih =>
    intro st h
    obtain ⟨h1, h2, h3⟩ := ih (buildF dtn st x) (fun y hy => h y (List.mem_cons_of_mem _ hy))
    have hx := h x List.mem_cons_self
    have key : (buildF dtn st x).1.length ≤ st.1.length + 2 ∧ (flatT (buildF dtn st x).1).length ≤ (flatT st.1).length + 2002 ∧ (buildF dtn st x).2.length = st.2.length + 2 := by
      cases dtn with
      | true =>
        rw [buildF_true]
        have := textF_bounds [x.word, x.rest] st (fun t ht => Nat.le_trans (Nm.sizes hx t ht) (by decide))
        simp only [List.length_cons, List.length_nil] at this
        omega
      | false => simp [buildF]
    simp only [List.foldl_cons, List.length_cons]
    omega
theorem step_append_ints {P : Program} {ops : Array Oper} {o : Oper} {a : Act} {K : Act → World → Prop} {Q : Exit → Act → World → Prop} {w0 : World} (W : World) (base : Nat) (hgd : o.guard = none) (s x : Operand) (t e : TypeId) (k : IntKind) (bytes : Nat)
    (ho : o.op = .call { callee := .builtin .append, args := #[s, x], argTypes := #[t, t] })
    (ht : P.underlying t = some (.slice e)) (hinfo : (P.info? e).map (fun i => (i.zero, i.size, i.bytes)) = some (some (.int k 0), 1, bytes)) (hb0 : 0 < bytes)
    (v : Value) (xs ys : List Int) (hs : a.eval s = v) (hx : a.eval x = .slice (some ⟨W.heap.size, 0, none⟩) ys.length ys.length)
    (HO : W.ownsRow base e 1 v xs.length (encs (Value.int k) xs)) (HB : Below base w0 W) (hbase : base ≤ W.heap.size) (hl : (xs.length + ys.length) * bytes ≤ 140737488355328)
    (h : ∀ v1 w1, w1.ownsRow base e 1 v1 (xs ++ ys).length (encs (Value.int k) (xs ++ ys)) → Below base w0 w1 → W.grownBy w1 v.ownBlock → K (a.put o.dst v1) w1) :
    if Region.wanted o (yielded ops a.tmps) = true then Oper.wp P o a (W.alloc (.cells (encs (Value.int k) ys).toArray e)) K Q else K (a.put o.dst undef) (W.alloc (.cells (encs (Value.int k) ys).toArray e)) := by
  obtain ⟨i0, hi, hzz⟩ := Option.map_eq_some_iff.1 hinfo
  simp only [Prod.mk.injEq] at hzz
  obtain ⟨hz0, hz1, hz2⟩ := hzz
  have hlen : xs.length + ys.length ≤ 140737488355328 := Nat.le_trans (Nat.le_mul_of_pos_right _ hb0) hl
  have hw : Region.wanted o (yielded ops a.tmps) = true := by simp [Region.wanted, hgd]
  rw [if_pos hw]
  obtain ⟨v1, w1, hr, hown, hg, _, hat⟩ := run_append_own_at (P := P) (W.alloc (.cells (encs (Value.int k) ys).toArray e)) base t o.type e i0 (.int k 0) 1 bytes ht hi hz0 hz1 hz2 rfl (by decide) v xs.length (encs (Value.int k) xs) (HO.alloc _) ⟨W.heap.size, 0, none⟩ ys.length ys.length (encs (Value.int k) ys) (by simp [encs])
    (by simpa using World.news_of_block (cs := (encs (Value.int k) ys).toArray) (t := e) (fr := (0, 0)) (heap_alloc_new W (.cells (encs (Value.int k) ys).toArray e))) (by simp [encs]; intro y _; rfl) (by simp only [maxLen]; omega) hl (by simp; omega)
  unfold Oper.wp execOp
  simp only [ho, resolve, invoke, builtin, Sem.run_bind, Sem.run_pure, Result.andThen_ok, List.map_toArray, List.map_cons, List.map_nil, hs, hx, hr]
  exact h v1 w1 (by simpa [encs] using hown) ((HB.alloc hbase _).grown hg (by simp; omega) (own_base HO)) (World.grownBy.trans (World.grownBy_alloc W _ _) hg)
theorem wp_scope_fwd {P : Program} {a : Act} {w : World} {Q : Exit → Act → World → Prop} {c rest : Code} (l : Nat) (hf : findLabel c l = some rest)
    (h : c.wp P (Exit.jump l (fun a' w' => rest.wp P (Exit.noGoto Q) a' w') Q) a w) : (Code.scope c).wp P Q a w :=
  wp_scope_jumps l (fun a' w' => rest.wp P (Exit.noGoto Q) a' w') (fun _ _ => 0) hf h fun a' w' hJ => wp_mono hJ fun e a1 w1 hq => by
    cases e <;> first | exact hq | exact hq.elim
set_option maxHeartbeats 4000000 in
set_option maxRecDepth 100000 in
theorem built_calls (A : Option Addr) (c : Nat) (l : List Nm) (w : World) (am ae ad : Addr) (hL : LaidAt w am ae ad) (hLd : Laid w) (hr : Kd.C kNm w A l.length l) (hok : ∀ x ∈ l, x.ok) (hbig : l.length ≤ 9223372036854775807) :
    Calls Tryz.prog 24 #[.slice A l.length c] w fun e w' => Below w.heap.size w w' ∧
      (if 30 < l.length then e = .returned (.tuple #[.pointer none, errV am]) else if l.any (fun x => !x.right) = true then e = .returned (.tuple #[.pointer none, errV ae])
       else ∃ bb, e = .returned (.tuple #[.pointer (some ⟨bb, 0, none⟩), .nilIface]) ∧ BSt w' w.heap.size bb (builtS l).1 (builtS l).2) := by
  have hu := Tryz.underlying41
  have hu2 := Tryz.underlying61
  have hmm := @run_makeMap Tryz.prog
  have hcon : ∀ W, Below w.heap.size w W → Calls Tryz.prog 40 #[.slice A l.length c, .func (.func 38) #[] #[]] W fun e w' => e = .returned (.bool (l.any Nm.dtn)) ∧ Below W.heap.size W w' := fun W hb =>
    contains_nm _ _ (enters_of Tryz.func38 (by kernel_rfl) rfl) A c l W (isDtn_calls W) (ReadsRow.imp_ hr hb (fun _ _ hp => hp)) hok hbig
  have hoth : ∀ W, Below w.heap.size w W → Calls Tryz.prog 40 #[.slice A l.length c, .func (.func 39) #[] #[]] W fun e w' => e = .returned (.bool (l.any fun x => !x.right)) ∧ Below W.heap.size W w' := fun W hb =>
    contains_nm _ _ (enters_of Tryz.func39 (by kernel_rfl) rfl) A c l W (isOther_calls W) (ReadsRow.imp_ hr hb (fun _ _ hp => hp)) hok hbig
  obtain ⟨⟨gm, _⟩, ⟨ge, _⟩, _⟩ := hL
  have HCON := Lib.hid hcon
  have HOTH := Lib.hid hoth
  have HR := Lib.hid hr
  have HOK := Lib.hid hok
  have HLD := Lib.hid hLd
  clear hcon hoth hr hok hLd
  have hB1 : Below w.heap.size w ((w.alloc (.map #[] 0)).alloc (.cells #[.map (some w.heap.size), .slice none 0 0, .slice none 0 0] tBld)) := b_alloc (b_alloc (Below.refl _ _) _) _
  have gm1 := (hB1.cell (World.block_lt_of_cell? w _ gm)).trans gm
  have ge1 := (hB1.cell (World.block_lt_of_cell? w _ ge)).trans ge
  have HB1 := Lib.hid hB1
  clear gm ge hB1
  have hbnd : ∀ kk, (l.any fun x => !x.right) = false → l.length ≤ 30 → ((l.take kk).foldl (buildF (l.any Nm.dtn)) ([], [])).1.length ≤ 1000 ∧ (flatT ((l.take kk).foldl (buildF (l.any Nm.dtn)) ([], [])).1).length ≤ 1000000 ∧ ((l.take kk).foldl (buildF (l.any Nm.dtn)) ([], [])).2.length ≤ 1000 := fun kk hq hl => by
    have hall : ∀ x ∈ l, x.right = true := fun x hx => by
      have := (List.any_eq_false.1 hq) x hx
      simpa using this
    obtain ⟨h1, h2, h3⟩ := buildF_bounds (l.any Nm.dtn) (l.take kk) ([], []) (fun x hx => hall x (List.mem_of_mem_take hx))
    have : (l.take kk).length ≤ 30 := by rw [List.length_take]; omega
    simp only [flatT_nil, List.length_nil] at h1 h2 h3
    omega
  have hrt : (l.any fun x => !x.right) = false → ∀ x ∈ l, x.right = true := fun hq x hx => by
    have := (List.any_eq_false.1 hq) x hx
    simpa using this
  have HBND := Lib.hid hbnd
  have HRT := Lib.hid hrt
  clear hbnd hrt
  by_cases h30 : 30 < l.length
  · have h30z : (30 : Int) < (l.length : Int) := by omega
    go_enter Tryz.func24, Tryz.ntmps24
    go_wp2
    refine wp_scope_fwd 0 rfl ?_
    go_wp2
    go_step3
    refine ⟨rfl, ?_⟩
    show Code.wp _ _ _ _ _
    go_wp2
    rw [Exit.noGoto_ret]
    go_ret2
    simp only [if_pos h30]
    exact ⟨HB1.out, rfl⟩
  · have h30z : ¬ (30 : Int) < (l.length : Int) := by omega
    simp only [if_neg h30]
    cases hq : l.any (fun x => !x.right) with
    | true =>
      have hcall := HOTH.out _ HB1.out
      simp only [hq] at hcall
      go_enter Tryz.func24, Tryz.ntmps24
      go_wp2
      refine wp_scope_fwd 0 rfl ?_
      go_wp2_with (go_at_call 40; refine hcall.mono ?_; rintro e w2 ⟨rfl, hb2⟩)
      go_step3
      refine ⟨rfl, ?_⟩
      show Code.wp _ _ _ _ _
      go_wp2
      rw [Exit.noGoto_ret]
      go_ret2
      exact ⟨HB1.out.trans (hb2.mono (by simp; omega)), rfl⟩
    | false =>
      have hcall := HOTH.out _ HB1.out
      simp only [hq] at hcall
      go_enter Tryz.func24, Tryz.ntmps24
      go_wp2
      go_step3
      go_wp2_with (go_at_call 40; refine hcall.mono ?_; rintro e w2 ⟨rfl, hb2⟩)
      have hS0 : BSt w2 w.heap.size (w.heap.size + 1) [] [] := by
        refine ⟨w.heap.size, 0, .map [], .slice none 0 0, .slice none 0 0, BP.below ⟨?_, ?_, World.ownsRow_nil _ _ _ _, World.ownsRow_nil _ _ _ _, by omega, Nat.le_refl _, by simp; omega⟩ hb2, Nat.le_refl _, mapIs_nil⟩
        · have := World.alloc_heap_new (w.alloc (.map #[] 0)) (.cells #[.map (some w.heap.size), .slice none 0 0, .slice none 0 0] tBld)
          rwa [World.size_alloc] at this
        · exact (World.ownsMap_made w _ _ _).alloc _
      have HS0 := Lib.hid hS0
      have HB2 := Lib.hid (HB1.out.trans (hb2.mono (by simp; omega)))
      clear hcall hS0 hb2 HB1 gm1 ge1 HOTH
      have hn30 : l.length ≤ 30 := by omega
      go_loopg [27] l.length (fun gg s27 wr => ∃ kk : Nat, kk ≤ l.length ∧ l.length - kk ≤ gg ∧ s27 = .int .i64 kk ∧ Hid (Below w.heap.size w wr) ∧ Hid (BSt wr w.heap.size (w.heap.size + 1) ((l.take kk).foldl (buildF (l.any Nm.dtn)) ([], [])).1 ((l.take kk).foldl (buildF (l.any Nm.dtn)) ([], [])).2))
      case atStart => exact ⟨0, Nat.zero_le _, by omega, rfl, HB2, HS0⟩
      case round =>
        obtain ⟨kk, hkk, hg, rfl, BW, BS⟩ := hrel
        by_cases hlt : kk < l.length
        · have hltz : (kk : Int) < (l.length : Int) := by omega
          obtain ⟨ad, hA, x0, x1, x2, x3, x4⟩ := at_T41 HR.out (kk : Int) (by omega) hltz
          subst hA
          have hx : l[kk]? = some (rd_T41 l (kk : Int)) := by
            unfold rd_T41
            rw [List.getD_eq_getElem?_getD, Int.toNat_natCast, List.getElem?_eq_getElem hlt]
            rfl
          generalize rd_T41 l (kk : Int) = x at *
          simp only [Int.toNat_natCast] at x0 x1 x2 x3 x4
          replace x0 := (BW.out.cell (World.block_lt_of_cell? w _ x0)).trans x0
          replace x1 := (BW.out.cell (World.block_lt_of_cell? w _ x1)).trans x1
          replace x2 := (BW.out.cell (World.block_lt_of_cell? w _ x2)).trans x2
          replace x3 := (BW.out.cell (World.block_lt_of_cell? w _ x3)).trans x3
          replace x4 := (BW.out.cell (World.block_lt_of_cell? w _ x4)).trans x4
          have htk : (l.take (kk + 1)).foldl (buildF (l.any Nm.dtn)) ([], []) = buildF (l.any Nm.dtn) ((l.take kk).foldl (buildF (l.any Nm.dtn)) ([], [])) x := by
            rw [List.take_add_one, hx, List.foldl_append]
            rfl
          have HX := Lib.hid (HOK.out x (List.mem_of_getElem? hx))
          have HXR := Lib.hid (HRT.out hq x (List.mem_of_getElem? hx))
          obtain ⟨b1, b2, b3⟩ := HBND.out kk hq hn30
          have HT := Lib.hid htk
          clear hx htk
          have hcall := HCON.out (wr.alloc (.cells #[.int .i64 x.f0, .string x.f1, .string x.f2, .int .i64 x.f3, .int .i64 x.f4] 41)) (BW.out.alloc (by have := BW.out.size; omega) _)
          have heb := World.alloc_heap_new wr (.cells #[.int .i64 x.f0, .string x.f1, .string x.f2, .int .i64 x.f3, .int .i64 x.f4] 41)
          have HBa := Lib.hid (BW.out.alloc (by have := BW.out.size; omega) (.cells #[.int .i64 x.f0, .string x.f1, .string x.f2, .int .i64 x.f3, .int .i64 x.f4] 41))
          generalize hst : (l.take kk).foldl (buildF (l.any Nm.dtn)) ([], []) = st at *
          obtain ⟨Lk, pk⟩ := st
          obtain ⟨mb, n, D, vo, vp, hbp, hn, hmap⟩ := BS.out
          have HBPa := Lib.hid (hbp.alloc (.cells #[.int .i64 x.f0, .string x.f1, .string x.f2, .int .i64 x.f3, .int .i64 x.f4] 41))
          have HEB := Lib.hid heb
          clear heb hbp BS BW
          cases hd : l.any Nm.dtn with
          | false =>
            simp only [hd] at hcall
            have hpk : pk.length ≤ 1000 := b3
            clear b1 b2 b3
            have HST := Lib.hid hst
            clear hst
            go_wp2_with (go_at_call 40; refine hcall.mono ?_; rintro e w4 ⟨rfl, hb4⟩)
            have HBP4 := Lib.hid ((HBPa.out.below hb4).drew 1)
            have HB4 := Lib.hid ((HBa.out.trans (hb4.mono HBPa.out.hs)).trans ((below_drewN w4 1).mono (HBPa.out.below hb4).hs))
            have hE4 := (hb4.block _ (by simp)).trans HEB.out
            change Hid (BP w4.drew _ _ _ _ _ _ _ _ _ _ _ _) at HBP4
            change Hid (Below w.heap.size w w4.drew) at HB4
            obtain ⟨Ap, mp, cp, rfl, hmp⟩ := row_slice HBP4.out.prs
            have d2 := cell_blk HBP4.out.blk 2
            simp at d2
            have d2a : ∀ o, (w4.alloc o).cell? ⟨w.heap.size + 1, 2, none⟩ = some (.slice Ap mp cp) := fun o => by
              have := cell_blk ((HBPa.out.below hb4).alloc o).blk 2
              simpa using this
            have e3 := cell_blk hE4 3
            have e4 := cell_blk hE4 4
            simp at e3 e4
            clear hcall hb4 hE4 HBPa HEB HBa x0 x1 x2 x3 x4
            go_region_law (refine step_append_ints (w0 := w) w4.drew w.heap.size rfl (.tmp 39) (.tmp 44) 23 tInt .i64 8 rfl Tryz.underlying23 infoInt (by decide) (.slice Ap mp cp) pk [x.f3, x.f4] rfl rfl HBP4.out.prs HB4.out HBP4.out.hs (by simp; omega) ?_; intro vp1 w9 hown9 hb9 hg9; obtain ⟨Ap1, mp1, cp1, rfl, hmp1⟩ := row_slice hown9; have HBP9 := Lib.hid (HBP4.out.prsed hown9 hg9); have HB9 := Lib.hid hb9; clear hown9 hb9 hg9; have d2 := cell_blk HBP9.out.blk 2; have e2 := frozen_blk HBP9.out.blk 2; simp at d2)
            all_goals (try go_wp2)
            all_goals (go_roundg (l.length - (kk + 1)))
            all_goals (first | (show _ < _; omega) | skip)
            all_goals (refine ⟨kk + 1, by omega, by omega, by go_num, Lib.hid (HB9.out.setCell (p := ⟨w.heap.size + 1, 2, none⟩) HBP9.out.hb _), Lib.hid ?_⟩; rw [HT.out, hd]; exact ⟨mb, _, _, _, _, HBP9.out.set2 (.slice Ap1 mp1 cp1), hn, hmap⟩)
          | true =>
            simp only [hd] at hcall
            have hH := fun W hL => eid_Halves.calls x.f0 x.f1 x.f2 x.f3 x.f4 (Nm.word x) (Nm.rest x) 0 W hL (by unfold eid_Halves.f; rw [← Nm.halves HXR.out]; exact if_pos HX.out)
            have HST := Lib.hid hst
            have HMAP := Lib.hid hmap
            have HN := Lib.hid hn
            have HS := Lib.hid (Nm.sizes HXR.out)
            have B1 := Lib.hid b1
            have B2 := Lib.hid b2
            have B3 := Lib.hid b3
            clear hst hmap hn b1 b2 b3
            go_wp2_with (first | (go_at_call 40; refine hcall.mono ?_; rintro e w4 ⟨rfl, hb4⟩; have HBP4 := Lib.hid (HBPa.out.below hb4); have HB4 := Lib.hid (HBa.out.trans (hb4.mono HBPa.out.hs)); have hE4 := (hb4.block _ (by simp)).trans HEB.out; have e0 := cell_blk hE4 0; have e1 := cell_blk hE4 1; have e2 := cell_blk hE4 2; have e3 := cell_blk hE4 3; have e4 := cell_blk hE4 4; simp at e0 e1 e2 e3 e4; clear hE4 hb4) | (go_at_call 22; refine (hH _ (Laid.below HLD.out HB4.out)).mono ?_; rintro e w5 ⟨rfl, hb5⟩; have HBP5 := Lib.hid ((HBP4.out.below hb5).alloc (.cells #[.string (Nm.word x), .string (Nm.rest x)] tStr)); have HB5 := Lib.hid ((HB4.out.trans (hb5.mono HBP4.out.hs)).alloc (HBP4.out.below hb5).hs (.cells #[.string (Nm.word x), .string (Nm.rest x)] tStr)); have HG5 := Lib.hid (World.alloc_heap_new w5 (.cells #[.string (Nm.word x), .string (Nm.rest x)] tStr))) | (go_at_call 41; refine (text_calls _ w.heap.size (w.heap.size + 1) Lk pk w5.heap.size [(Nm.word x), (Nm.rest x)] 2 _ _ HG5.out (fun j hj => (cell_blk HG5.out j).trans (match j, hj with | 0, _ => rfl | 1, _ => rfl)) ⟨mb, n, D, vo, vp, HBP5.out, HN.out, HMAP.out⟩ (fun t ht => Nat.le_trans (HS.out t ht) (by decide)) (Nat.le_refl _) B2.out B1.out B3.out).mono ?_; rintro e w6 ⟨⟨v, rfl⟩, hS6, hb6⟩))
            go_roundg (l.length - (kk + 1))
            case measure => omega
            case rel => exact ⟨kk + 1, by omega, by omega, by go_num, Lib.hid (HB5.out.trans hb6), Lib.hid (by rw [HT.out, hd, buildF_true]; exact hS6)⟩
        · have hltz : ¬ (kk : Int) < (l.length : Int) := by omega
          have hk : kk = l.length := by omega
          subst hk
          have HS := BS.out
          rw [List.take_length] at HS
          have HS' := Lib.hid HS
          clear HS BS
          go_wp2
          go_ret2
          exact ⟨BW.out, _, rfl, HS'.out⟩
end Go.Proofs.YtbjbicaffblchaaGreatDoor.Hand
end
section
namespace Go.Proofs.YtbjbicaffblchaaGreatDoor.Hand
open Go.RowKit Go.Proofs.YtbjbicaffblchaaGreatDoorW Go.Proofs.YtbjbicaffblchaaGreatDoorW.PrintWords Go.Proofs.YtbjbicaffblchaaGreatDoor.SK
theorem str_txt (l : List UInt8) : strOfNums (bytesI l) = txt l := by
  unfold strOfNums txt
  congr 1
  simp [Function.comp_def]
def okB (l : List Nm) : Bool := l.all fun x => decide (x.f1.size ≤ maxLen) && decide (x.f2.size ≤ maxLen)
theorem okB_ok {l : List Nm} (h : okB l = true) : ∀ x ∈ l, x.ok := fun x hx => by
  have := (List.all_eq_true.1 h) x hx
  simpa [Nm.ok] using this
def buildT (l : List Nm) : ByteArray × List Int × Int :=
  if 30 < l.length then (⟨#[]⟩, [], 71) else if l.any (fun x => !x.right) = true then (⟨#[]⟩, [], 60) else (txt (flatT (builtS l).1), (builtS l).2, 0)
def dict_Build.f (l : List Nm) : Option (ByteArray × List Int × Int) := if okB l = true then some (buildT l) else none
set_option maxHeartbeats 2000000 in
set_option maxRecDepth 100000 in
theorem dict_Build.calls (A0 : Option Addr) (c0 : Nat) (l0 : List Nm) (r1 : ByteArray) (r2 : List Int) (r3 : Int) (w : World) (hr0 : Kd.C kNm w A0 l0.length l0) (hc0 : l0.length ≤ c0) (hLd : LaidD w) (h : dict_Build.f l0 = some (r1, r2, r3)) :
    Calls Tryz.prog 12 #[.slice A0 l0.length c0] w fun e w' => ∃ v1_ : Value, e = .returned (.tuple #[.string r1, v1_, .int .i64 r3]) ∧ Kd.R (Kd.int .i64) 3 w' w.heap.size (fun _ => True) v1_ r2 ∧ Below w.heap.size w w' := by
  unfold dict_Build.f at h
  split at h
  case isFalse => cases h
  rename_i hok
  replace h := Option.some.inj h
  obtain ⟨hLd, am, ae, ad, hE⟩ := hLd
  have hb := built_calls A0 c0 l0 w am ae ad hE hLd hr0 (okB_ok hok) hr0.2.1
  have HE := Lib.hid hE
  have hu2 := Tryz.underlying61
  clear hr0 hok hLd hE hc0
  unfold buildT at h
  by_cases h30 : 30 < l0.length
  · simp only [if_pos h30] at hb h
    simp only [Prod.mk.injEq] at h
    obtain ⟨rfl, rfl, rfl⟩ := h
    unfold errV at hb
    have h1 := fun W hW => either_int_many 0 W am ae ad hW
    unfold errV at h1
    go_enter Tryz.func12, Tryz.ntmps12
    go_wp2_with (first | (go_at_call 24; refine hb.mono ?_; rintro e w1 ⟨hb1, rfl⟩) | (go_at_call 25; refine (h1 _ (HE.out.below hb1)).mono ?_; rintro e w2 ⟨rfl, rfl⟩))
    go_ret3
    exact ⟨_, rfl, Kd.R_nil _ _ _ _ _, hb1⟩
  · simp only [if_neg h30] at hb h
    by_cases hr : l0.any (fun x => !x.right) = true
    · simp only [if_pos hr] at hb h
      simp only [Prod.mk.injEq] at h
      obtain ⟨rfl, rfl, rfl⟩ := h
      unfold errV at hb
      have h1 := fun W hW => either_int_eid 0 W am ae ad hW
      unfold errV at h1
      go_enter Tryz.func12, Tryz.ntmps12
      go_wp2_with (first | (go_at_call 24; refine hb.mono ?_; rintro e w1 ⟨hb1, rfl⟩) | (go_at_call 25; refine (h1 _ (HE.out.below hb1)).mono ?_; rintro e w2 ⟨rfl, rfl⟩))
      go_ret3
      exact ⟨_, rfl, Kd.R_nil _ _ _ _ _, hb1⟩
    · simp only [if_neg hr] at hb h
      simp only [Prod.mk.injEq] at h
      obtain ⟨rfl, rfl, rfl⟩ := h
      go_enter Tryz.func12, Tryz.ntmps12
      go_wp2_with (go_at_call 24; refine hb.mono ?_; rintro e w1 ⟨hb1, bb, rfl, hS⟩; obtain ⟨mb, n, D, vo, vp, hbp, hn, hmap⟩ := hS; obtain ⟨Ao, mo, co, rfl, hmo⟩ := row_slice hbp.row; obtain ⟨Ap, mp, cp, rfl, hmp⟩ := row_slice hbp.prs; have c1 := cell_blk hbp.blk 1; have c2 := cell_blk hbp.blk 2; have hcv : (convert 59 9 (.slice Ao mo co)).run Tryz.prog w1.drew = .ok (.string (strOfNums (bytesI (flatT (builtS l0).1)))) w1.drew := own_string Tryz.underlying59 Tryz.underlying5 Tryz.underlying9 (hbp.drew 1).row; simp at c1 c2; have HBP := Lib.hid (hbp.drew 1); clear hmap hbp)
      go_region_with (fail)
      all_goals (try go_wp2)
      all_goals go_ret3
      all_goals exact ⟨.slice Ap mp cp, by rw [str_txt]; rfl, Kd.R_of_own HBP.out.prs (fun _ _ => trivial), hb1.trans ((below_drewN w1 1).mono (by have := hb1.size; omega))⟩
end Go.Proofs.YtbjbicaffblchaaGreatDoor.Hand
end
section
namespace Go.Proofs.YtbjbicaffblchaaGreatDoor.Hand
open Go.RowKit Go.Proofs.YtbjbicaffblchaaGreatDoorW Go.Proofs.YtbjbicaffblchaaGreatDoorW.PrintWords Go.Proofs.YtbjbicaffblchaaGreatDoor.SK
def cutp (r : List UInt8) : List UInt8 := (Lib.cut r [0]).1
def itemsF : Nat → Nat → List UInt8 → List (Int × ByteArray)
  | 0, _, _ => []
  | k + 1, at_, r => if r = [] then [] else ((at_ : Int), txt (cutp r)) :: itemsF k (at_ + (cutp r).length + 1) (r.drop ((cutp r).length + 1))
def items (s : List UInt8) : List (Int × ByteArray) := itemsF (s.length + 1) 0 s
abbrev encItem (x : Int × ByteArray) : Array Value := #[.int .i64 x.1, .string x.2]
theorem texts_make (s : ByteArray) (w : World) :
    Calls Tryz.prog 35 #[.string s] w fun e w' => e = .returned (.func (.func 48) #[] #[.pointer (some ⟨w.heap.size, 0, none⟩)]) ∧ w.alloc (.cells #[.string s] 9) = w' := by
  go_enter Tryz.func35, Tryz.ntmps35
  go_wp2
  go_ret
  exact ⟨rfl, rfl⟩
theorem extract_drop (s : ByteArray) (a : Nat) : (s.extract a s.size).data.toList = s.data.toList.drop a := by
  have h : s.data.toList.length = s.size := Array.length_toList ..
  rw [ByteArray.data_extract, Array.toList_extract, List.extract_eq_take_drop, List.take_of_length_le]
  rw [List.length_drop, h]
  exact Nat.le_refl _
theorem cutp_len (r : List UInt8) : (cutp r).length ≤ r.length := by
  have := (cut_sizes r [0]).1
  exact this
theorem wrap_at (a m : Nat) (h : a + m ≤ 5000000000) : wrap64 ((a : Int) + wrap64 ((m : Int) + 1)) = ((a + m + 1 : Nat) : Int) := by
  unfold wrap64
  omega
attribute [local go_sem] Oper.semAt_some
set_option maxRecDepth 100000 in
set_option maxHeartbeats 4000000 in
theorem texts_iter (s : ByteArray) (b : Nat) (w0 : World) (hL : Laid w0) (hs : s.size < 4294967281) (h1 : w0.heap[b]? = some (.cells #[.string s] 9)) :
    IterX Tryz.prog 48 #[.pointer (some ⟨b, 0, none⟩)] encItem (fun _ => False) (fun k => k = b ∨ k < NG) (items s.data.toList) w0 := by
  intro l J Jx W hW hJ hJx hY h0
  have hlt1 : b < w0.heap.size := (Array.getElem?_eq_some_iff.1 h1).1
  have hbW1 := (hW.block _ hlt1).trans h1
  have HJ := Lib.hid hJ
  have HJx := Lib.hid hJx
  have HY := Lib.hid hY
  have HLW := Lib.hid (hL.below hW)
  have HB1 := Lib.hid hbW1
  have H0 := Lib.hid h0
  have hlen : s.data.toList.length = s.size := Array.length_toList ..
  clear hL h1 hW hJ hJx hY hbW1 h0 hlt1
  refine (callsIn_wide (n := 10)).2 ?_
  simp only [List.append_toArray, List.cons_append, List.nil_append]
  go_enter Tryz.func48, Tryz.ntmps48
  go_wp2
  go_step3
  go_wp2_with (fail)
  go_step3
  go_wp2_with (fail)
  have hb0 := cell_blk HB1.out 0
  simp at hb0
  go_loopw [3] (fun i wr => ∃ (pre : List (Int × ByteArray)) (at_ k : Nat), i = .int .i64 at_ ∧ at_ ≤ s.size + 1 ∧ s.size + 1 ≤ at_ + k ∧ Hid (pre ++ itemsF k at_ (s.data.toList.drop at_) = items s.data.toList) ∧ Hid (J pre wr) ∧ Hid (wr.heap[b]? = some (.cells #[.string s] 9)) ∧ Hid (Laid wr)) (fun i _ => s.size + 2 - (intOf i).toNat)
  case atStart => exact ⟨[], 0, s.size + 1, rfl, Nat.zero_le _, by omega, Lib.hid (by rw [items, hlen]; rfl), H0, HB1, HLW⟩
  case round =>
    obtain ⟨pre, at_, k, rfl, ha, hk, HI, HJr, HBr, HLr⟩ := hrel
    clear HB1 HLW H0 hb0
    have q1 : wr.cell? ⟨b, 0, none⟩ = some (.string s) := (cell_blk HBr.out 0).trans rfl
    by_cases hlt : at_ < s.size
    · obtain ⟨k, rfl⟩ : ∃ j, k = j + 1 := ⟨k - 1, by omega⟩
      have hltz : (at_ : Int) < (s.size : Int) := by omega
      have hge : (0 : Int) ≤ (at_ : Int) := by omega
      have hlez : (at_ : Int) ≤ (s.size : Int) := by omega
      have hne : s.data.toList.drop at_ ≠ [] := fun e => by
        have := congrArg List.length e
        rw [List.length_drop, hlen] at this
        simp at this
        omega
      have hit : itemsF (k + 1) at_ (s.data.toList.drop at_) = ((at_ : Int), txt (cutp (s.data.toList.drop at_))) :: itemsF k (at_ + (cutp (s.data.toList.drop at_)).length + 1) (s.data.toList.drop (at_ + (cutp (s.data.toList.drop at_)).length + 1)) := by
        rw [itemsF, if_neg hne, List.drop_drop]
        rfl
      have hpl : (cutp (s.data.toList.drop at_)).length ≤ s.size - at_ := by
        have := cutp_len (s.data.toList.drop at_)
        rwa [List.length_drop, hlen] at this
      have hcut := strings_Cut.calls (s.extract at_ s.size) ⟨#[0]⟩ (txt (cutp (s.data.toList.drop at_))) (txt (Lib.cut (s.data.toList.drop at_) [0]).2.1) (Lib.cut (s.data.toList.drop at_) [0]).2.2 wr HLr.out (by
        unfold strings_Cut.f
        rw [if_pos (by rw [ByteArray.size_extract]; omega), extract_drop]
        rfl)
      have hqs : (txt (cutp (s.data.toList.drop at_))).size = (cutp (s.data.toList.drop at_)).length := txt_size _
      have HP : Hid ((pre ++ [((at_ : Int), txt (cutp (s.data.toList.drop at_)))]) <+: items s.data.toList) := Lib.hid (by rw [← HI.out, hit]; exact ⟨itemsF k (at_ + (cutp (s.data.toList.drop at_)).length + 1) (s.data.toList.drop (at_ + (cutp (s.data.toList.drop at_)).length + 1)), by simp⟩)
      have HI2 : Hid (pre ++ [((at_ : Int), txt (cutp (s.data.toList.drop at_)))] ++ itemsF k (at_ + (cutp (s.data.toList.drop at_)).length + 1) (s.data.toList.drop (at_ + (cutp (s.data.toList.drop at_)).length + 1)) = items s.data.toList) := Lib.hid (by rw [← HI.out, hit]; simp)
      generalize (cutp (s.data.toList.drop at_)).length = m at *
      generalize txt (cutp (s.data.toList.drop at_)) = q at *
      generalize txt (Lib.cut (s.data.toList.drop at_) [0]).2.1 = q2 at *
      generalize (Lib.cut (s.data.toList.drop at_) [0]).2.2 = q3 at *
      have HQ := Lib.hid hqs
      have HW : Hid (wrap64 ((at_ : Int) + wrap64 ((m : Int) + 1)) = ((at_ + m + 1 : Nat) : Int)) := Lib.hid (wrap_at at_ m (by omega))
      clear hit hne hqs hlen
      go_wp2_with (fail)
      refine hcut.mono ?_
      rintro e w3 ⟨rfl, hb3⟩
      have HJ3 := Lib.hid (HJ.out _ _ _ HJr.out (KeptA.of_below hb3))
      have HL3 := Lib.hid (HLr.out.below hb3)
      have HB3 := Lib.hid ((hb3.block _ (Array.getElem?_eq_some_iff.1 HBr.out).1).trans HBr.out)
      obtain ⟨fn, tmps, assign, body, hy, hR⟩ := HY.out _ _ _ HJ3.out HP.out
      try dsimp only at hy
      have HR := Lib.hid hR
      have HYY := Lib.hid hy
      clear hy hR hcut q1 hb3
      go_upto_region 3 with (fail)
      refine (wpIn_wide (n := 10)).1 ?_
      have hy := HYY.out
      clear HYY
      gi_wp2
      refine HR.out.mono ?_
      rintro e W' (⟨rfl, hJ', hsame, hkf⟩ | ⟨rfl, hJx'⟩)
      · have HJ' := Lib.hid hJ'
        have HSame := Lib.hid hsame
        clear hJ' hsame hkf hy
        gi_wp2
        go_wp2
        go_roundw
        case rel => exact ⟨_, at_ + m + 1, k, by rw [HQ.out, HW.out], by omega, by omega, HI2, HJ', Lib.hid ((HSame.out _ (.inl rfl)).trans HB3.out), Lib.hid (HL3.out.same fun k hk => HSame.out _ (.inr hk))⟩
        case measure => rw [HQ.out, HW.out]; simp only [intOf]; omega
      · have HJx' := Lib.hid hJx'
        clear hJx' hy
        gi_wp2
        go_wp2
        try rw [show ∀ Q a w, Exit.noGoto Q .normal a w = Q .normal a w from fun _ _ _ => rfl]
        go_end0
        exact ⟨⟨_, rfl⟩, .inr ⟨_, HP.out, HJx'.out⟩⟩
    · have hltz : ¬ (at_ : Int) < (s.size : Int) := by omega
      have hnil : s.data.toList.drop at_ = [] := List.drop_eq_nil_of_le (by rw [hlen]; omega)
      have HI2 : Hid (pre = items s.data.toList) := Lib.hid (by
        have := HI.out
        rw [hnil] at this
        rw [← this]
        cases k <;> simp [itemsF])
      clear hnil hlen
      go_wp2
      try rw [show ∀ Q a w, Exit.noGoto Q .normal a w = Q .normal a w from fun _ _ _ => rfl]
      go_end0
      exact ⟨⟨_, rfl⟩, .inl (by rw [← HI2.out]; exact HJr.out)⟩
end Go.Proofs.YtbjbicaffblchaaGreatDoor.Hand
end
section
namespace Go.Proofs.YtbjbicaffblchaaGreatDoor.Hand
open Go.RowKit Go.Proofs.YtbjbicaffblchaaGreatDoorW Go.Proofs.YtbjbicaffblchaaGreatDoorW.PrintWords Go.Proofs.YtbjbicaffblchaaGreatDoor.SK
def openT (l : List UInt8) : Bool := l != [] && l.getLast? != some 0
def textsT (s : ByteArray) : List ByteArray × Int := if openT s.data.toList = true then ([], 70) else ((items s.data.toList).map (·.2), 0)
def dict_Texts.f (s : ByteArray) : Option (List ByteArray × Int) := if s.size < 4294967281 then some (textsT s) else none
theorem ne_nil_size {a : ByteArray} (h : ¬ a.toList = []) : 1 ≤ a.size := by
  have h2 : a.data.toList.length = a.size := Array.length_toList ..
  rw [ByteArray.toList_eq] at h
  have := List.length_pos_iff.2 h
  omega
theorem last_is {a : ByteArray} (h : 1 ≤ a.size) : a.data.toList.getLast? = some (a[a.size - 1]'(by omega)) := by
  have h2 : a.data.toList.length = a.size := Array.length_toList ..
  rw [List.getLast?_eq_getElem?, h2, List.getElem?_eq_getElem (by rw [h2]; omega)]
  rfl
theorem open_is (a : ByteArray) (h : ¬ a.toList = []) (hp : a.size - 1 < a.size) : openT a.data.toList = ((((a[a.size - 1]'hp).toNat : Int)) != 0) := by
  have h1 := ne_nil_size h
  unfold openT
  rw [last_is h1]
  rw [ByteArray.toList_eq] at h
  rw [show (a.data.toList != []) = true by simpa using h, Bool.true_and]
  generalize (a[a.size - 1]'hp) = c
  rw [Bool.eq_iff_iff]
  simp only [bne_iff_ne, ne_eq, Option.some.injEq]
  refine not_congr ⟨fun e => by rw [e]; rfl, fun e => ?_⟩
  apply UInt8.toNat_inj.1
  show c.toNat = 0
  omega
def txI (base B0 : Nat) (w : World) (pre : List (Int × ByteArray)) (W : World) : Prop :=
  Below w.heap.size w W ∧ ∃ v, W.heap[B0]? = some (.cells #[v] 33) ∧ W.ownsRow base tStr 1 v pre.length (encs Value.string (pre.map (·.2)))
theorem txI_keep {base B0 B1 : Nat} {w A B : World} {pre : List (Int × ByteArray)} (h : txI base B0 w pre A) (hk : KeptX (fun _ => False) B1 A B) (h0 : w.heap.size ≤ B1) : txI base B0 w pre B := by
  obtain ⟨hb, v, h1, h2⟩ := h
  refine ⟨hk.below hb h0 (Nat.le_refl _) (fun _ _ => id), v, hk.blk h1 id, own_move h2 (fun k hk2 => ?_)⟩
  obtain ⟨cs, hc⟩ := own_typed h2 k hk2
  exact (hk.blk hc id).trans hc.symm
theorem infoStr : (Tryz.prog.info? tStr).map (fun i => (i.zero, i.size, i.bytes)) = some (some (.string ⟨#[]⟩), 1, 16) := by kernel_rfl
theorem itemsF_len : ∀ (k a : Nat) (r : List UInt8), (itemsF k a r).length ≤ k := by
  intro k
  induction k with
  | zero => intro a r; simp [itemsF]
  | succ k ih =>
    intro a r
    rw [itemsF]
    split
    · simp
    · have := ih (a + (cutp r).length + 1) (r.drop ((cutp r).length + 1))
      simp only [List.length_cons]
      omega
attribute [local go_sem] Oper.semAt_some
set_option maxRecDepth 100000 in
set_option maxHeartbeats 4000000 in
theorem dict_Texts.calls (a0 : ByteArray) (r1 : List ByteArray) (r2 : Int) (w : World) (hLd : LaidD w) (h : dict_Texts.f a0 = some (r1, r2)) :
    Calls Tryz.prog 16 #[.string a0] w fun e w' => ∃ v1_ : Value, e = .returned (.tuple #[v1_, .int .i64 r2]) ∧ Kd.R Kd.string 9 w' w.heap.size (fun _ => True) v1_ r1 ∧ Below w.heap.size w w' := by
  unfold dict_Texts.f at h
  split at h
  case isFalse => cases h
  rename_i hs
  replace h := Option.some.inj h
  obtain ⟨hLd, am, ae, ad, hE⟩ := hLd
  have HL := Lib.hid hLd
  have HE := Lib.hid hE
  obtain ⟨_, _, ⟨gd, _⟩, _⟩ := hE
  have hB1 : Below w.heap.size w (w.alloc (.cells #[.slice none 0 0] 33)) := b_alloc (Below.refl _ _) _
  have gd1 := (hB1.cell (World.block_lt_of_cell? w _ gd)).trans gd
  have HB1 := Lib.hid hB1
  clear hLd gd hB1
  unfold textsT at h
  by_cases ho : openT a0.data.toList = true
  · rw [if_pos ho] at h
    simp only [Prod.mk.injEq] at h
    obtain ⟨rfl, rfl⟩ := h
    have hne : ¬ a0.toList = [] := fun e => by
      rw [ByteArray.toList_eq] at e
      rw [openT, e] at ho
      exact absurd ho (by decide)
    have h1 := ne_nil_size hne
    have hlast := (open_is a0 hne (by omega)).symm.trans ho
    have z1 : (1 : Int) ≤ (a0.size : Int) := by omega
    have z2 : (a0.size : Int) - 1 < (a0.size : Int) := by omega
    have he := either_strs_dict none 0 0 (w.alloc (.cells #[.slice none 0 0] 33)) am ae ad (HE.out.below HB1.out)
    unfold errV at he
    clear ho
    go_enter Tryz.func16, Tryz.ntmps16
    go_wp2_with (go_at_call 34; refine he.mono ?_; rintro e w2 ⟨rfl, rfl⟩)
    all_goals first | (go_ret2; exact ⟨_, rfl, Kd.R_nil _ _ _ _ _, HB1.out⟩) | (exfalso; simp_all; done)
  · rw [if_neg ho] at h
    simp only [Prod.mk.injEq] at h
    obtain ⟨rfl, rfl⟩ := h
    have hcase : a0.toList = [] ∨ ∃ (_ : ¬ a0.toList = []) (hp : a0.size - 1 < a0.size), ((((a0[a0.size - 1]'hp).toNat : Int)) != 0) = false := by
      by_cases e : a0.toList = []
      · exact .inl e
      · have h1 := ne_nil_size e
        refine .inr ⟨e, by omega, ?_⟩
        rw [← open_is a0 e (by omega)]
        exact Bool.eq_false_iff.2 ho
    clear ho
    refine (callsIn_wide (n := 11)).1 (callsIn_of_wp_marks Tryz.func16 rfl trivial (wpIn_wide.2 ?_) rfl)
    simp only [Tryz.ntmps16, List.size_toArray, List.length_cons, List.length_nil, Nat.reduceAdd, Nat.reduceSub, Array.replicate_succ, Array.replicate_zero, List.push_toArray, List.append_toArray, List.nil_append, List.cons_append]
    obtain ⟨w1, hw1⟩ : ∃ w1, w1 = w.alloc (.cells #[.slice none 0 0] 33) := ⟨_, rfl⟩
    have hz0 : w1.heap[w.heap.size]? = some (.cells #[.slice none 0 0] 33) := by rw [hw1]; exact World.alloc_heap_new _ _
    have hs1 : w1.heap.size = w.heap.size + 1 := by rw [hw1]; simp
    rw [← hw1] at HB1
    rcases hcase with hnil | ⟨hne, hp, hz⟩
    rotate_left
    · have z1 : (1 : Int) ≤ (a0.size : Int) := by omega
      have z2 : (a0.size : Int) - 1 < (a0.size : Int) := by omega
      go_wp2_with (fail)
      rw [← hw1]
      refine (texts_make a0 w1).mono ?_
      rintro e w2' ⟨rfl, hw2⟩
      have hb2 : Below w1.heap.size w1 w2' := by rw [← hw2]; exact b_alloc (Below.refl _ _) _
      have hy0 : w2'.heap[w1.heap.size]? = some (.cells #[.string a0] tStr) := by rw [← hw2]; exact World.alloc_heap_new _ _
      have hs2 : w2'.heap.size = w.heap.size + 2 := by rw [← hw2, World.size_alloc, hs1]
      clear hw2
      obtain ⟨w2, rfl⟩ : ∃ w2, w2 = w2' := ⟨_, rfl⟩
      have HZ0 := Lib.hid ((hb2.block _ (Array.getElem?_eq_some_iff.1 hz0).1).trans hz0)
      have HB := Lib.hid (HB1.out.trans (hb2.mono HB1.out.size))
      have HL2 := Lib.hid (HL.out.below HB.out)
      have HS1 := Lib.hid hs1
      have HS2 := Lib.hid hs2
      have HY0 := Lib.hid hy0
      have HEE := Lib.hid (fun W hb => HE.out.below (w' := W) hb)
      clear hz0 hs1 hs2 hy0 hb2 hw1 gd1
      go_wp2_with (fail)
      refine rangeFuncW (gf := 48) (lb := #[.pointer (some ⟨w1.heap.size, 0, none⟩)]) rfl (Go.Proofs.enters_of Tryz.func48 (by kernel_rfl) rfl)
        (texts_iter a0 w1.heap.size w2 HL2.out hs HY0.out) (fun _ h => h.elim) ?hR (Below.refl _ _) (fun _ => rfl)
        (txI w2.heap.size w.heap.size w) (fun _ _ _ => False) ?hI ?hIx ?h0 ?hround ?hdone ?hstop
      case hR =>
        have e1 := HS1.out
        have e2 := HS2.out
        have e3 := HL.out.size
        rintro k (rfl | h)
        · omega
        · have : k < 6 + 1 := h
          omega
      case hI => exact fun s A B hs hk => txI_keep hs hk (by have := HS2.out; omega)
      case hIx => exact fun c s A B hs _ => hs.elim
      case h0 => exact ⟨HB.out, _, HZ0.out, World.ownsRow_nil _ _ _ _⟩
      case hstop => exact fun _ _ _ _ _ _ h _ => h.elim
      case hround =>
        intro l pre x W K hlw hloop hi hpre hK
        have HK := Lib.hid hK
        have HI := Lib.hid hi
        have hpl : pre.length + 1 ≤ 4294967300 := by
          have h1 := hpre.length_le
          have h2 := itemsF_len (a0.data.toList.length + 1) 0 a0.data.toList
          have h3 : a0.data.toList.length = a0.size := Array.length_toList ..
          simp only [items, List.length_append, List.length_cons, List.length_nil] at h1
          omega
        clear hK hi hpre
        gi_wp2
        refine HK.out _ _ ((KeepsOthers.refl _).from _) (fun _ _ => rfl) ?_
        intro W1 hkx hl1 hsz1
        obtain ⟨hb1, v1, hc1, ho1⟩ := txI_keep HI.out hkx (by have := HS2.out; omega)
        obtain ⟨A1, m1, c1, rfl, hm1⟩ := row_slice ho1
        have c0 := cell_blk hc1 0
        have f0 := frozen_blk hc1 0
        simp at c0
        have HB1' := Lib.hid hb1
        have HC1 := Lib.hid hc1
        have HO1 := Lib.hid ho1
        have HSZ := Lib.hid hsz1
        have HPL := Lib.hid hpl
        obtain ⟨i0, hi0, hii⟩ := Option.map_eq_some_iff.1 infoStr
        simp only [Prod.mk.injEq] at hii
        obtain ⟨hi1, hi2, hi3⟩ := hii
        clear hb1 hc1 ho1 hkx hl1 hsz1 hpl
        gi_wp2_with (gi_at_builtin; refine wpListIn_append_own_at _ rfl _ _ 33 rfl w2.heap.size tStr i0 (.string ⟨#[]⟩) 1 16 Tryz.underlying33 hi0 hi1 hi2 hi3 rfl (by decide) (.slice A1 m1 c1) pre.length _ rfl (HO1.out.alloc _) ⟨W1.heap.size, 0, none⟩ 1 1 [.string x.2] rfl rfl (cell_one_new _ _ _) (by simp [Value.oneCell']) (by have := HPL.out; unfold maxLen; omega) (by have := HPL.out; omega) (by have := HSZ.out; simp; omega) ?_; intro v3 w3 hown3 hgrow3 _ hat3; clear hat3; obtain ⟨A3, m3, c3, rfl, hm3⟩ := row_slice hown3; have hg13 := World.grownBy.trans (World.grownBy_alloc W1 (.cells #[.string x.2] tStr) _) hgrow3; have hbase := fun k hk => own_base (HO1.out.alloc (.cells #[.string x.2] tStr)) k hk; have hk3 := (hg13.block _ (Array.getElem?_eq_some_iff.1 HC1.out).1 (fun e => by have := hbase _ e.symm; have := HS2.out; omega)).trans HC1.out; have d0 := cell_blk hk3 0; have g0 := frozen_blk hk3 0; simp at d0)
        have hrow3 : ∀ k, (Value.slice A3 m3 c3).ownBlock = some k → w2.heap.size ≤ k := fun k hk => own_base hown3 k hk
        refine ⟨?_, ?_, ?_, .slice A3 m3 c3, blk_set hk3 0 _, ?_⟩
        · refine KeepsFrom.trans ((KeepsOthers.of_grownBy hg13 (fun j o e ho => ?_)).from _) ((KeepsOthers.setCell _ _ _).from _)
          obtain ⟨cs, hcs⟩ := own_typed HO1.out j e
          rw [hcs] at ho
          cases ho
          rfl
        · intro k hk
          have e1 := HS1.out
          have e2 := HS2.out
          have e3 := HL.out.size
          have hk2 : k < w2.heap.size ∧ k ≠ w.heap.size := by
            rcases hk with rfl | hk
            · omega
            · have : k < 6 + 1 := hk
              omega
          have hk4 : k < W1.heap.size := Nat.lt_of_lt_of_le hk2.1 HSZ.out
          exact (Below.heap_setCell _ _ _ k hk2.2).trans (hg13.block k hk4 (fun e => by have := own_base HO1.out k e.symm; omega))
        · exact Below.setCell (HB1'.out.grown hg13 HB1'.out.size (fun k e => by have := own_base HO1.out k e; have := HS2.out; omega)) (Nat.le_refl _) _
        · refine own_move (w := w3) (by simpa [encs] using hown3) (fun k hk => Below.heap_setCell _ _ _ k (fun e => ?_))
          have := hrow3 k hk
          have := HS2.out
          have e' : k = w.heap.size := e
          omega
      case hdone =>
        intro D W hD hi hd
        obtain ⟨hb, v, hc, ho⟩ := hi
        obtain ⟨A1, m1, c1, rfl, hm1⟩ := row_slice ho
        have c0 := cell_blk hc 0
        simp at c0
        have he := either_strs_nil A1 m1 c1 W am ae ad (HEE.out W hb)
        have HB5 := Lib.hid hb
        have HO5 := Lib.hid ho
        have HDD := Lib.hid hd
        clear hb ho hd hc
        go_wp2_with (go_at_call 34; refine he.mono ?_; rintro e w5 ⟨rfl, rfl⟩)
        show LeavesInM Fence.wide 11 Tryz.prog Tryz.f16 _ _ _ .returning _
        refine ⟨by simp, .inl ⟨_, _, rfl, run_takeDeferred HDD.out, ?_⟩⟩
        refine ⟨_, results_tmp2 rfl _ _ _, .slice A1 m1 c1, rfl, Kd.R_of_own ?_ (fun _ _ => trivial), ?_⟩
        · have ho2 := own_weaken HO5.out (show w.heap.size ≤ w2.heap.size by have := HS2.out; omega)
          refine own_move (w := w5) (by simpa using ho2) (fun k hk => World.putObj_heap_other (fun e => ?_))
          obtain ⟨cs, hcs⟩ := own_typed HO5.out k hk
          rw [e, HDD.out] at hcs
          cases hcs
        · exact HB5.out.trans ⟨rfl, rfl, rfl, by simp, fun k hk => World.putObj_heap_other (by have := HS2.out; omega)⟩
    · go_wp2_with (fail)
      rw [← hw1]
      refine (texts_make a0 w1).mono ?_
      rintro e w2' ⟨rfl, hw2⟩
      have hb2 : Below w1.heap.size w1 w2' := by rw [← hw2]; exact b_alloc (Below.refl _ _) _
      have hy0 : w2'.heap[w1.heap.size]? = some (.cells #[.string a0] tStr) := by rw [← hw2]; exact World.alloc_heap_new _ _
      have hs2 : w2'.heap.size = w.heap.size + 2 := by rw [← hw2, World.size_alloc, hs1]
      clear hw2
      obtain ⟨w2, rfl⟩ : ∃ w2, w2 = w2' := ⟨_, rfl⟩
      have HZ0 := Lib.hid ((hb2.block _ (Array.getElem?_eq_some_iff.1 hz0).1).trans hz0)
      have HB := Lib.hid (HB1.out.trans (hb2.mono HB1.out.size))
      have HL2 := Lib.hid (HL.out.below HB.out)
      have HS1 := Lib.hid hs1
      have HS2 := Lib.hid hs2
      have HY0 := Lib.hid hy0
      have HEE := Lib.hid (fun W hb => HE.out.below (w' := W) hb)
      clear hz0 hs1 hs2 hy0 hb2 hw1 gd1
      go_wp2_with (fail)
      refine rangeFuncW (gf := 48) (lb := #[.pointer (some ⟨w1.heap.size, 0, none⟩)]) rfl (Go.Proofs.enters_of Tryz.func48 (by kernel_rfl) rfl)
        (texts_iter a0 w1.heap.size w2 HL2.out hs HY0.out) (fun _ h => h.elim) ?hR (Below.refl _ _) (fun _ => rfl)
        (txI w2.heap.size w.heap.size w) (fun _ _ _ => False) ?hI ?hIx ?h0 ?hround ?hdone ?hstop
      case hR =>
        have e1 := HS1.out
        have e2 := HS2.out
        have e3 := HL.out.size
        rintro k (rfl | h)
        · omega
        · have : k < 6 + 1 := h
          omega
      case hI => exact fun s A B hs hk => txI_keep hs hk (by have := HS2.out; omega)
      case hIx => exact fun c s A B hs _ => hs.elim
      case h0 => exact ⟨HB.out, _, HZ0.out, World.ownsRow_nil _ _ _ _⟩
      case hstop => exact fun _ _ _ _ _ _ h _ => h.elim
      case hround =>
        intro l pre x W K hlw hloop hi hpre hK
        have HK := Lib.hid hK
        have HI := Lib.hid hi
        have hpl : pre.length + 1 ≤ 4294967300 := by
          have h1 := hpre.length_le
          have h2 := itemsF_len (a0.data.toList.length + 1) 0 a0.data.toList
          have h3 : a0.data.toList.length = a0.size := Array.length_toList ..
          simp only [items, List.length_append, List.length_cons, List.length_nil] at h1
          omega
        clear hK hi hpre
        gi_wp2
        refine HK.out _ _ ((KeepsOthers.refl _).from _) (fun _ _ => rfl) ?_
        intro W1 hkx hl1 hsz1
        obtain ⟨hb1, v1, hc1, ho1⟩ := txI_keep HI.out hkx (by have := HS2.out; omega)
        obtain ⟨A1, m1, c1, rfl, hm1⟩ := row_slice ho1
        have c0 := cell_blk hc1 0
        have f0 := frozen_blk hc1 0
        simp at c0
        have HB1' := Lib.hid hb1
        have HC1 := Lib.hid hc1
        have HO1 := Lib.hid ho1
        have HSZ := Lib.hid hsz1
        have HPL := Lib.hid hpl
        obtain ⟨i0, hi0, hii⟩ := Option.map_eq_some_iff.1 infoStr
        simp only [Prod.mk.injEq] at hii
        obtain ⟨hi1, hi2, hi3⟩ := hii
        clear hb1 hc1 ho1 hkx hl1 hsz1 hpl
        gi_wp2_with (gi_at_builtin; refine wpListIn_append_own_at _ rfl _ _ 33 rfl w2.heap.size tStr i0 (.string ⟨#[]⟩) 1 16 Tryz.underlying33 hi0 hi1 hi2 hi3 rfl (by decide) (.slice A1 m1 c1) pre.length _ rfl (HO1.out.alloc _) ⟨W1.heap.size, 0, none⟩ 1 1 [.string x.2] rfl rfl (cell_one_new _ _ _) (by simp [Value.oneCell']) (by have := HPL.out; unfold maxLen; omega) (by have := HPL.out; omega) (by have := HSZ.out; simp; omega) ?_; intro v3 w3 hown3 hgrow3 _ hat3; clear hat3; obtain ⟨A3, m3, c3, rfl, hm3⟩ := row_slice hown3; have hg13 := World.grownBy.trans (World.grownBy_alloc W1 (.cells #[.string x.2] tStr) _) hgrow3; have hbase := fun k hk => own_base (HO1.out.alloc (.cells #[.string x.2] tStr)) k hk; have hk3 := (hg13.block _ (Array.getElem?_eq_some_iff.1 HC1.out).1 (fun e => by have := hbase _ e.symm; have := HS2.out; omega)).trans HC1.out; have d0 := cell_blk hk3 0; have g0 := frozen_blk hk3 0; simp at d0)
        have hrow3 : ∀ k, (Value.slice A3 m3 c3).ownBlock = some k → w2.heap.size ≤ k := fun k hk => own_base hown3 k hk
        refine ⟨?_, ?_, ?_, .slice A3 m3 c3, blk_set hk3 0 _, ?_⟩
        · refine KeepsFrom.trans ((KeepsOthers.of_grownBy hg13 (fun j o e ho => ?_)).from _) ((KeepsOthers.setCell _ _ _).from _)
          obtain ⟨cs, hcs⟩ := own_typed HO1.out j e
          rw [hcs] at ho
          cases ho
          rfl
        · intro k hk
          have e1 := HS1.out
          have e2 := HS2.out
          have e3 := HL.out.size
          have hk2 : k < w2.heap.size ∧ k ≠ w.heap.size := by
            rcases hk with rfl | hk
            · omega
            · have : k < 6 + 1 := hk
              omega
          have hk4 : k < W1.heap.size := Nat.lt_of_lt_of_le hk2.1 HSZ.out
          exact (Below.heap_setCell _ _ _ k hk2.2).trans (hg13.block k hk4 (fun e => by have := own_base HO1.out k e.symm; omega))
        · exact Below.setCell (HB1'.out.grown hg13 HB1'.out.size (fun k e => by have := own_base HO1.out k e; have := HS2.out; omega)) (Nat.le_refl _) _
        · refine own_move (w := w3) (by simpa [encs] using hown3) (fun k hk => Below.heap_setCell _ _ _ k (fun e => ?_))
          have := hrow3 k hk
          have := HS2.out
          have e' : k = w.heap.size := e
          omega
      case hdone =>
        intro D W hD hi hd
        obtain ⟨hb, v, hc, ho⟩ := hi
        obtain ⟨A1, m1, c1, rfl, hm1⟩ := row_slice ho
        have c0 := cell_blk hc 0
        simp at c0
        have he := either_strs_nil A1 m1 c1 W am ae ad (HEE.out W hb)
        have HB5 := Lib.hid hb
        have HO5 := Lib.hid ho
        have HDD := Lib.hid hd
        clear hb ho hd hc
        go_wp2_with (go_at_call 34; refine he.mono ?_; rintro e w5 ⟨rfl, rfl⟩)
        show LeavesInM Fence.wide 11 Tryz.prog Tryz.f16 _ _ _ .returning _
        refine ⟨by simp, .inl ⟨_, _, rfl, run_takeDeferred HDD.out, ?_⟩⟩
        refine ⟨_, results_tmp2 rfl _ _ _, .slice A1 m1 c1, rfl, Kd.R_of_own ?_ (fun _ _ => trivial), ?_⟩
        · have ho2 := own_weaken HO5.out (show w.heap.size ≤ w2.heap.size by have := HS2.out; omega)
          refine own_move (w := w5) (by simpa using ho2) (fun k hk => World.putObj_heap_other (fun e => ?_))
          obtain ⟨cs, hcs⟩ := own_typed HO5.out k hk
          rw [e, HDD.out] at hcs
          cases hcs
        · exact HB5.out.trans ⟨rfl, rfl, rfl, by simp, fun k hk => World.putObj_heap_other (by have := HS2.out; omega)⟩
end Go.Proofs.YtbjbicaffblchaaGreatDoor.Hand
end
section
namespace Go.Proofs.YtbjbicaffblchaaGreatDoor.Hand
open Go.RowKit Go.Proofs.YtbjbicaffblchaaGreatDoorW Go.Proofs.YtbjbicaffblchaaGreatDoorW.PrintWords Go.Proofs.YtbjbicaffblchaaGreatDoor.SK
def halfOf (l : List (Int × ByteArray)) (a : Int) : ByteArray := l.foldl (fun h x => if x.1 = a then x.2 else h) ⟨#[]⟩
theorem halfOf_snoc (l : List (Int × ByteArray)) (x : Int × ByteArray) (a : Int) : halfOf (l ++ [x]) a = if x.1 = a then x.2 else halfOf l a := by simp [halfOf]
def eidNm (x : Int × ByteArray × ByteArray × Int × Int × Int) : Nm := ⟨x.1, x.2.1, x.2.2.1, x.2.2.2.1, x.2.2.2.2.1⟩
def nameT (s : ByteArray) (a b : Int) : Nm × Bool :=
  if s.toList = [] then (if a = 0 ∧ b = 0 then ⟨0, ⟨#[]⟩, ⟨#[]⟩, 0, 0⟩ else ⟨2, ⟨#[]⟩, ⟨#[]⟩, a, b⟩, true)
  else (eidNm (joinT (halfOf (items s.data.toList) a) (halfOf (items s.data.toList) b)), (joinT (halfOf (items s.data.toList) a) (halfOf (items s.data.toList) b)).2.2.2.2.2 == 0)
def nameE (ok : Bool) (ad : Addr) : Value := if ok then .nilIface else errV ad
def Nm.cells (x : Nm) : Array Value := #[.int .i64 x.f0, .string x.f1, .string x.f2, .int .i64 x.f3, .int .i64 x.f4]
def zeroNm : Nm := ⟨0, ⟨#[]⟩, ⟨#[]⟩, 0, 0⟩
theorem setNm {W : World} {g : Nat} {t : TypeId} {y x : Nm} (h : W.heap[g]? = some (.cells (Nm.cells y) t)) :
    (((((W.setCell ⟨g, 0, none⟩ (.int .i64 x.f0)).setCell ⟨g, 1, none⟩ (.string x.f1)).setCell ⟨g, 2, none⟩ (.string x.f2)).setCell ⟨g, 3, none⟩ (.int .i64 x.f3)).setCell ⟨g, 4, none⟩ (.int .i64 x.f4)).heap[g]? = some (.cells (Nm.cells x) t) :=
  blk_set (blk_set (blk_set (blk_set (blk_set h 0 _) 1 _) 2 _) 3 _) 4 _
theorem name_results {W : World} {g : Nat} {x : Nm} {ev : Value} {tmps : Array Value} (h6 : tmps[6]? = some (.pointer (some ⟨g, 0, none⟩))) (h7 : tmps[7]? = some ev) (hg : W.heap[g]? = some (.cells (Nm.cells x) 41)) :
    (results Tryz.f30 tmps).run Tryz.prog W = .ok (.tuple #[x.v, ev]) W := by
  have hu := Tryz.underlying41
  have c0 := cell_blk hg 0
  have c1 := cell_blk hg 1
  have c2 := cell_blk hg 2
  have c3 := cell_blk hg 3
  have c4 := cell_blk hg 4
  simp [Nm.cells] at c0 c1 c2 c3 c4
  simp [results, Tryz.f30, go_sem, Array.getD_eq_getD_getElem?, h6, h7, c0, c1, c2, c3, c4]
theorem alloc3 (w : World) (o0 o1 o2 : Obj) : (((w.alloc o0).alloc o1).alloc o2).heap[w.heap.size + 1 + 1]? = some o2 := by
  have h2 := World.alloc_heap_new ((w.alloc o0).alloc o1) o2
  simpa only [World.size_alloc] using h2
set_option maxHeartbeats 4000000 in
set_option maxRecDepth 100000 in
theorem name_empty (s : ByteArray) (a b : Int) (w : World) (ad : Addr) (hs : s.toList = []) :
    Calls Tryz.prog 30 #[.string s, .int .i64 a, .int .i64 b] w fun e w' => e = .returned (.tuple #[(nameT s a b).1.v, nameE (nameT s a b).2 ad]) ∧ Below w.heap.size w w' := by
  have hu := Tryz.underlying41
  unfold nameT
  rw [if_pos hs]
  by_cases h : a = 0 ∧ b = 0
  · rw [if_pos h]
    obtain ⟨rfl, rfl⟩ := h
    go_enter Tryz.func30, Tryz.ntmps30
    go_wp2_with (fail)
    exact bodyPost_ret (name_results (x := zeroNm) rfl rfl (alloc3 _ _ _ _)) rfl ⟨rfl, b_alloc (b_alloc (b_alloc (Below.refl _ _) _) _) _⟩
  · rw [if_neg h]
    by_cases ha : a = 0
    · have hb : ¬ b = 0 := fun e => h ⟨ha, e⟩
      subst ha
      clear h
      go_enter Tryz.func30, Tryz.ntmps30
      go_wp2_with (fail)
      exact bodyPost_ret (name_results (x := ⟨2, ⟨#[]⟩, ⟨#[]⟩, 0, b⟩) rfl rfl (alloc3 _ _ _ _)) rfl ⟨rfl, b_alloc (b_alloc (b_alloc (Below.refl _ _) _) _) _⟩
    · clear h
      go_enter Tryz.func30, Tryz.ntmps30
      go_wp2_with (fail)
      exact bodyPost_ret (name_results (x := ⟨2, ⟨#[]⟩, ⟨#[]⟩, a, b⟩) rfl rfl (alloc3 _ _ _ _)) rfl ⟨rfl, b_alloc (b_alloc (b_alloc (Below.refl _ _) _) _) _⟩
def nmI (a b : Int) (w : World) (pre : List (Int × ByteArray)) (W : World) : Prop :=
  Below w.heap.size w W ∧ W.heap[w.heap.size]? = some (.cells #[.int .i64 a] tInt) ∧ W.heap[w.heap.size + 1]? = some (.cells #[.int .i64 b] tInt) ∧
    W.heap[w.heap.size + 1 + 1]? = some (.cells (Nm.cells zeroNm) 41) ∧ W.heap[w.heap.size + 1 + 1 + 1]? = some (.cells #[.string (halfOf pre a), .string (halfOf pre b)] 85)
theorem nmI_keep {a b : Int} {w A B : World} {pre : List (Int × ByteArray)} {B1 : Nat} (h : nmI a b w pre A) (hk : KeptX (fun _ => False) B1 A B) (h0 : w.heap.size ≤ B1) : nmI a b w pre B := by
  obtain ⟨hb, h1, h2, h3, h4⟩ := h
  exact ⟨hk.below hb h0 (Nat.le_refl _) (fun _ _ => id), hk.blk h1 id, hk.blk h2 id, hk.blk h3 id, hk.blk h4 id⟩
theorem name_end (w W : World) (D : Nat) (x : Nm) (ev : Value) (a : Act) (hd : a.defers = [{ target := .collected D, args := #[] }]) (h6 : a.tmps[6]? = some (.pointer (some ⟨w.heap.size + 1 + 1, 0, none⟩))) (h7 : a.tmps[7]? = some ev)
    (h2 : W.heap[w.heap.size + 1 + 1]? = some (.cells (Nm.cells x) 41)) (hD : W.heap[D]? = some (.deferred (some []))) (hDn : w.heap.size + 3 < D) (hb : Below w.heap.size w W) (v : Value) (hv : v = .tuple #[x.v, ev]) :
    bodyPostM Fence.wide 11 Tryz.prog Tryz.f30 (fun e w' => e = .returned v ∧ Below w.heap.size w w') .ret a W := by
  subst hv
  show LeavesInM Fence.wide 11 Tryz.prog Tryz.f30 a.tmps _ a.defers .returning W
  rw [hd]
  have hb' : Below w.heap.size w (W.putObj D (.deferred none)) := hb.trans ⟨rfl, rfl, rfl, by simp, fun k hk => World.putObj_heap_other (by omega)⟩
  have g2 : (W.putObj D (.deferred none)).heap[w.heap.size + 1 + 1]? = some (.cells (Nm.cells x) 41) := (World.putObj_heap_other (by omega)).trans h2
  exact ⟨by simp, .inl ⟨_, _, rfl, run_takeDeferred hD, _, name_results h6 h7 g2, rfl, hb'⟩⟩
theorem itemsF_size : ∀ (k a : Nat) (r : List UInt8), ∀ x ∈ itemsF k a r, x.2.size ≤ r.length := by
  intro k
  induction k with
  | zero => intro a r x hx; simp [itemsF] at hx
  | succ k ih =>
    intro a r x hx
    rw [itemsF] at hx
    split at hx
    · cases hx
    · rcases List.mem_cons.1 hx with rfl | hx
      · rw [txt_size]; exact cutp_len r
      · have := ih _ _ x hx
        rw [List.length_drop] at this
        omega
theorem halfOf_size (l : List (Int × ByteArray)) (a : Int) (n : Nat) (h : ∀ x ∈ l, x.2.size ≤ n) : (halfOf l a).size ≤ n := by
  have key : ∀ (l : List (Int × ByteArray)) (b : ByteArray), b.size ≤ n → (∀ x ∈ l, x.2.size ≤ n) → (l.foldl (fun h x => if x.1 = a then x.2 else h) b).size ≤ n := by
    intro l
    induction l with
    | nil => intro b hb _; exact hb
    | cons x r ih =>
      intro b hb hx
      refine ih _ ?_ (fun y hy => hx y (List.mem_cons_of_mem _ hy))
      show (if x.1 = a then x.2 else b).size ≤ n
      split
      · exact hx x List.mem_cons_self
      · exact hb
  exact key l ⟨#[]⟩ (Nat.zero_le _) h
attribute [local go_sem] Oper.semAt_some
set_option maxRecDepth 100000 in
set_option maxHeartbeats 4000000 in
theorem name_full (s : ByteArray) (a b : Int) (w : World) (am ae ad : Addr) (hE : LaidAt w am ae ad) (hLd : Laid w) (hne : ¬ s.toList = []) (hs : s.size < 4294967281) :
    Calls Tryz.prog 30 #[.string s, .int .i64 a, .int .i64 b] w fun e w' => e = .returned (.tuple #[(nameT s a b).1.v, nameE (nameT s a b).2 ad]) ∧ Below w.heap.size w w' := by
  have hu := Tryz.underlying41
  have hu2 := Tryz.underlying85
  have HE := Lib.hid hE
  have HL := Lib.hid hLd
  clear hE hLd
  unfold nameT
  rw [if_neg hne]
  have hemp : s.toList.isEmpty = false := by simpa using hne
  refine (callsIn_wide (n := 11)).1 (callsIn_of_wp_marks Tryz.func30 rfl trivial (wpIn_wide.2 ?_) rfl)
  simp only [Tryz.ntmps30, List.size_toArray, List.length_cons, List.length_nil, Nat.reduceAdd, Nat.reduceSub, Array.replicate_succ, Array.replicate_zero, List.push_toArray, List.append_toArray, List.nil_append, List.cons_append]
  go_wp2_with (fail)
  obtain ⟨w1, hw1⟩ : ∃ w1, w1 = (((w.alloc (.cells #[.int .i64 a] tInt)).alloc (.cells #[.int .i64 b] tInt)).alloc (.cells #[.int .i64 0, .string ⟨#[]⟩, .string ⟨#[]⟩, .int .i64 0, .int .i64 0] 41)).alloc (.cells #[.string ⟨#[]⟩, .string ⟨#[]⟩] 85) := ⟨_, rfl⟩
  have hb1 : Below w.heap.size w w1 := by rw [hw1]; exact b_alloc (b_alloc (b_alloc (b_alloc (Below.refl _ _) _) _) _) _
  obtain ⟨hs1, hz0, hz1, hz2, hz3⟩ := alloc4 w (.cells #[.int .i64 a] tInt) (.cells #[.int .i64 b] tInt) (.cells #[.int .i64 0, .string ⟨#[]⟩, .string ⟨#[]⟩, .int .i64 0, .int .i64 0] 41) (.cells #[.string ⟨#[]⟩, .string ⟨#[]⟩] 85)
  rw [← hw1] at hs1 hz0 hz1 hz2 hz3
  rw [← hw1]
  clear hw1
  refine (texts_make s w1).mono ?_
  rintro e w2' ⟨rfl, hw2⟩
  have hb2 : Below w1.heap.size w1 w2' := by rw [← hw2]; exact b_alloc (Below.refl _ _) _
  have hy0 : w2'.heap[w1.heap.size]? = some (.cells #[.string s] tStr) := by rw [← hw2]; exact World.alloc_heap_new _ _
  have hs2 : w2'.heap.size = w.heap.size + 5 := by rw [← hw2, World.size_alloc, hs1]
  clear hw2
  obtain ⟨w2, rfl⟩ : ∃ w2, w2 = w2' := ⟨_, rfl⟩
  have keep : ∀ (k : Nat) (o : Obj), w1.heap[k]? = some o → w2.heap[k]? = some o := fun k o h => (hb2.block _ (Array.getElem?_eq_some_iff.1 h).1).trans h
  have HI0 : Hid (nmI a b w [] w2) := Lib.hid ⟨hb1.trans (hb2.mono hb1.size), keep _ _ hz0, keep _ _ hz1, keep _ _ hz2, keep _ _ hz3⟩
  have HL2 := Lib.hid (HL.out.below (hb1.trans (hb2.mono hb1.size)))
  have HS1 := Lib.hid hs1
  have HS2 := Lib.hid hs2
  have HY0 := Lib.hid hy0
  clear hz0 hz1 hz2 hz3 hs1 hs2 hy0 hb1 hb2 keep
  go_wp2_with (fail)
  refine rangeFuncW (gf := 48) (lb := #[.pointer (some ⟨w1.heap.size, 0, none⟩)]) rfl (Go.Proofs.enters_of Tryz.func48 (by kernel_rfl) rfl)
    (texts_iter s w1.heap.size w2 HL2.out hs HY0.out) (fun _ h => h.elim) ?hR (Below.refl _ _) (fun _ => rfl)
    (nmI a b w) (fun _ _ _ => False) ?hI ?hIx ?h0 ?hround ?hdone ?hstop
  case hR =>
    have e1 := HS1.out
    have e2 := HS2.out
    have e3 := HL.out.size
    rintro k (rfl | h)
    · omega
    · have : k < 6 + 1 := h
      omega
  case hI => exact fun s A B hs hk => nmI_keep hs hk (by have := HS2.out; omega)
  case hIx => exact fun c s A B hs _ => hs.elim
  case h0 => exact HI0.out
  case hstop => exact fun _ _ _ _ _ _ h _ => h.elim
  case hround =>
    intro l pre x W K hlw hloop hi hpre hK
    have HK := Lib.hid hK
    have HI := Lib.hid hi
    clear hK hi hpre
    gi_wp2
    refine HK.out _ _ ((KeepsOthers.refl _).from _) (fun _ _ => rfl) ?_
    intro W1 hkx hl1 hsz1
    obtain ⟨hb1, hz0, hz1, hz2, hz3⟩ := nmI_keep HI.out hkx (by have := HS2.out; omega)
    have c0 := cell_blk hz0 0
    have c1 := cell_blk hz1 0
    have c3 := cell_blk hz3 0
    have c4 := cell_blk hz3 1
    have f3 := frozen_blk hz3 0
    have f4 := frozen_blk hz3 1
    simp at c0 c1 c3 c4
    have HB := Lib.hid hb1
    have HZ0 := Lib.hid hz0
    have HZ1 := Lib.hid hz1
    have HZ2 := Lib.hid hz2
    have HZ3 := Lib.hid hz3
    have HH := Lib.hid (fun c => halfOf_snoc pre x c)
    clear hb1 hz0 hz1 hz2 hz3 hkx hl1 hsz1
    have fin : ∀ W', (W' = W1 ∨ W' = W1.setCell ⟨w.heap.size + 1 + 1 + 1, 0, none⟩ (.string x.2) ∨ W' = W1.setCell ⟨w.heap.size + 1 + 1 + 1, 1, none⟩ (.string x.2) ∨ W' = (W1.setCell ⟨w.heap.size + 1 + 1 + 1, 0, none⟩ (.string x.2)).setCell ⟨w.heap.size + 1 + 1 + 1, 1, none⟩ (.string x.2)) →
        W'.heap[w.heap.size + 1 + 1 + 1]? = some (.cells #[.string (halfOf (pre ++ [x]) a), .string (halfOf (pre ++ [x]) b)] 85) →
        KeepsFrom w2.heap.size W1 W' ∧ SameX (fun k => k = w1.heap.size ∨ k < NG) W1 W' ∧ nmI a b w (pre ++ [x]) W' := by
      intro W' hW' h3
      have e1 := HS1.out
      have e2 := HS2.out
      have e3 := HL.out.size
      have far : ∀ k, k ≠ w.heap.size + 1 + 1 + 1 → W'.heap[k]? = W1.heap[k]? := fun k hk => by
        rcases hW' with rfl | rfl | rfl | rfl
        · rfl
        · exact Below.heap_setCell _ _ _ k hk
        · exact Below.heap_setCell _ _ _ k hk
        · exact (Below.heap_setCell _ _ _ k hk).trans (Below.heap_setCell _ _ _ k hk)
      refine ⟨?_, fun k hk => far k ?_, ?_, (far _ (by omega)).trans HZ0.out, (far _ (by omega)).trans HZ1.out, (far _ (by omega)).trans HZ2.out, h3⟩
      · rcases hW' with rfl | rfl | rfl | rfl
        · exact (KeepsOthers.refl _).from _
        · exact (KeepsOthers.setCell _ _ _).from _
        · exact (KeepsOthers.setCell _ _ _).from _
        · exact ((KeepsOthers.setCell _ _ _).trans (KeepsOthers.setCell _ _ _)).from _
      · rcases hk with rfl | hk
        · omega
        · have : k < 6 + 1 := hk
          omega
      · rcases hW' with rfl | rfl | rfl | rfl
        · exact HB.out
        · exact HB.out.setCell (p := ⟨w.heap.size + 1 + 1 + 1, 0, none⟩) (by show w.heap.size ≤ w.heap.size + 1 + 1 + 1; omega) _
        · exact HB.out.setCell (p := ⟨w.heap.size + 1 + 1 + 1, 1, none⟩) (by show w.heap.size ≤ w.heap.size + 1 + 1 + 1; omega) _
        · exact (HB.out.setCell (p := ⟨w.heap.size + 1 + 1 + 1, 0, none⟩) (by show w.heap.size ≤ w.heap.size + 1 + 1 + 1; omega) _).setCell (p := ⟨w.heap.size + 1 + 1 + 1, 1, none⟩) (by show w.heap.size ≤ w.heap.size + 1 + 1 + 1; omega) _
    have FIN := Lib.hid fin
    clear fin
    obtain ⟨x1, x2⟩ := x
    by_cases ha : x1 = a
    · subst ha
      by_cases hb : x1 = b
      · subst hb
        gi_wp2
        exact FIN.out _ (.inr (.inr (.inr rfl))) (by rw [HH.out, if_pos rfl]; exact blk_set (blk_set HZ3.out 0 _) 1 _)
      · gi_wp2
        exact FIN.out _ (.inr (.inl rfl)) (by rw [HH.out, HH.out, if_pos rfl, if_neg hb]; exact blk_set HZ3.out 0 _)
    · by_cases hb : x1 = b
      · subst hb
        gi_wp2
        exact FIN.out _ (.inr (.inr (.inl rfl))) (by rw [HH.out, HH.out, if_neg ha, if_pos rfl]; exact blk_set HZ3.out 1 _)
      · gi_wp2
        exact FIN.out _ (.inl rfl) (by rw [HH.out, HH.out, if_neg ha, if_neg hb]; exact HZ3.out)
  case hdone =>
    intro D W hD hi hd
    obtain ⟨hb, hz0, hz1, hz2, hz3⟩ := hi
    have c3 := cell_blk hz3 0
    have c4 := cell_blk hz3 1
    simp at c3 c4
    have hsz : ∀ c, (halfOf (items s.data.toList) c).size < 4294967281 := fun c => by
      have := halfOf_size (items s.data.toList) c s.data.toList.length (fun x hx => itemsF_size _ _ _ x hx)
      have h3 : s.data.toList.length = s.size := Array.length_toList ..
      omega
    have hsb := hsz b
    obtain ⟨h1, hh1⟩ : ∃ h1, halfOf (items s.data.toList) a = h1 := ⟨_, rfl⟩
    obtain ⟨h2, hh2⟩ : ∃ h2, halfOf (items s.data.toList) b = h2 := ⟨_, rfl⟩
    rw [hh1] at c3
    rw [hh2] at c4 hsb
    obtain ⟨q1, q2, q3, q4, q5, q6, hj⟩ : ∃ q1 q2 q3 q4 q5 q6, joinT h1 h2 = (q1, q2, q3, q4, q5, q6) := ⟨_, _, _, _, _, _, rfl⟩
    have hJ := eid_Join.calls h1 h2 q1 q2 q3 q4 q5 q6 W (HL.out.below hb) (by unfold eid_Join.f; rw [if_pos hsb, hj])
    have hDn : w.heap.size + 3 < D := by have := HS2.out; omega
    have HJ := Lib.hid (show joinT (halfOf (items s.data.toList) a) (halfOf (items s.data.toList) b) = (q1, q2, q3, q4, q5, q6) by rw [hh1, hh2]; exact hj)
    clear hh1 hh2
    have HB := Lib.hid hb
    have HZ2 := Lib.hid hz2
    have HD := Lib.hid hd
    clear hsz hsb hj hb hz0 hz1 hz2 hz3 hd hD HI0 HL2 HS1 HY0
    go_wp2_with (fail)
    refine hJ.mono ?_
    rintro e w5 ⟨rfl, hb5⟩
    obtain ⟨gd, _⟩ := (HE.out.below HB.out).dict
    have gd5 := cell_keep hb5 gd
    have k2 := (hb5.block _ (Array.getElem?_eq_some_iff.1 HZ2.out).1).trans HZ2.out
    have hD5 := (hb5.block _ (Array.getElem?_eq_some_iff.1 HD.out).1).trans HD.out
    have hn5 : w.heap.size + 2 < w5.heap.size := (Array.getElem?_eq_some_iff.1 k2).1
    have hb6 : Below w.heap.size w (w5.alloc (.cells #[.int .i64 q1, .string q2, .string q3, .int .i64 q4, .int .i64 q5] 41)) := (HB.out.trans (hb5.mono HB.out.size)).alloc (by omega) _
    have k2a := blk_alloc k2 (.cells #[.int .i64 q1, .string q2, .string q3, .int .i64 q4, .int .i64 q5] 41)
    have c0 : (w5.alloc (.cells #[.int .i64 q1, .string q2, .string q3, .int .i64 q4, .int .i64 q5] 41)).cell? ⟨w.heap.size + 1 + 1, 0, none⟩ = some (.int .i64 0) := cell_blk k2a 0
    have c1 : (w5.alloc (.cells #[.int .i64 q1, .string q2, .string q3, .int .i64 q4, .int .i64 q5] 41)).cell? ⟨w.heap.size + 1 + 1, 1, none⟩ = some (.string ⟨#[]⟩) := cell_blk k2a 1
    have c2 : (w5.alloc (.cells #[.int .i64 q1, .string q2, .string q3, .int .i64 q4, .int .i64 q5] 41)).cell? ⟨w.heap.size + 1 + 1, 2, none⟩ = some (.string ⟨#[]⟩) := cell_blk k2a 2
    have c3 : (w5.alloc (.cells #[.int .i64 q1, .string q2, .string q3, .int .i64 q4, .int .i64 q5] 41)).cell? ⟨w.heap.size + 1 + 1, 3, none⟩ = some (.int .i64 0) := cell_blk k2a 3
    have c4 : (w5.alloc (.cells #[.int .i64 q1, .string q2, .string q3, .int .i64 q4, .int .i64 q5] 41)).cell? ⟨w.heap.size + 1 + 1, 4, none⟩ = some (.int .i64 0) := cell_blk k2a 4
    have f0 : ∀ j, (w5.alloc (.cells #[.int .i64 q1, .string q2, .string q3, .int .i64 q4, .int .i64 q5] 41)).frozen? ⟨w.heap.size + 1 + 1, j, none⟩ = false := fun j => frozen_blk k2a j
    have K2 := Lib.hid k2a
    have HD5 : Hid ((w5.alloc (.cells #[.int .i64 q1, .string q2, .string q3, .int .i64 q4, .int .i64 q5] 41)).heap[D]? = some (.deferred (some []))) := Lib.hid ((Below.heap_alloc _ _ _ (Array.getElem?_eq_some_iff.1 hD5).1).trans hD5)
    have HB6 := Lib.hid hb6
    have gd6 := cell_keep (b_alloc (Below.refl _ w5) (.cells #[.int .i64 q1, .string q2, .string q3, .int .i64 q4, .int .i64 q5] 41)) gd5
    have hne2 : ¬ w5.heap.size = w.heap.size + 1 + 1 := by omega
    clear hJ hb5 gd k2 k2a hD5 hn5 hb6
    have fin : ∀ (W : World), W = (w5.alloc (.cells #[.int .i64 q1, .string q2, .string q3, .int .i64 q4, .int .i64 q5] 41)) ∨ W = (w5.alloc (.cells #[.int .i64 q1, .string q2, .string q3, .int .i64 q4, .int .i64 q5] 41)).drew →
        ∀ (a' : Act) (ev : Value), ev = nameE (q6 == 0) ad → a'.defers = [{ target := .collected D, args := #[] }] → a'.tmps[6]? = some (.pointer (some ⟨w.heap.size + 1 + 1, 0, none⟩)) → a'.tmps[7]? = some ev →
        bodyPostM Fence.wide 11 Tryz.prog Tryz.f30 (fun e w' => e = .returned (.tuple #[(eidNm (joinT (halfOf (items s.data.toList) a) (halfOf (items s.data.toList) b))).v, nameE ((joinT (halfOf (items s.data.toList) a) (halfOf (items s.data.toList) b)).2.2.2.2.2 == 0) ad]) ∧ Below w.heap.size w w') .ret a'
          (((((W.setCell ⟨w.heap.size + 1 + 1, 0, none⟩ (.int .i64 q1)).setCell ⟨w.heap.size + 1 + 1, 1, none⟩ (.string q2)).setCell ⟨w.heap.size + 1 + 1, 2, none⟩ (.string q3)).setCell ⟨w.heap.size + 1 + 1, 3, none⟩ (.int .i64 q4)).setCell ⟨w.heap.size + 1 + 1, 4, none⟩ (.int .i64 q5)) := by
      intro W hW a' ev hev hd h6 h7
      have g1 : W.heap = (w5.alloc (.cells #[.int .i64 q1, .string q2, .string q3, .int .i64 q4, .int .i64 q5] 41)).heap := by rcases hW with rfl | rfl <;> rfl
      have g2 : Below w.heap.size w W := by
        rcases hW with rfl | rfl
        · exact HB6.out
        · exact HB6.out.trans ((below_drewN _ 1).mono HB6.out.size)
      have hDD : W.heap[D]? = some (.deferred (some [])) := by rw [g1]; exact HD5.out
      refine name_end w _ D ⟨q1, q2, q3, q4, q5⟩ ev a' hd h6 h7 (setNm (x := ⟨q1, q2, q3, q4, q5⟩) (y := zeroNm) (by rw [g1]; exact K2.out)) ?_ hDn ?_ _ ?_
      · iterate 5 refine (Below.heap_setCell _ _ _ _ (by show D ≠ w.heap.size + 1 + 1; omega)).trans ?_
        exact hDD
      · iterate 5 refine Below.setCell ?_ (by show w.heap.size ≤ w.heap.size + 1 + 1; omega) _
        exact g2
      · rw [HJ.out, hev]
        rfl
    have FIN := Lib.hid fin
    clear fin
    by_cases hq : q6 = 0
    · go_wp2_with (fail)
      refine FIN.out _ (.inl rfl) _ .nilIface ?_ ?_ ?_ ?_
      · rw [hq]; rfl
      all_goals rfl
    · go_wp2_with (fail)
      go_region
      all_goals (try go_wp2)
      all_goals refine FIN.out _ (.inr rfl) _ (errV ad) ?_ ?_ ?_ ?_
      all_goals first | rfl | (rw [beq_eq_false_iff_ne.2 hq]; rfl)
end Go.Proofs.YtbjbicaffblchaaGreatDoor.Hand
end
section
namespace Go.Proofs.YtbjbicaffblchaaGreatDoor.SK
open Go.Proofs.YtbjbicaffblchaaGreatDoor.Hand
open Go.Proofs.YtbjbicaffblchaaGreatDoor.SA
open Go.RowKit Go.Proofs.YtbjbicaffblchaaGreatDoorW.PrintWords Go.Proofs.YtbjbicaffblchaaGreatDoorW.PrintLast Go.Proofs.YtbjbicaffblchaaGreatDoorW.PrintMore
attribute [local go_sem] max2_int min2_int max_two min_two max_three min_three max_four min_four
set_option linter.unusedVariables false
set_option linter.unusedSimpArgs false
def slices_Equal_int_int.l0 : Nat → List Int → List Int → Int → Int → Option (Bool)
  | 0, _, _, _, _ => none
  | k + 1, x0, x1, x12, x13 => if x13 < x12 then (if 0 ≤ x13 then (if x13 < (x0.length : Int) then (if x13 < (x1.length : Int) then (if (rd x0 x13) = (rd x1 x13) then (slices_Equal_int_int.l0 k x0 x1 x12 (wrap64 (x13 + 1))) else (some false)) else (none)) else (none)) else (none)) else (some true)
def slices_Equal_int_int.f (k : Nat) (l0 : List Int) (l1 : List Int) : Option (Bool) := if (l0.length : Int) = (l1.length : Int) then (slices_Equal_int_int.l0 k l0 l1 (l0.length : Int) 0) else (some false)
theorem slices_Equal_int_int.mono_l : ∀ k, (∀ y0 y1 y2 y3, LeO (slices_Equal_int_int.l0 k y0 y1 y2 y3) (slices_Equal_int_int.l0 (k + 1) y0 y1 y2 y3))
  | 0 => fun _ _ _ _ r h => by simp [slices_Equal_int_int.l0] at h
  | k + 1 => by
    have ih0 := slices_Equal_int_int.mono_l k
    · intro y0 y1 y2 y3
      unfold slices_Equal_int_int.l0
      repeat' first
      | (with_reducible exact ih0 _ _ _ _)
      | (with_reducible exact LeO.refl _)
      | (with_reducible exact LeO.none _)
      | (with_reducible refine LeO.ite ?_ ?_)
      | (with_reducible refine LeO.bind ?_ (fun _ => ?_))
      | exact ih0 _ _ _ _
      | exact LeO.none _
      | refine LeO.ite ?_ ?_
      | refine LeO.bind ?_ (fun _ => ?_)
theorem slices_Equal_int_int.mono : ∀ a0 a1 k, LeO (slices_Equal_int_int.f k a0 a1) (slices_Equal_int_int.f (k + 1) a0 a1) := by
  intro a0 a1 k
  have ih0 := slices_Equal_int_int.mono_l k
  unfold slices_Equal_int_int.f
  repeat' first
      | (with_reducible exact ih0 _ _ _ _)
      | (with_reducible exact LeO.refl _)
      | (with_reducible exact LeO.none _)
      | (with_reducible refine LeO.ite ?_ ?_)
      | (with_reducible refine LeO.bind ?_ (fun _ => ?_))
      | exact ih0 _ _ _ _
      | exact LeO.none _
      | refine LeO.ite ?_ ?_
      | refine LeO.bind ?_ (fun _ => ?_)
set_option maxHeartbeats 8000000 in
set_option maxRecDepth 100000 in
theorem slices_Equal_int_int.calls (k : Nat) (A0 : Option Addr) (c0 : Nat) (l0 : List Int) (A1 : Option Addr) (c1 : Nat) (l1 : List Int) (r : Bool) (w : World) (hr0 : Kd.C (Kd.int .i64) w A0 l0.length l0) (hc0 : l0.length ≤ c0) (hr1 : Kd.C (Kd.int .i64) w A1 l1.length l1) (hc1 : l1.length ≤ c1) (h : slices_Equal_int_int.f k l0 l1 = some r) :
    Calls Tryz.prog 31 #[.slice A0 l0.length c0, .slice A1 l1.length c1] w fun e w' => e = .returned (.bool r) ∧ Drawn0 w w' := by
  have HR0 := Aside0.mk hr0
  have HC0 := Aside0.mk hc0
  clear hr0 hc0
  have HR1 := Aside0.mk hr1
  have HC1 := Aside0.mk hc1
  clear hr1 hc1
  have H : (if (l0.length : Int) = (l1.length : Int) then (slices_Equal_int_int.l0 k l0 l1 (l0.length : Int) 0) else (some false)) = some r := h
  clear h
  by_cases c3 : (l0.length : Int) = (l1.length : Int)
  · rw [if_pos c3] at H
    have c3b0 : ((l0.length : Int) == (l1.length : Int)) = true := beq_iff_eq.mpr c3
    have c3b1 : ((l0.length : Int) != (l1.length : Int)) = false := bne_eq_false_iff_eq.mpr c3
    have c3b2 : (l0.length == l1.length) = true := by first | simpa using c3 | (simp at c3 ⊢; omega)
    clear c3
    have H' := Aside0.mk H
    clear H
    go_enter Tryz.func31, Tryz.ntmps31
    go_wp2
    repeat (go_quiet (fail); try go_wp2)
    go_loopg [13] k (fun kq v13 w' => ∃ (x13_1 : Int), v13 = .int .i64 x13_1 ∧ Aside0 (slices_Equal_int_int.l0 kq l0 l1 (l0.length : Int) x13_1 = some r) ∧ Aside0 (kq ≤ k) ∧ Drawn0 w w')
    case atStart => exact ⟨(0), (by first | rfl | (simp; done) | (simp [*]; done)), H', ⟨Nat.le_refl _⟩, by repeat (first | exact Drawn0.refl _ | apply Drawn0.step)⟩
    case round =>
      clear H'
      try clear c1
      try clear p2
      try clear c3
      try clear c3b0
      try clear c3b1
      try clear c3b2
      obtain ⟨x13_1, rfl, HA, HK1, ⟨m1, rfl⟩⟩ := hrel
      cases gk with
      | zero => exact absurd HA.out (by simp [slices_Equal_int_int.l0])
      | succ k1 =>
        have H := HA.out
        clear HA
        simp only [slices_Equal_int_int.l0] at H
        by_cases c4 : x13_1 < (l0.length : Int)
        · rw [if_pos c4] at H
          have c4b0 : decide (x13_1 < (l0.length : Int)) = true := decide_eq_true c4
          clear c4
          by_cases c5 : 0 ≤ x13_1
          · rw [if_pos c5] at H
            have c5b0 : decide (0 ≤ x13_1) = true := decide_eq_true c5
            clear c5
            by_cases c6 : x13_1 < (l0.length : Int)
            · rw [if_pos c6] at H
              have c6b0 : decide (x13_1 < (l0.length : Int)) = true := decide_eq_true c6
              clear c6
              by_cases c7 : x13_1 < (l1.length : Int)
              · rw [if_pos c7] at H
                have c7b0 : decide (x13_1 < (l1.length : Int)) = true := decide_eq_true c7
                clear c7
                by_cases c8 : (rd l0 x13_1) = (rd l1 x13_1)
                · rw [if_pos c8] at H
                  have c8b0 : ((rd l0 x13_1) == (rd l1 x13_1)) = true := beq_iff_eq.mpr c8
                  have c8b1 : ((rd l0 x13_1) != (rd l1 x13_1)) = false := bne_eq_false_iff_eq.mpr c8
                  clear c8
                  have H' := Aside0.mk H
                  clear H
                  have p101 : 0 ≤ (x13_1 : Int) := of_decide_eq_true (by first | (with_reducible assumption) | assumption)
                  have q101 : x13_1 < (l0.length : Int) := of_decide_eq_true (by first | (with_reducible assumption) | assumption)
                  obtain ⟨ad101, e101, hx101_0⟩ := Kd.at_int HR0.out x13_1 p101 q101
                  cases e101
                  replace p101 := eq_true p101
                  replace q101 := eq_true q101
                  have p102 : 0 ≤ (x13_1 : Int) := of_decide_eq_true (by first | (with_reducible assumption) | assumption)
                  have q102 : x13_1 < (l1.length : Int) := of_decide_eq_true (by first | (with_reducible assumption) | assumption)
                  obtain ⟨ad102, e102, hx102_0⟩ := Kd.at_int HR1.out x13_1 p102 q102
                  cases e102
                  replace p102 := eq_true p102
                  replace q102 := eq_true q102
                  go_wp2
                  repeat (go_quiet (fail); try go_wp2)
                  go_roundg k1
                  case measure => have := HK1.out; omega
                  case rel => exact ⟨(wrap64 (x13_1 + 1)), (by first | rfl | (simp; done) | (simp [*]; done)), H', ⟨by have := HK1.out; omega⟩, by repeat (first | exact Drawn0.refl _ | apply Drawn0.step)⟩
                · rw [if_neg c8] at H
                  have c8b0 : ((rd l0 x13_1) == (rd l1 x13_1)) = false := beq_eq_false_iff_ne.mpr c8
                  have c8b1 : ((rd l0 x13_1) != (rd l1 x13_1)) = true := bne_iff_ne.mpr c8
                  obtain rfl := Option.some.inj H
                  have p101 : 0 ≤ (x13_1 : Int) := of_decide_eq_true (by first | (with_reducible assumption) | assumption)
                  have q101 : x13_1 < (l0.length : Int) := of_decide_eq_true (by first | (with_reducible assumption) | assumption)
                  obtain ⟨ad101, e101, hx101_0⟩ := Kd.at_int HR0.out x13_1 p101 q101
                  cases e101
                  replace p101 := eq_true p101
                  replace q101 := eq_true q101
                  have p102 : 0 ≤ (x13_1 : Int) := of_decide_eq_true (by first | (with_reducible assumption) | assumption)
                  have q102 : x13_1 < (l1.length : Int) := of_decide_eq_true (by first | (with_reducible assumption) | assumption)
                  obtain ⟨ad102, e102, hx102_0⟩ := Kd.at_int HR1.out x13_1 p102 q102
                  cases e102
                  replace p102 := eq_true p102
                  replace q102 := eq_true q102
                  go_wp2
                  repeat (go_quiet (fail); try go_wp2)
                  all_goals (first | (go_ret; exact ⟨by first | rfl | (simp; done) | (simp [*]; done) | (simp_all; done), by repeat (first | exact Drawn0.refl _ | apply Drawn0.step)⟩) | (exfalso; simp_all; done))
              · rw [if_neg c7] at H
                exact absurd H (by simp)
            · rw [if_neg c6] at H
              exact absurd H (by simp)
          · rw [if_neg c5] at H
            exact absurd H (by simp)
        · rw [if_neg c4] at H
          have c4b0 : decide (x13_1 < (l0.length : Int)) = false := decide_eq_false c4
          clear c4
          obtain rfl := Option.some.inj H
          go_wp2
          repeat (go_quiet (fail); try go_wp2)
          all_goals (first | (go_ret; exact ⟨by first | rfl | (simp; done) | (simp [*]; done) | (simp_all; done), by repeat (first | exact Drawn0.refl _ | apply Drawn0.step)⟩) | (exfalso; simp_all; done))
  · rw [if_neg c3] at H
    have c3b0 : ((l0.length : Int) == (l1.length : Int)) = false := beq_eq_false_iff_ne.mpr c3
    have c3b1 : ((l0.length : Int) != (l1.length : Int)) = true := bne_iff_ne.mpr c3
    have c3b2 : (l0.length == l1.length) = false := by first | simpa using c3 | (simp at c3 ⊢; omega)
    obtain rfl := Option.some.inj H
    go_enter Tryz.func31, Tryz.ntmps31
    go_wp2
    repeat (go_quiet (fail); try go_wp2)
    all_goals (first | (go_ret; exact ⟨by first | rfl | (simp; done) | (simp [*]; done) | (simp_all; done), by repeat (first | exact Drawn0.refl _ | apply Drawn0.step)⟩) | (exfalso; simp_all; done))
def postriderlaw07_Few.l0 : Nat → List (S41) → List (S41) → Int → Option ((List (S41)))
  | 0, _, _, _ => none
  | k + 1, x0, x3, x4 => if x4 < (x0.length : Int) then (if x4 < 32 then (if 0 ≤ x4 then ((postriderlaw06_Cut.f ((rd_T41 x0 x4).f0) ((rd_T41 x0 x4).f1) ((rd_T41 x0 x4).f2) ((rd_T41 x0 x4).f3) ((rd_T41 x0 x4).f4)).bind fun bt104 => (if x3.length < 2513169434916 then (postriderlaw07_Few.l0 k x0 (x3 ++ [(⟨bt104.1, bt104.2.1, bt104.2.2.1, bt104.2.2.2.1, bt104.2.2.2.2⟩ : S41)]) (wrap64 (x4 + 1))) else (none))) else (none)) else (some x3)) else (some x3)
def postriderlaw07_Few.f (k : Nat) (l0 : List (S41)) : Option ((List (S41))) := postriderlaw07_Few.l0 k l0 ([] : List (S41)) 0
theorem postriderlaw07_Few.mono_l : ∀ k, (∀ y0 y1 y2, LeO (postriderlaw07_Few.l0 k y0 y1 y2) (postriderlaw07_Few.l0 (k + 1) y0 y1 y2))
  | 0 => fun _ _ _ r h => by simp [postriderlaw07_Few.l0] at h
  | k + 1 => by
    have ih0 := postriderlaw07_Few.mono_l k
    · intro y0 y1 y2
      unfold postriderlaw07_Few.l0
      repeat' first
      | (with_reducible exact ih0 _ _ _)
      | (with_reducible exact LeO.refl _)
      | (with_reducible exact LeO.none _)
      | (with_reducible refine LeO.ite ?_ ?_)
      | (with_reducible refine LeO.bind ?_ (fun _ => ?_))
      | exact ih0 _ _ _
      | exact LeO.none _
      | refine LeO.ite ?_ ?_
      | refine LeO.bind ?_ (fun _ => ?_)
theorem postriderlaw07_Few.mono : ∀ a0 k, LeO (postriderlaw07_Few.f k a0) (postriderlaw07_Few.f (k + 1) a0) := by
  intro a0 k
  have ih0 := postriderlaw07_Few.mono_l k
  unfold postriderlaw07_Few.f
  repeat' first
      | (with_reducible exact ih0 _ _ _)
      | (with_reducible exact LeO.refl _)
      | (with_reducible exact LeO.none _)
      | (with_reducible refine LeO.ite ?_ ?_)
      | (with_reducible refine LeO.bind ?_ (fun _ => ?_))
      | exact ih0 _ _ _
      | exact LeO.none _
      | refine LeO.ite ?_ ?_
      | refine LeO.bind ?_ (fun _ => ?_)
set_option maxHeartbeats 8000000 in
set_option maxRecDepth 100000 in
theorem postriderlaw07_Few.calls (k : Nat) (A0 : Option Addr) (c0 : Nat) (l0 : List (S41)) (r : List (S41)) (w : World) (hr0 : Kd.C k41 w A0 l0.length l0) (hc0 : l0.length ≤ c0) (h : postriderlaw07_Few.f k l0 = some r) :
    Calls Tryz.prog 9 #[.slice A0 l0.length c0] w fun e w' => ∃ v0_ : Value, e = .returned (v0_) ∧ Kd.R k41 41 w' w.heap.size (fun _ => True) v0_ r ∧ Below w.heap.size w w' := by
  have hu41 := Tryz.underlying41
  have HR0 := Aside0.mk hr0
  have HC0 := Aside0.mk hc0
  clear hr0 hc0
  have HB := Aside0.mk (Below.refl w.heap.size w)
  have H : (postriderlaw07_Few.l0 k l0 ([] : List (S41)) 0) = some r := h
  clear h
  have H' := Aside0.mk H
  clear H
  go_enter Tryz.func9, Tryz.ntmps9
  go_wp2
  go_loopg [3, 4] k (fun kq v3 v4 w' => ∃ (x3_1 : List (S41)) (x4_1 : Int), v4 = .int .i64 x4_1 ∧ Aside0 (postriderlaw07_Few.l0 kq l0 x3_1 x4_1 = some r) ∧ Aside0 (kq ≤ k) ∧ Aside0 (Kd.R k41 41 w' w.heap.size (fun _ => True) v3 x3_1) ∧ Aside0 (Below w.heap.size w w'))
  case atStart => exact ⟨(([] : List (S41))), (0), (by first | rfl | (simp; done) | (simp [*]; done)), H', ⟨Nat.le_refl _⟩, ⟨by first | exact Kd.R_nil _ _ _ _ _ | exact Kd.N_nil _ _ _ _ _ | exact Kd.V_nil _ _ _ _ _ | exact Kd.Q_nil _ _ _ _ _ | exact Kd.S_nil _ _ _ _ _⟩, ⟨by repeat (first | (with_reducible first | exact HB.out | apply below_alloc | apply pw_below_drewN | apply below_drew1) | exact HB.out)⟩⟩
  case round =>
    clear H'
    obtain ⟨x3_1, x4_1, rfl, HA, HK1, HO_3, HB⟩ := hrel
    cases gk with
    | zero => exact absurd HA.out (by simp [postriderlaw07_Few.l0])
    | succ k1 =>
      have H := HA.out
      clear HA
      simp only [postriderlaw07_Few.l0] at H
      by_cases c2 : x4_1 < (l0.length : Int)
      · rw [if_pos c2] at H
        have c2b0 : decide (x4_1 < (l0.length : Int)) = true := decide_eq_true c2
        clear c2
        by_cases c3 : x4_1 < 32
        · rw [if_pos c3] at H
          have c3b0 : decide (x4_1 < 32) = true := decide_eq_true c3
          clear c3
          by_cases c4 : 0 ≤ x4_1
          · rw [if_pos c4] at H
            have c4b0 : decide (0 ≤ x4_1) = true := decide_eq_true c4
            clear c4
            replace H := Option.bind_eq_some_iff.mp H
            obtain ⟨⟨t104, t105, t106, t107, t108⟩, A50, H⟩ := H
            replace H : (if x3_1.length < 2513169434916 then (postriderlaw07_Few.l0 k1 l0 (x3_1 ++ [(⟨t104, t105, t106, t107, t108⟩ : S41)]) (wrap64 (x4_1 + 1))) else (none)) = some r := H
            have A5 := Aside0.mk A50
            clear A50
            by_cases c6 : x3_1.length < 2513169434916
            · rw [if_pos c6] at H
              have LMc6 := Aside0.mk c6
              clear c6
              obtain ⟨y109, hy109⟩ : ∃ y_ : List (S41), y_ = (x3_1 ++ [(⟨t104, t105, t106, t107, t108⟩ : S41)]) := ⟨_, rfl⟩
              replace H : (postriderlaw07_Few.l0 k1 l0 y109 (wrap64 (x4_1 + 1))) = some r := by first | (rw [hy109]; with_reducible exact H) | (have H2_ := (Option.bind_some _ _).symm.trans H; rw [hy109]; with_reducible exact H2_) | (have H2_ := (Option.bind_some _ _).symm.trans H; with_reducible exact H2_) | with_reducible exact H | (rw [hy109]; exact H) | exact H
              have Ny109 := Aside0.mk hy109
              clear hy109
              have H' := Aside0.mk H
              clear H
              have p103 : 0 ≤ (x4_1 : Int) := of_decide_eq_true (by first | (with_reducible assumption) | assumption)
              have q103 : x4_1 < (l0.length : Int) := of_decide_eq_true (by first | (with_reducible assumption) | assumption)
              obtain ⟨ad103, e103, hx103_0, hx103_1, hx103_2, hx103_3, hx103_4⟩ := at_T41 HR0.out x4_1 p103 q103
              cases e103
              replace hx103_0 := (HB.out.cell (World.block_lt_of_cell? w _ hx103_0)).trans hx103_0
              replace hx103_1 := (HB.out.cell (World.block_lt_of_cell? w _ hx103_1)).trans hx103_1
              replace hx103_2 := (HB.out.cell (World.block_lt_of_cell? w _ hx103_2)).trans hx103_2
              replace hx103_3 := (HB.out.cell (World.block_lt_of_cell? w _ hx103_3)).trans hx103_3
              replace hx103_4 := (HB.out.cell (World.block_lt_of_cell? w _ hx103_4)).trans hx103_4
              replace p103 := eq_true p103
              replace q103 := eq_true q103
              go_wp2_with (first | ((with_reducible refine gate_callee (f := 21) rfl ?_); refine goesL_ (some 20) rfl rfl Tryz.func21 (by kernel_rfl) rfl #[.agg #[.int .i64 ((rd_T41 l0 x4_1).f0), .string ((rd_T41 l0 x4_1).f1), .string ((rd_T41 l0 x4_1).f2), .int .i64 ((rd_T41 l0 x4_1).f3), .int .i64 ((rd_T41 l0 x4_1).f4)]] rfl (by (try simp only [List.map_toArray, List.map_cons, List.map_nil]); first | done | rfl | (simp only [List.length_drop, List.length_take]; rfl)) ?_; (with_reducible refine (postriderlaw06_Cut.calls ((rd_T41 l0 x4_1).f0) ((rd_T41 l0 x4_1).f1) ((rd_T41 l0 x4_1).f2) ((rd_T41 l0 x4_1).f3) ((rd_T41 l0 x4_1).f4) t104 t105 t106 t107 t108 _ A5.out).mono ?_); rintro e w7 ⟨rfl, hb⟩; refine ⟨_, rfl, ?_⟩; have n0_ := Aside0.mk (Kd.R_below (by (with_reducible repeat (first | apply Kd.R_alloc | apply Kd.R_drewN | apply Kd.R_drew)); exact HO_3.out) hb); have n1_ := Aside0.mk (below_step (by repeat (first | (with_reducible first | exact HB.out | apply below_alloc | apply pw_below_drewN | apply below_drew1) | exact HB.out)) hb); clear HO_3; clear HB; have HO_3 := n0_; have HB := n1_; clear n0_ n1_; (try clear hb); (try clear hb2); (try clear hk); (try clear hi)) | ((with_reducible refine gate_builtin (b := .append) (xs := #[.tmp 15, .tmp 21]) rfl ?_); at_builtin; refine Kd.R_append k41 (w0 := w) w.heap.size rfl (.tmp 15) (.tmp 21) 22 41 (.agg #[(.int .i64 0), (.string ⟨#[]⟩), (.string ⟨#[]⟩), (.int .i64 0), (.int .i64 0)]) 56 rfl Tryz.underlying22 info41 rfl (by decide) (by omega) u3 x3_1 (⟨t104, t105, t106, t107, t108⟩ : S41) [.int .i64 t104, .string t105, .string t106, .int .i64 t107, .int .i64 t108] (fun _ => True) (fun _ => False) rfl rfl ?aP (fun _ hk => hk.elim) ?aF ?aO ?aB ?aS ?aL ?_; (case aP => exact k41_mkM _ _ _ (⟨t104, t105, t106, t107, t108⟩ : S41)); (case aB => exact (by repeat (first | (with_reducible first | exact HB.out | apply below_alloc | apply pw_below_drewN | apply below_drew1) | exact HB.out))); (case aF => exact (fun _ _ => trivial)); (case aO => exact (by (with_reducible repeat (first | apply Kd.R_alloc | apply Kd.R_drewN | apply Kd.R_drew)); exact HO_3.out)); (case aS => exact (below_size (by repeat (first | (with_reducible first | exact HB.out | apply below_alloc | apply pw_below_drewN | apply below_drew1) | exact HB.out)))); (case aL => have := LMc6.out; omega); intro v110 w8 ho hb hg hat; rw [← Ny109.out] at ho; have n0_ := Aside0.mk (hb); have n1_ := Aside0.mk (ho); clear HB; clear HO_3; have HB := n0_; have HO111 := n1_; clear n0_ n1_; clear ho hb hg hat))
              go_roundg k1
              case measure => have := HK1.out; omega
              case rel => exact ⟨(y109), (wrap64 (x4_1 + 1)), (by first | rfl | (simp; done) | (simp [*]; done)), H', ⟨by have := HK1.out; omega⟩, ⟨by (with_reducible repeat (first | apply Kd.R_alloc | apply Kd.R_drewN | apply Kd.R_drew)); exact HO111.out⟩, ⟨by repeat (first | (with_reducible first | exact HB.out | apply below_alloc | apply pw_below_drewN | apply below_drew1) | exact HB.out)⟩⟩
            · rw [if_neg c6] at H
              exact absurd H (by simp)
          · rw [if_neg c4] at H
            exact absurd H (by simp)
        · rw [if_neg c3] at H
          have c3b0 : decide (x4_1 < 32) = false := decide_eq_false c3
          clear c3
          obtain rfl := Option.some.inj H
          go_wp2
          go_ret
          exact ⟨_, by first | rfl | (simp [errW_none, errW_some] <;> rfl) | (simp [*, errW_none, errW_some] <;> rfl), by (with_reducible repeat (first | apply Kd.R_alloc | apply Kd.R_drewN | apply Kd.R_drew)); exact HO_3.out, by repeat (first | (with_reducible first | exact HB.out | apply below_alloc | apply pw_below_drewN | apply below_drew1) | exact HB.out)⟩
      · rw [if_neg c2] at H
        have c2b0 : decide (x4_1 < (l0.length : Int)) = false := decide_eq_false c2
        clear c2
        obtain rfl := Option.some.inj H
        go_wp2
        go_ret
        exact ⟨_, by first | rfl | (simp [errW_none, errW_some] <;> rfl) | (simp [*, errW_none, errW_some] <;> rfl), by (with_reducible repeat (first | apply Kd.R_alloc | apply Kd.R_drewN | apply Kd.R_drew)); exact HO_3.out, by repeat (first | (with_reducible first | exact HB.out | apply below_alloc | apply pw_below_drewN | apply below_drew1) | exact HB.out)⟩
def postriderlaw07_cut.f (a0 : ByteArray) : Option (ByteArray) := if 0 ≤ (mn (a0.size : Int) 900) then (if (mn (a0.size : Int) 900) ≤ (a0.size : Int) then (some (a0.extract 0 ((mn (a0.size : Int) 900) : Int).toNat)) else (none)) else (none)
set_option maxHeartbeats 8000000 in
set_option maxRecDepth 100000 in
theorem postriderlaw07_cut.calls (a0 : ByteArray) (r : ByteArray) (w : World) (h : postriderlaw07_cut.f a0 = some r) :
    Calls Tryz.prog 10 #[.string a0] w fun e w' => e = .returned (.string r) ∧ Below w.heap.size w w' := by
  have HB := Aside0.mk (Below.refl w.heap.size w)
  have H : (if 0 ≤ (mn (a0.size : Int) 900) then (if (mn (a0.size : Int) 900) ≤ (a0.size : Int) then (some (a0.extract 0 ((mn (a0.size : Int) 900) : Int).toNat)) else (none)) else (none)) = some r := h
  clear h
  obtain ⟨ji2, hji2⟩ : ∃ j_ : Int, (mn (a0.size : Int) 900) = j_ := ⟨_, rfl⟩
  replace H : (if 0 ≤ (ji2) then (if (ji2) ≤ (a0.size : Int) then (some (a0.extract 0 ((ji2) : Int).toNat)) else (none)) else (none)) = some r := by first | (rw [hji2] at H; exact H) | (simp only [hji2] at H ⊢; exact H)
  (try (have hji2h : ji2 ≤ 900 := by (rw [← hji2]; unfold mn; (repeat' split) <;> omega)))
  (try (have hji2g : ji2 ≤ 64 := by omega))
  (try (have hji2l : 0 ≤ ji2 := by (rw [← hji2]; unfold mn; (repeat' split) <;> omega)))
  (try (have hji2m : 0 ≤ ji2 := by omega))
  have hji2_ : (if 900 < (a0.size : Int) then 900 else (a0.size : Int)) = ji2 := hji2
  by_cases c3 : 0 ≤ (ji2)
  · rw [if_pos c3] at H
    have c3b0 := eq_true c3
    have c3b1 : decide (0 ≤ (ji2)) = true := decide_eq_true c3
    clear c3
    by_cases c4 : (ji2) ≤ (a0.size : Int)
    · rw [if_pos c4] at H
      have c4b0 := eq_true c4
      have c4b1 : decide ((ji2) ≤ (a0.size : Int)) = true := decide_eq_true c4
      clear c4
      obtain rfl := Option.some.inj H
      go_enter Tryz.func10, Tryz.ntmps10
      go_wp2
      all_goals (first | (go_ret; exact ⟨by first | rfl | (simp [errW_none, errW_some] <;> rfl) | (simp only [← hji2]; first | rfl | (simp [errW_none, errW_some] <;> rfl)) | (simp [*, errW_none, errW_some] <;> rfl) | (simp_all; done), by repeat (first | (with_reducible first | exact HB.out | apply below_alloc | apply pw_below_drewN | apply below_drew1) | exact HB.out)⟩) | (exfalso; simp_all; done))
    · rw [if_neg c4] at H
      exact absurd H (by simp)
  · rw [if_neg c3] at H
    exact absurd H (by simp)
def postriderlaw07_few.f (l0 : List Int) : Option (List Int) := if 0 ≤ (mn (l0.length : Int) 63) then (if (mn (l0.length : Int) 63) ≤ (l0.length : Int) then (some (l0.take ((mn (l0.length : Int) 63) : Int).toNat)) else (none)) else (none)
set_option maxHeartbeats 8000000 in
set_option maxRecDepth 100000 in
theorem postriderlaw07_few.calls (P0_ : Nat → Prop) (u9000_ : Value) (l0 : List Int) (r : List Int) (w0 w : World) (hB : Below w0.heap.size w0 w) (ho0 : Kd.R (Kd.int .i64) 3 w w0.heap.size P0_ u9000_ l0) (h : postriderlaw07_few.f l0 = some r) :
    Calls Tryz.prog 11 #[u9000_] w fun e w' => ∃ v0_ : Value, e = .returned (v0_) ∧ Kd.R (Kd.int .i64) 3 w' w0.heap.size (fun k_ => (P0_ k_ ∨ w.heap.size ≤ k_)) v0_ r ∧ Below w0.heap.size w0 w' ∧ Kept w w' (fun k_ => P0_ k_) := by
  have HO0 := Aside0.mk (show Kd.R (Kd.int .i64) 3 w w0.heap.size (fun k_ => (P0_ k_ ∨ w.heap.size ≤ k_)) u9000_ l0 from Kd.R_mono ho0 (fun k_ hk => (.inl hk)))
  have HK := Aside0.mk (Kept.refl w (fun k_ => P0_ k_))
  have HW0 := Aside0.mk hB.size
  have HB := Aside0.mk hB
  clear hB
  have H : (if 0 ≤ (mn (l0.length : Int) 63) then (if (mn (l0.length : Int) 63) ≤ (l0.length : Int) then (some (l0.take ((mn (l0.length : Int) 63) : Int).toNat)) else (none)) else (none)) = some r := h
  clear h
  obtain ⟨ji2, hji2⟩ : ∃ j_ : Int, (mn (l0.length : Int) 63) = j_ := ⟨_, rfl⟩
  replace H : (if 0 ≤ (ji2) then (if (ji2) ≤ (l0.length : Int) then (some (l0.take ((ji2) : Int).toNat)) else (none)) else (none)) = some r := by first | (rw [hji2] at H; exact H) | (simp only [hji2] at H ⊢; exact H)
  (try (have hji2h : ji2 ≤ 63 := by (rw [← hji2]; unfold mn; (repeat' split) <;> omega)))
  (try (have hji2g : ji2 ≤ 64 := by omega))
  (try (have hji2l : 0 ≤ ji2 := by (rw [← hji2]; unfold mn; (repeat' split) <;> omega)))
  (try (have hji2m : 0 ≤ ji2 := by omega))
  have hji2_ : (if 63 < (l0.length : Int) then 63 else (l0.length : Int)) = ji2 := hji2
  by_cases c3 : 0 ≤ (ji2)
  · rw [if_pos c3] at H
    have c3b0 := eq_true c3
    have c3b1 : decide (0 ≤ (ji2)) = true := decide_eq_true c3
    clear c3
    by_cases c4 : (ji2) ≤ (l0.length : Int)
    · rw [if_pos c4] at H
      have c4b0 := eq_true c4
      have c4b1 : decide ((ji2) ≤ (l0.length : Int)) = true := decide_eq_true c4
      clear c4
      obtain ⟨y112, hy112⟩ : ∃ y_ : List Int, y_ = (l0.take ((ji2) : Int).toNat) := ⟨_, rfl⟩
      replace H : (some y112) = some r := by first | (rw [hy112]; with_reducible exact H) | (have H2_ := (Option.bind_some _ _).symm.trans H; rw [hy112]; with_reducible exact H2_) | (have H2_ := (Option.bind_some _ _).symm.trans H; with_reducible exact H2_) | with_reducible exact H | (rw [hy112]; exact H) | exact H
      have Ny112 := Aside0.mk hy112
      clear hy112
      obtain rfl := Option.some.inj H
      obtain ⟨Ao5, co5, eo5⟩ := Kd.R_slice HO0.out
      subst eo5
      have q6 : ((ji2) : Int) ≤ ((l0.length : Int) : Int) := of_decide_eq_true (by first | (with_reducible assumption) | assumption)
      obtain ⟨i06, hi06, _, hsz6, _⟩ := info_parts info3
      have hcut6 := cut_to (P := Tryz.prog) 23 3 .i64 Tryz.underlying23 hi06 Ao5 l0.length co5 (ji2) (of_decide_eq_true (by first | (with_reducible assumption) | assumption)) q6 (Kd.R_reads' HO0.out).2.1
      have hr6 := Kd.R_take (m := ((ji2) : Int).toNat) HO0.out (by omega)
      have hy6 : y112.length = ((ji2) : Int).toNat := (by rw [Ny112.out, List.length_take]; omega)
      rw [← Ny112.out] at hr6
      rw [← hy6] at hr6 hcut6
      clear hy6 hi06 hsz6 HO0
      have HO114 := Aside0.mk hr6
      clear hr6
      replace q6 := eq_true q6
      go_enter Tryz.func11, Tryz.ntmps11
      go_wp2
      go_ret
      exact ⟨_, by first | rfl | (simp [errW_none, errW_some] <;> rfl) | (simp only [← hji2]; first | rfl | (simp [errW_none, errW_some] <;> rfl)) | (simp [*, errW_none, errW_some] <;> rfl), by (with_reducible repeat (first | apply Kd.R_alloc | apply Kd.R_drewN | apply Kd.R_drew)); exact HO114.out, by repeat (first | (with_reducible first | exact HB.out | apply below_alloc | apply pw_below_drewN | apply below_drew1) | exact HB.out), by repeat (first | (with_reducible first | exact HK.out | apply Kept.alloc | apply Kept.drewN | apply Kept.drew) | exact HK.out)⟩
    · rw [if_neg c4] at H
      exact absurd H (by simp)
  · rw [if_neg c3] at H
    exact absurd H (by simp)
def postriderlaw07_stands.f (a0 : ByteArray) (a1 : Int) (a2 : ByteArray) : Option (Bool) := if a1 < 0 then (some false) else (if (wrap64 (a1 + (a2.size : Int))) ≥ (a0.size : Int) then (some false) else (if a1 > 0 then (if 0 ≤ (wrap64 (a1 - 1)) then (if (wrap64 (a1 - 1)) < (a0.size : Int) then (if (bt a0 (wrap64 (a1 - 1))) = 0 then (if 0 ≤ a1 then (if a1 ≤ (wrap64 (a1 + (a2.size : Int))) then (if (wrap64 (a1 + (a2.size : Int))) ≤ (a0.size : Int) then (if (a0.extract (a1 : Int).toNat ((wrap64 (a1 + (a2.size : Int))) : Int).toNat).toList = a2.toList then (if 0 ≤ (wrap64 (a1 + (a2.size : Int))) then (if (wrap64 (a1 + (a2.size : Int))) < (a0.size : Int) then (some ((bt a0 (wrap64 (a1 + (a2.size : Int)))) == 0)) else (none)) else (none)) else (some false)) else (none)) else (none)) else (none)) else (some false)) else (none)) else (none)) else (if 0 ≤ a1 then (if a1 ≤ (wrap64 (a1 + (a2.size : Int))) then (if (wrap64 (a1 + (a2.size : Int))) ≤ (a0.size : Int) then (if (a0.extract (a1 : Int).toNat ((wrap64 (a1 + (a2.size : Int))) : Int).toNat).toList = a2.toList then (if 0 ≤ (wrap64 (a1 + (a2.size : Int))) then (if (wrap64 (a1 + (a2.size : Int))) < (a0.size : Int) then (some ((bt a0 (wrap64 (a1 + (a2.size : Int)))) == 0)) else (none)) else (none)) else (some false)) else (none)) else (none)) else (none))))
set_option maxHeartbeats 8000000 in
set_option maxRecDepth 100000 in
theorem postriderlaw07_stands.calls (a0 : ByteArray) (a1 : Int) (a2 : ByteArray) (r : Bool) (w : World) (h : postriderlaw07_stands.f a0 a1 a2 = some r) :
    Calls Tryz.prog 23 #[.string a0, .int .i64 a1, .string a2] w fun e w' => e = .returned (.bool r) ∧ Drawn0 w w' := by
  have H : (if a1 < 0 then (some false) else (if (wrap64 (a1 + (a2.size : Int))) ≥ (a0.size : Int) then (some false) else (if a1 > 0 then (if 0 ≤ (wrap64 (a1 - 1)) then (if (wrap64 (a1 - 1)) < (a0.size : Int) then (if (bt a0 (wrap64 (a1 - 1))) = 0 then (if 0 ≤ a1 then (if a1 ≤ (wrap64 (a1 + (a2.size : Int))) then (if (wrap64 (a1 + (a2.size : Int))) ≤ (a0.size : Int) then (if (a0.extract (a1 : Int).toNat ((wrap64 (a1 + (a2.size : Int))) : Int).toNat).toList = a2.toList then (if 0 ≤ (wrap64 (a1 + (a2.size : Int))) then (if (wrap64 (a1 + (a2.size : Int))) < (a0.size : Int) then (some ((bt a0 (wrap64 (a1 + (a2.size : Int)))) == 0)) else (none)) else (none)) else (some false)) else (none)) else (none)) else (none)) else (some false)) else (none)) else (none)) else (if 0 ≤ a1 then (if a1 ≤ (wrap64 (a1 + (a2.size : Int))) then (if (wrap64 (a1 + (a2.size : Int))) ≤ (a0.size : Int) then (if (a0.extract (a1 : Int).toNat ((wrap64 (a1 + (a2.size : Int))) : Int).toNat).toList = a2.toList then (if 0 ≤ (wrap64 (a1 + (a2.size : Int))) then (if (wrap64 (a1 + (a2.size : Int))) < (a0.size : Int) then (some ((bt a0 (wrap64 (a1 + (a2.size : Int)))) == 0)) else (none)) else (none)) else (some false)) else (none)) else (none)) else (none))))) = some r := h
  clear h
  by_cases c4 : a1 < 0
  · rw [if_pos c4] at H
    have c4b0 : decide (a1 < 0) = true := decide_eq_true c4
    clear c4
    obtain rfl := Option.some.inj H
    go_enter Tryz.func23, Tryz.ntmps23
    go_wp2
    all_goals (first | (go_ret; exact ⟨by first | rfl | (simp; done) | (simp [*]; done) | (simp_all; done), by repeat (first | exact Drawn0.refl _ | apply Drawn0.step)⟩) | (exfalso; simp_all; done))
  · rw [if_neg c4] at H
    have c4b0 : decide (a1 < 0) = false := decide_eq_false c4
    clear c4
    by_cases c5 : (wrap64 (a1 + (a2.size : Int))) ≥ (a0.size : Int)
    · rw [if_pos c5] at H
      have c5b0 : decide ((a0.size : Int) ≤ (wrap64 (a1 + (a2.size : Int)))) = true := decide_eq_true c5
      clear c5
      obtain rfl := Option.some.inj H
      go_enter Tryz.func23, Tryz.ntmps23
      go_wp2
      all_goals (first | (go_ret; exact ⟨by first | rfl | (simp; done) | (simp [*]; done) | (simp_all; done), by repeat (first | exact Drawn0.refl _ | apply Drawn0.step)⟩) | (exfalso; simp_all; done))
    · rw [if_neg c5] at H
      have c5b0 : decide ((a0.size : Int) ≤ (wrap64 (a1 + (a2.size : Int)))) = false := decide_eq_false c5
      clear c5
      by_cases c6 : a1 > 0
      · rw [if_pos c6] at H
        have c6b0 : decide (0 < a1) = true := decide_eq_true c6
        clear c6
        obtain ⟨ji7, hji7⟩ : ∃ j_ : Int, (wrap64 (a1 - 1)) = j_ := ⟨_, rfl⟩
        replace H : (if 0 ≤ (ji7) then (if (ji7) < (a0.size : Int) then (if (bt a0 (ji7)) = 0 then (if 0 ≤ a1 then (if a1 ≤ (wrap64 (a1 + (a2.size : Int))) then (if (wrap64 (a1 + (a2.size : Int))) ≤ (a0.size : Int) then (if (a0.extract (a1 : Int).toNat ((wrap64 (a1 + (a2.size : Int))) : Int).toNat).toList = a2.toList then (if 0 ≤ (wrap64 (a1 + (a2.size : Int))) then (if (wrap64 (a1 + (a2.size : Int))) < (a0.size : Int) then (some ((bt a0 (wrap64 (a1 + (a2.size : Int)))) == 0)) else (none)) else (none)) else (some false)) else (none)) else (none)) else (none)) else (some false)) else (none)) else (none)) = some r := by first | (rw [hji7] at H; exact H) | (simp only [hji7] at H ⊢; exact H)
        have hji7w : (IntKind.i64.wrap (a1 - 1)) = ji7 := (i64_w _).trans hji7
        by_cases c8 : 0 ≤ (ji7)
        · rw [if_pos c8] at H
          have c8b0 : decide (0 ≤ (ji7)) = true := decide_eq_true c8
          clear c8
          by_cases c9 : (ji7) < (a0.size : Int)
          · rw [if_pos c9] at H
            have c9b0 : decide ((ji7) < (a0.size : Int)) = true := decide_eq_true c9
            clear c9
            by_cases c11 : (bt a0 (ji7)) = 0
            · rw [if_pos c11] at H
              have c11b0 : ((bt a0 (ji7)) == 0) = true := beq_iff_eq.mpr c11
              have c11b1 : ((bt a0 (ji7)) != 0) = false := bne_eq_false_iff_eq.mpr c11
              clear c11
              by_cases c12 : 0 ≤ a1
              · rw [if_pos c12] at H
                have c12b0 := eq_true c12
                have c12b1 : decide (0 ≤ a1) = true := decide_eq_true c12
                clear c12
                by_cases c13 : a1 ≤ (wrap64 (a1 + (a2.size : Int)))
                · rw [if_pos c13] at H
                  have c13b0 := eq_true c13
                  have c13b1 : decide (a1 ≤ (wrap64 (a1 + (a2.size : Int)))) = true := decide_eq_true c13
                  by_cases c14 : (wrap64 (a1 + (a2.size : Int))) ≤ (a0.size : Int)
                  · rw [if_pos c14] at H
                    have c14b0 := eq_true c14
                    have c14b1 : decide ((wrap64 (a1 + (a2.size : Int))) ≤ (a0.size : Int)) = true := decide_eq_true c14
                    by_cases c15 : (a0.extract (a1 : Int).toNat ((wrap64 (a1 + (a2.size : Int))) : Int).toNat).toList = a2.toList
                    · rw [if_pos c15] at H
                      have c15b0 : ((a0.extract (a1 : Int).toNat ((wrap64 (a1 + (a2.size : Int))) : Int).toNat).toList == a2.toList) = true := beq_iff_eq.mpr c15
                      have c15b1 : ((a0.extract (a1 : Int).toNat ((wrap64 (a1 + (a2.size : Int))) : Int).toNat).toList != a2.toList) = false := bne_eq_false_iff_eq.mpr c15
                      clear c15
                      obtain ⟨ji16, hji16⟩ : ∃ j_ : Int, (wrap64 (a1 + (a2.size : Int))) = j_ := ⟨_, rfl⟩
                      replace H : (if 0 ≤ (ji16) then (if (ji16) < (a0.size : Int) then (some ((bt a0 (ji16)) == 0)) else (none)) else (none)) = some r := by first | (rw [hji16] at H; exact H) | (simp only [hji16] at H ⊢; exact H)
                      (try rw [hji16] at c5b0)
                      (try rw [hji16] at c13b0)
                      (try rw [hji16] at c13b1)
                      (try rw [hji16] at c13)
                      (try rw [hji16] at c14b0)
                      (try rw [hji16] at c14b1)
                      (try rw [hji16] at c14)
                      (try rw [hji16] at c15b0)
                      (try rw [hji16] at c15b1)
                      have hji16w : (IntKind.i64.wrap (a1 + (a2.size : Int))) = ji16 := (i64_w _).trans hji16
                      by_cases c17 : 0 ≤ (ji16)
                      · rw [if_pos c17] at H
                        have c17b0 : decide (0 ≤ (ji16)) = true := decide_eq_true c17
                        clear c17
                        by_cases c18 : (ji16) < (a0.size : Int)
                        · rw [if_pos c18] at H
                          have c18b0 : decide ((ji16) < (a0.size : Int)) = true := decide_eq_true c18
                          clear c18
                          obtain rfl := Option.some.inj H
                          have p10 : 0 ≤ ((ji7) : Int) := of_decide_eq_true (by first | (with_reducible assumption) | assumption)
                          have q10 : (ji7) < (a0.size : Int) := of_decide_eq_true (by first | (with_reducible assumption) | assumption)
                          have hx10 := bt_at a0 (ji7)
                          replace p10 := eq_true p10
                          replace q10 := eq_true q10
                          have p19 : 0 ≤ ((ji16) : Int) := of_decide_eq_true (by first | (with_reducible assumption) | assumption)
                          have q19 : (ji16) < (a0.size : Int) := of_decide_eq_true (by first | (with_reducible assumption) | assumption)
                          have hx19 := bt_at a0 (ji16)
                          replace p19 := eq_true p19
                          replace q19 := eq_true q19
                          go_enter Tryz.func23, Tryz.ntmps23
                          go_wp2
                          all_goals (first | (go_ret; exact ⟨by first | rfl | (simp; done) | (simp only [← hji7, ← hji16] <;> (first | rfl | simp)) | (simp [*]; done) | (simp_all; done), by repeat (first | exact Drawn0.refl _ | apply Drawn0.step)⟩) | (exfalso; simp_all; done))
                        · rw [if_neg c18] at H
                          exact absurd H (by simp)
                      · rw [if_neg c17] at H
                        exact absurd H (by simp)
                    · rw [if_neg c15] at H
                      have c15b0 : ((a0.extract (a1 : Int).toNat ((wrap64 (a1 + (a2.size : Int))) : Int).toNat).toList == a2.toList) = false := beq_eq_false_iff_ne.mpr c15
                      have c15b1 : ((a0.extract (a1 : Int).toNat ((wrap64 (a1 + (a2.size : Int))) : Int).toNat).toList != a2.toList) = true := bne_iff_ne.mpr c15
                      obtain rfl := Option.some.inj H
                      have p10 : 0 ≤ ((ji7) : Int) := of_decide_eq_true (by first | (with_reducible assumption) | assumption)
                      have q10 : (ji7) < (a0.size : Int) := of_decide_eq_true (by first | (with_reducible assumption) | assumption)
                      have hx10 := bt_at a0 (ji7)
                      replace p10 := eq_true p10
                      replace q10 := eq_true q10
                      go_enter Tryz.func23, Tryz.ntmps23
                      go_wp2
                      all_goals (first | (go_ret; exact ⟨by first | rfl | (simp; done) | (simp only [← hji7] <;> (first | rfl | simp)) | (simp [*]; done) | (simp_all; done), by repeat (first | exact Drawn0.refl _ | apply Drawn0.step)⟩) | (exfalso; simp_all; done))
                  · rw [if_neg c14] at H
                    exact absurd H (by simp)
                · rw [if_neg c13] at H
                  exact absurd H (by simp)
              · rw [if_neg c12] at H
                exact absurd H (by simp)
            · rw [if_neg c11] at H
              have c11b0 : ((bt a0 (ji7)) == 0) = false := beq_eq_false_iff_ne.mpr c11
              have c11b1 : ((bt a0 (ji7)) != 0) = true := bne_iff_ne.mpr c11
              obtain rfl := Option.some.inj H
              have p10 : 0 ≤ ((ji7) : Int) := of_decide_eq_true (by first | (with_reducible assumption) | assumption)
              have q10 : (ji7) < (a0.size : Int) := of_decide_eq_true (by first | (with_reducible assumption) | assumption)
              have hx10 := bt_at a0 (ji7)
              replace p10 := eq_true p10
              replace q10 := eq_true q10
              go_enter Tryz.func23, Tryz.ntmps23
              go_wp2
              all_goals (first | (go_ret; exact ⟨by first | rfl | (simp; done) | (simp only [← hji7] <;> (first | rfl | simp)) | (simp [*]; done) | (simp_all; done), by repeat (first | exact Drawn0.refl _ | apply Drawn0.step)⟩) | (exfalso; simp_all; done))
          · rw [if_neg c9] at H
            exact absurd H (by simp)
        · rw [if_neg c8] at H
          exact absurd H (by simp)
      · rw [if_neg c6] at H
        have c6b0 : decide (0 < a1) = false := decide_eq_false c6
        clear c6
        by_cases c20 : 0 ≤ a1
        · rw [if_pos c20] at H
          have c20b0 := eq_true c20
          have c20b1 : decide (0 ≤ a1) = true := decide_eq_true c20
          clear c20
          by_cases c21 : a1 ≤ (wrap64 (a1 + (a2.size : Int)))
          · rw [if_pos c21] at H
            have c21b0 := eq_true c21
            have c21b1 : decide (a1 ≤ (wrap64 (a1 + (a2.size : Int)))) = true := decide_eq_true c21
            by_cases c22 : (wrap64 (a1 + (a2.size : Int))) ≤ (a0.size : Int)
            · rw [if_pos c22] at H
              have c22b0 := eq_true c22
              have c22b1 : decide ((wrap64 (a1 + (a2.size : Int))) ≤ (a0.size : Int)) = true := decide_eq_true c22
              by_cases c23 : (a0.extract (a1 : Int).toNat ((wrap64 (a1 + (a2.size : Int))) : Int).toNat).toList = a2.toList
              · rw [if_pos c23] at H
                have c23b0 : ((a0.extract (a1 : Int).toNat ((wrap64 (a1 + (a2.size : Int))) : Int).toNat).toList == a2.toList) = true := beq_iff_eq.mpr c23
                have c23b1 : ((a0.extract (a1 : Int).toNat ((wrap64 (a1 + (a2.size : Int))) : Int).toNat).toList != a2.toList) = false := bne_eq_false_iff_eq.mpr c23
                clear c23
                obtain ⟨ji24, hji24⟩ : ∃ j_ : Int, (wrap64 (a1 + (a2.size : Int))) = j_ := ⟨_, rfl⟩
                replace H : (if 0 ≤ (ji24) then (if (ji24) < (a0.size : Int) then (some ((bt a0 (ji24)) == 0)) else (none)) else (none)) = some r := by first | (rw [hji24] at H; exact H) | (simp only [hji24] at H ⊢; exact H)
                (try rw [hji24] at c5b0)
                (try rw [hji24] at c21b0)
                (try rw [hji24] at c21b1)
                (try rw [hji24] at c21)
                (try rw [hji24] at c22b0)
                (try rw [hji24] at c22b1)
                (try rw [hji24] at c22)
                (try rw [hji24] at c23b0)
                (try rw [hji24] at c23b1)
                have hji24w : (IntKind.i64.wrap (a1 + (a2.size : Int))) = ji24 := (i64_w _).trans hji24
                by_cases c25 : 0 ≤ (ji24)
                · rw [if_pos c25] at H
                  have c25b0 : decide (0 ≤ (ji24)) = true := decide_eq_true c25
                  clear c25
                  by_cases c26 : (ji24) < (a0.size : Int)
                  · rw [if_pos c26] at H
                    have c26b0 : decide ((ji24) < (a0.size : Int)) = true := decide_eq_true c26
                    clear c26
                    obtain rfl := Option.some.inj H
                    have p27 : 0 ≤ ((ji24) : Int) := of_decide_eq_true (by first | (with_reducible assumption) | assumption)
                    have q27 : (ji24) < (a0.size : Int) := of_decide_eq_true (by first | (with_reducible assumption) | assumption)
                    have hx27 := bt_at a0 (ji24)
                    replace p27 := eq_true p27
                    replace q27 := eq_true q27
                    go_enter Tryz.func23, Tryz.ntmps23
                    go_wp2
                    all_goals (first | (go_ret; exact ⟨by first | rfl | (simp; done) | (simp only [← hji24] <;> (first | rfl | simp)) | (simp [*]; done) | (simp_all; done), by repeat (first | exact Drawn0.refl _ | apply Drawn0.step)⟩) | (exfalso; simp_all; done))
                  · rw [if_neg c26] at H
                    exact absurd H (by simp)
                · rw [if_neg c25] at H
                  exact absurd H (by simp)
              · rw [if_neg c23] at H
                have c23b0 : ((a0.extract (a1 : Int).toNat ((wrap64 (a1 + (a2.size : Int))) : Int).toNat).toList == a2.toList) = false := beq_eq_false_iff_ne.mpr c23
                have c23b1 : ((a0.extract (a1 : Int).toNat ((wrap64 (a1 + (a2.size : Int))) : Int).toNat).toList != a2.toList) = true := bne_iff_ne.mpr c23
                obtain rfl := Option.some.inj H
                go_enter Tryz.func23, Tryz.ntmps23
                go_wp2
                all_goals (first | (go_ret; exact ⟨by first | rfl | (simp; done) | (simp [*]; done) | (simp_all; done), by repeat (first | exact Drawn0.refl _ | apply Drawn0.step)⟩) | (exfalso; simp_all; done))
            · rw [if_neg c22] at H
              exact absurd H (by simp)
          · rw [if_neg c21] at H
            exact absurd H (by simp)
        · rw [if_neg c20] at H
          exact absurd H (by simp)
def postriderref07_SameTexts.l0 : Nat → List ByteArray → List ByteArray → Int → Option (Bool)
  | 0, _, _, _ => none
  | k + 1, x0, x1, x5 => if x5 < (x0.length : Int) then (if 0 ≤ x5 then (if x5 < (x1.length : Int) then (if (rdOf ByteArray.empty x0 x5).toList = (rdOf ByteArray.empty x1 x5).toList then (postriderref07_SameTexts.l0 k x0 x1 (wrap64 (x5 + 1))) else (some false)) else (none)) else (none)) else (some true)
def postriderref07_SameTexts.f (k : Nat) (l0 : List ByteArray) (l1 : List ByteArray) : Option (Bool) := if (l0.length : Int) = (l1.length : Int) then (postriderref07_SameTexts.l0 k l0 l1 0) else (some false)
theorem postriderref07_SameTexts.mono_l : ∀ k, (∀ y0 y1 y2, LeO (postriderref07_SameTexts.l0 k y0 y1 y2) (postriderref07_SameTexts.l0 (k + 1) y0 y1 y2))
  | 0 => fun _ _ _ r h => by simp [postriderref07_SameTexts.l0] at h
  | k + 1 => by
    have ih0 := postriderref07_SameTexts.mono_l k
    · intro y0 y1 y2
      unfold postriderref07_SameTexts.l0
      repeat' first
      | (with_reducible exact ih0 _ _ _)
      | (with_reducible exact LeO.refl _)
      | (with_reducible exact LeO.none _)
      | (with_reducible refine LeO.ite ?_ ?_)
      | (with_reducible refine LeO.bind ?_ (fun _ => ?_))
      | exact ih0 _ _ _
      | exact LeO.none _
      | refine LeO.ite ?_ ?_
      | refine LeO.bind ?_ (fun _ => ?_)
theorem postriderref07_SameTexts.mono : ∀ a0 a1 k, LeO (postriderref07_SameTexts.f k a0 a1) (postriderref07_SameTexts.f (k + 1) a0 a1) := by
  intro a0 a1 k
  have ih0 := postriderref07_SameTexts.mono_l k
  unfold postriderref07_SameTexts.f
  repeat' first
      | (with_reducible exact ih0 _ _ _)
      | (with_reducible exact LeO.refl _)
      | (with_reducible exact LeO.none _)
      | (with_reducible refine LeO.ite ?_ ?_)
      | (with_reducible refine LeO.bind ?_ (fun _ => ?_))
      | exact ih0 _ _ _
      | exact LeO.none _
      | refine LeO.ite ?_ ?_
      | refine LeO.bind ?_ (fun _ => ?_)
set_option maxHeartbeats 8000000 in
set_option maxRecDepth 100000 in
theorem postriderref07_SameTexts.calls (k : Nat) (A0 : Option Addr) (c0 : Nat) (l0 : List ByteArray) (A1 : Option Addr) (c1 : Nat) (l1 : List ByteArray) (r : Bool) (w : World) (hr0 : Kd.C Kd.string w A0 l0.length l0) (hc0 : l0.length ≤ c0) (hr1 : Kd.C Kd.string w A1 l1.length l1) (hc1 : l1.length ≤ c1) (h : postriderref07_SameTexts.f k l0 l1 = some r) :
    Calls Tryz.prog 20 #[.slice A0 l0.length c0, .slice A1 l1.length c1] w fun e w' => e = .returned (.bool r) ∧ Drawn0 w w' := by
  have HR0 := Aside0.mk hr0
  have HC0 := Aside0.mk hc0
  clear hr0 hc0
  have HR1 := Aside0.mk hr1
  have HC1 := Aside0.mk hc1
  clear hr1 hc1
  have H : (if (l0.length : Int) = (l1.length : Int) then (postriderref07_SameTexts.l0 k l0 l1 0) else (some false)) = some r := h
  clear h
  by_cases c3 : (l0.length : Int) = (l1.length : Int)
  · rw [if_pos c3] at H
    have c3b0 : ((l0.length : Int) == (l1.length : Int)) = true := beq_iff_eq.mpr c3
    have c3b1 : ((l0.length : Int) != (l1.length : Int)) = false := bne_eq_false_iff_eq.mpr c3
    have c3b2 : (l0.length == l1.length) = true := by first | simpa using c3 | (simp at c3 ⊢; omega)
    clear c3
    have H' := Aside0.mk H
    clear H
    go_enter Tryz.func20, Tryz.ntmps20
    go_wp2
    repeat (go_quiet (fail); try go_wp2)
    go_loopg [5] k (fun kq v5 w' => ∃ (x5_1 : Int), v5 = .int .i64 x5_1 ∧ Aside0 (postriderref07_SameTexts.l0 kq l0 l1 x5_1 = some r) ∧ Aside0 (kq ≤ k) ∧ Drawn0 w w')
    case atStart => exact ⟨(0), (by first | rfl | (simp; done) | (simp [*]; done)), H', ⟨Nat.le_refl _⟩, by repeat (first | exact Drawn0.refl _ | apply Drawn0.step)⟩
    case round =>
      clear H'
      try clear c1
      try clear c2
      try clear p2
      try clear c3
      try clear c3b0
      try clear c3b1
      try clear c3b2
      obtain ⟨x5_1, rfl, HA, HK1, ⟨m1, rfl⟩⟩ := hrel
      cases gk with
      | zero => exact absurd HA.out (by simp [postriderref07_SameTexts.l0])
      | succ k1 =>
        have H := HA.out
        clear HA
        simp only [postriderref07_SameTexts.l0] at H
        by_cases c4 : x5_1 < (l0.length : Int)
        · rw [if_pos c4] at H
          have c4b0 : decide (x5_1 < (l0.length : Int)) = true := decide_eq_true c4
          clear c4
          by_cases c5 : 0 ≤ x5_1
          · rw [if_pos c5] at H
            have c5b0 : decide (0 ≤ x5_1) = true := decide_eq_true c5
            clear c5
            by_cases c6 : x5_1 < (l1.length : Int)
            · rw [if_pos c6] at H
              have c6b0 : decide (x5_1 < (l1.length : Int)) = true := decide_eq_true c6
              clear c6
              by_cases c7 : (rdOf ByteArray.empty l0 x5_1).toList = (rdOf ByteArray.empty l1 x5_1).toList
              · rw [if_pos c7] at H
                have c7b0 : ((rdOf ByteArray.empty l0 x5_1).toList == (rdOf ByteArray.empty l1 x5_1).toList) = true := beq_iff_eq.mpr c7
                have c7b1 : ((rdOf ByteArray.empty l0 x5_1).toList != (rdOf ByteArray.empty l1 x5_1).toList) = false := bne_eq_false_iff_eq.mpr c7
                clear c7
                have H' := Aside0.mk H
                clear H
                have p115 : 0 ≤ (x5_1 : Int) := of_decide_eq_true (by first | (with_reducible assumption) | assumption)
                have q115 : x5_1 < (l0.length : Int) := of_decide_eq_true (by first | (with_reducible assumption) | assumption)
                obtain ⟨ad115, e115, hx115_0⟩ := Kd.at_string HR0.out x5_1 p115 q115
                cases e115
                replace p115 := eq_true p115
                replace q115 := eq_true q115
                have p116 : 0 ≤ (x5_1 : Int) := of_decide_eq_true (by first | (with_reducible assumption) | assumption)
                have q116 : x5_1 < (l1.length : Int) := of_decide_eq_true (by first | (with_reducible assumption) | assumption)
                obtain ⟨ad116, e116, hx116_0⟩ := Kd.at_string HR1.out x5_1 p116 q116
                cases e116
                replace p116 := eq_true p116
                replace q116 := eq_true q116
                go_wp2
                repeat (go_quiet (fail); try go_wp2)
                go_roundg k1
                case measure => have := HK1.out; omega
                case rel => exact ⟨(wrap64 (x5_1 + 1)), (by first | rfl | (simp; done) | (simp [*]; done)), H', ⟨by have := HK1.out; omega⟩, by repeat (first | exact Drawn0.refl _ | apply Drawn0.step)⟩
              · rw [if_neg c7] at H
                have c7b0 : ((rdOf ByteArray.empty l0 x5_1).toList == (rdOf ByteArray.empty l1 x5_1).toList) = false := beq_eq_false_iff_ne.mpr c7
                have c7b1 : ((rdOf ByteArray.empty l0 x5_1).toList != (rdOf ByteArray.empty l1 x5_1).toList) = true := bne_iff_ne.mpr c7
                obtain rfl := Option.some.inj H
                have p115 : 0 ≤ (x5_1 : Int) := of_decide_eq_true (by first | (with_reducible assumption) | assumption)
                have q115 : x5_1 < (l0.length : Int) := of_decide_eq_true (by first | (with_reducible assumption) | assumption)
                obtain ⟨ad115, e115, hx115_0⟩ := Kd.at_string HR0.out x5_1 p115 q115
                cases e115
                replace p115 := eq_true p115
                replace q115 := eq_true q115
                have p116 : 0 ≤ (x5_1 : Int) := of_decide_eq_true (by first | (with_reducible assumption) | assumption)
                have q116 : x5_1 < (l1.length : Int) := of_decide_eq_true (by first | (with_reducible assumption) | assumption)
                obtain ⟨ad116, e116, hx116_0⟩ := Kd.at_string HR1.out x5_1 p116 q116
                cases e116
                replace p116 := eq_true p116
                replace q116 := eq_true q116
                go_wp2
                repeat (go_quiet (fail); try go_wp2)
                all_goals (first | (go_ret; exact ⟨by first | rfl | (simp; done) | (simp [*]; done) | (simp_all; done), by repeat (first | exact Drawn0.refl _ | apply Drawn0.step)⟩) | (exfalso; simp_all; done))
            · rw [if_neg c6] at H
              exact absurd H (by simp)
          · rw [if_neg c5] at H
            exact absurd H (by simp)
        · rw [if_neg c4] at H
          have c4b0 : decide (x5_1 < (l0.length : Int)) = false := decide_eq_false c4
          clear c4
          obtain rfl := Option.some.inj H
          go_wp2
          repeat (go_quiet (fail); try go_wp2)
          all_goals (first | (go_ret; exact ⟨by first | rfl | (simp; done) | (simp [*]; done) | (simp_all; done), by repeat (first | exact Drawn0.refl _ | apply Drawn0.step)⟩) | (exfalso; simp_all; done))
  · rw [if_neg c3] at H
    have c3b0 : ((l0.length : Int) == (l1.length : Int)) = false := beq_eq_false_iff_ne.mpr c3
    have c3b1 : ((l0.length : Int) != (l1.length : Int)) = true := bne_iff_ne.mpr c3
    have c3b2 : (l0.length == l1.length) = false := by first | simpa using c3 | (simp at c3 ⊢; omega)
    obtain rfl := Option.some.inj H
    go_enter Tryz.func20, Tryz.ntmps20
    go_wp2
    repeat (go_quiet (fail); try go_wp2)
    all_goals (first | (go_ret; exact ⟨by first | rfl | (simp; done) | (simp [*]; done) | (simp_all; done), by repeat (first | exact Drawn0.refl _ | apply Drawn0.step)⟩) | (exfalso; simp_all; done))
def postriderref02_Ints.l0 : Nat → List Int → List Int → Int → Option (Bool)
  | 0, _, _, _ => none
  | k + 1, x0, x1, x5 => if x5 < (x0.length : Int) then (if 0 ≤ x5 then (if x5 < (x1.length : Int) then (if (rd x0 x5) = (rd x1 x5) then (postriderref02_Ints.l0 k x0 x1 (wrap64 (x5 + 1))) else (some false)) else (none)) else (none)) else (some true)
def postriderref02_Ints.f (k : Nat) (l0 : List Int) (l1 : List Int) : Option (Bool) := if (l0.length : Int) = (l1.length : Int) then (postriderref02_Ints.l0 k l0 l1 0) else (some false)
theorem postriderref02_Ints.mono_l : ∀ k, (∀ y0 y1 y2, LeO (postriderref02_Ints.l0 k y0 y1 y2) (postriderref02_Ints.l0 (k + 1) y0 y1 y2))
  | 0 => fun _ _ _ r h => by simp [postriderref02_Ints.l0] at h
  | k + 1 => by
    have ih0 := postriderref02_Ints.mono_l k
    · intro y0 y1 y2
      unfold postriderref02_Ints.l0
      repeat' first
      | (with_reducible exact ih0 _ _ _)
      | (with_reducible exact LeO.refl _)
      | (with_reducible exact LeO.none _)
      | (with_reducible refine LeO.ite ?_ ?_)
      | (with_reducible refine LeO.bind ?_ (fun _ => ?_))
      | exact ih0 _ _ _
      | exact LeO.none _
      | refine LeO.ite ?_ ?_
      | refine LeO.bind ?_ (fun _ => ?_)
theorem postriderref02_Ints.mono : ∀ a0 a1 k, LeO (postriderref02_Ints.f k a0 a1) (postriderref02_Ints.f (k + 1) a0 a1) := by
  intro a0 a1 k
  have ih0 := postriderref02_Ints.mono_l k
  unfold postriderref02_Ints.f
  repeat' first
      | (with_reducible exact ih0 _ _ _)
      | (with_reducible exact LeO.refl _)
      | (with_reducible exact LeO.none _)
      | (with_reducible refine LeO.ite ?_ ?_)
      | (with_reducible refine LeO.bind ?_ (fun _ => ?_))
      | exact ih0 _ _ _
      | exact LeO.none _
      | refine LeO.ite ?_ ?_
      | refine LeO.bind ?_ (fun _ => ?_)
set_option maxHeartbeats 8000000 in
set_option maxRecDepth 100000 in
theorem postriderref02_Ints.calls (k : Nat) (A0 : Option Addr) (c0 : Nat) (l0 : List Int) (A1 : Option Addr) (c1 : Nat) (l1 : List Int) (r : Bool) (w : World) (hr0 : Kd.C (Kd.int .i64) w A0 l0.length l0) (hc0 : l0.length ≤ c0) (hr1 : Kd.C (Kd.int .i64) w A1 l1.length l1) (hc1 : l1.length ≤ c1) (h : postriderref02_Ints.f k l0 l1 = some r) :
    Calls Tryz.prog 18 #[.slice A0 l0.length c0, .slice A1 l1.length c1] w fun e w' => e = .returned (.bool r) ∧ Drawn0 w w' := by
  have HR0 := Aside0.mk hr0
  have HC0 := Aside0.mk hc0
  clear hr0 hc0
  have HR1 := Aside0.mk hr1
  have HC1 := Aside0.mk hc1
  clear hr1 hc1
  have H : (if (l0.length : Int) = (l1.length : Int) then (postriderref02_Ints.l0 k l0 l1 0) else (some false)) = some r := h
  clear h
  by_cases c3 : (l0.length : Int) = (l1.length : Int)
  · rw [if_pos c3] at H
    have c3b0 : ((l0.length : Int) == (l1.length : Int)) = true := beq_iff_eq.mpr c3
    have c3b1 : ((l0.length : Int) != (l1.length : Int)) = false := bne_eq_false_iff_eq.mpr c3
    have c3b2 : (l0.length == l1.length) = true := by first | simpa using c3 | (simp at c3 ⊢; omega)
    clear c3
    have H' := Aside0.mk H
    clear H
    go_enter Tryz.func18, Tryz.ntmps18
    go_wp2
    repeat (go_quiet (fail); try go_wp2)
    go_loopg [5] k (fun kq v5 w' => ∃ (x5_1 : Int), v5 = .int .i64 x5_1 ∧ Aside0 (postriderref02_Ints.l0 kq l0 l1 x5_1 = some r) ∧ Aside0 (kq ≤ k) ∧ Drawn0 w w')
    case atStart => exact ⟨(0), (by first | rfl | (simp; done) | (simp [*]; done)), H', ⟨Nat.le_refl _⟩, by repeat (first | exact Drawn0.refl _ | apply Drawn0.step)⟩
    case round =>
      clear H'
      try clear c1
      try clear p2
      try clear c3
      try clear c3b0
      try clear c3b1
      try clear c3b2
      obtain ⟨x5_1, rfl, HA, HK1, ⟨m1, rfl⟩⟩ := hrel
      cases gk with
      | zero => exact absurd HA.out (by simp [postriderref02_Ints.l0])
      | succ k1 =>
        have H := HA.out
        clear HA
        simp only [postriderref02_Ints.l0] at H
        by_cases c4 : x5_1 < (l0.length : Int)
        · rw [if_pos c4] at H
          have c4b0 : decide (x5_1 < (l0.length : Int)) = true := decide_eq_true c4
          clear c4
          by_cases c5 : 0 ≤ x5_1
          · rw [if_pos c5] at H
            have c5b0 : decide (0 ≤ x5_1) = true := decide_eq_true c5
            clear c5
            by_cases c6 : x5_1 < (l1.length : Int)
            · rw [if_pos c6] at H
              have c6b0 : decide (x5_1 < (l1.length : Int)) = true := decide_eq_true c6
              clear c6
              by_cases c7 : (rd l0 x5_1) = (rd l1 x5_1)
              · rw [if_pos c7] at H
                have c7b0 : ((rd l0 x5_1) == (rd l1 x5_1)) = true := beq_iff_eq.mpr c7
                have c7b1 : ((rd l0 x5_1) != (rd l1 x5_1)) = false := bne_eq_false_iff_eq.mpr c7
                clear c7
                have H' := Aside0.mk H
                clear H
                have p117 : 0 ≤ (x5_1 : Int) := of_decide_eq_true (by first | (with_reducible assumption) | assumption)
                have q117 : x5_1 < (l0.length : Int) := of_decide_eq_true (by first | (with_reducible assumption) | assumption)
                obtain ⟨ad117, e117, hx117_0⟩ := Kd.at_int HR0.out x5_1 p117 q117
                cases e117
                replace p117 := eq_true p117
                replace q117 := eq_true q117
                have p118 : 0 ≤ (x5_1 : Int) := of_decide_eq_true (by first | (with_reducible assumption) | assumption)
                have q118 : x5_1 < (l1.length : Int) := of_decide_eq_true (by first | (with_reducible assumption) | assumption)
                obtain ⟨ad118, e118, hx118_0⟩ := Kd.at_int HR1.out x5_1 p118 q118
                cases e118
                replace p118 := eq_true p118
                replace q118 := eq_true q118
                go_wp2
                repeat (go_quiet (fail); try go_wp2)
                go_roundg k1
                case measure => have := HK1.out; omega
                case rel => exact ⟨(wrap64 (x5_1 + 1)), (by first | rfl | (simp; done) | (simp [*]; done)), H', ⟨by have := HK1.out; omega⟩, by repeat (first | exact Drawn0.refl _ | apply Drawn0.step)⟩
              · rw [if_neg c7] at H
                have c7b0 : ((rd l0 x5_1) == (rd l1 x5_1)) = false := beq_eq_false_iff_ne.mpr c7
                have c7b1 : ((rd l0 x5_1) != (rd l1 x5_1)) = true := bne_iff_ne.mpr c7
                obtain rfl := Option.some.inj H
                have p117 : 0 ≤ (x5_1 : Int) := of_decide_eq_true (by first | (with_reducible assumption) | assumption)
                have q117 : x5_1 < (l0.length : Int) := of_decide_eq_true (by first | (with_reducible assumption) | assumption)
                obtain ⟨ad117, e117, hx117_0⟩ := Kd.at_int HR0.out x5_1 p117 q117
                cases e117
                replace p117 := eq_true p117
                replace q117 := eq_true q117
                have p118 : 0 ≤ (x5_1 : Int) := of_decide_eq_true (by first | (with_reducible assumption) | assumption)
                have q118 : x5_1 < (l1.length : Int) := of_decide_eq_true (by first | (with_reducible assumption) | assumption)
                obtain ⟨ad118, e118, hx118_0⟩ := Kd.at_int HR1.out x5_1 p118 q118
                cases e118
                replace p118 := eq_true p118
                replace q118 := eq_true q118
                go_wp2
                repeat (go_quiet (fail); try go_wp2)
                all_goals (first | (go_ret; exact ⟨by first | rfl | (simp; done) | (simp [*]; done) | (simp_all; done), by repeat (first | exact Drawn0.refl _ | apply Drawn0.step)⟩) | (exfalso; simp_all; done))
            · rw [if_neg c6] at H
              exact absurd H (by simp)
          · rw [if_neg c5] at H
            exact absurd H (by simp)
        · rw [if_neg c4] at H
          have c4b0 : decide (x5_1 < (l0.length : Int)) = false := decide_eq_false c4
          clear c4
          obtain rfl := Option.some.inj H
          go_wp2
          repeat (go_quiet (fail); try go_wp2)
          all_goals (first | (go_ret; exact ⟨by first | rfl | (simp; done) | (simp [*]; done) | (simp_all; done), by repeat (first | exact Drawn0.refl _ | apply Drawn0.step)⟩) | (exfalso; simp_all; done))
  · rw [if_neg c3] at H
    have c3b0 : ((l0.length : Int) == (l1.length : Int)) = false := beq_eq_false_iff_ne.mpr c3
    have c3b1 : ((l0.length : Int) != (l1.length : Int)) = true := bne_iff_ne.mpr c3
    have c3b2 : (l0.length == l1.length) = false := by first | simpa using c3 | (simp at c3 ⊢; omega)
    obtain rfl := Option.some.inj H
    go_enter Tryz.func18, Tryz.ntmps18
    go_wp2
    repeat (go_quiet (fail); try go_wp2)
    all_goals (first | (go_ret; exact ⟨by first | rfl | (simp; done) | (simp [*]; done) | (simp_all; done), by repeat (first | exact Drawn0.refl _ | apply Drawn0.step)⟩) | (exfalso; simp_all; done))
end Go.Proofs.YtbjbicaffblchaaGreatDoor.SK
end

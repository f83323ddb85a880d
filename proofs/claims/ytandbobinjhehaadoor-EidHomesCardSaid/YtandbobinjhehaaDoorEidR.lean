/- Layer 6: from the given rows to the walks: what the listed variables give, the arguments opened and read again, a start that meets the list. -/
import Derived.Test.YtandbobinjhehaaDoorCards
import Derived.Test.YtandbobinjhehaaDoorTie
import Derived.Test.YtandbobinjhehaaDoorEidM
import Derived.ProofKit
import Derived.OpenShut
import Derived.LaidMore
import Derived.MakeChecks
import Derived.Stop.LaidErr
import Derived.Deep.DeepHandedRow
import Derived.Deep.DeepWitnessRowRef
import Derived.Lib.LaidTab
import Derived.Lib.SmallJoins
namespace Go.Proofs.YtandbobinjhehaaDoor.Hand
open Go.ChangeShapes Go.WideShapes Go.ChangeAt Go.RowKit

theorem own : ownKnob Tryd.prog.godebug = none := by kernel_rfl
abbrev laid5 : List (String × DataW Unit) := [("math/bits.deBruijn32tab", Rows.laid_math_bits_deBruijn32tab), ("math/bits.deBruijn64tab", Rows.laid_math_bits_deBruijn64tab), ("internal/strconv.uint64pow10", Rows.laid_internal_strconv_uint64pow10), ("strconv.ErrRange", Rows.laid_strconv_ErrRange), ("strconv.ErrSyntax", Rows.laid_strconv_ErrSyntax)]

theorem gErrRange : Tryd.prog.globalNamed "strconv.ErrRange" = some 3 := by kernel_rfl
theorem gErrSyntax : Tryd.prog.globalNamed "strconv.ErrSyntax" = some 2 := by kernel_rfl
theorem tyTab : (Tryd.prog.globals[1]?).map (·.type) = some 95 := by kernel_rfl
theorem tyRange : (Tryd.prog.globals[3]?).map (·.type) = some 68 := by kernel_rfl
theorem tySyntax : (Tryd.prog.globals[2]?).map (·.type) = some 68 := by kernel_rfl

theorem star : "*errors.errorString" = "*" ++ "errors.errorString" := by decide
theorem name_row (u : TypeId) (h : Tryd.prog.typeName? 3 u = some "*errors.errorString") : u = 108 :=
  typeName_ptr_named (nm := "errors.errorString") (by rw [← star]; kernel_rfl) (by kernel_rfl) (by decide) u (by rw [← star]; exact h)

theorem laid_of {W : World} (h : laidMetH Tryd.prog laid5 W) (hsh : W.ShapedOpen Tryd.prog) : Laid W := by
  rw [MakeChecks.laidMetH_plain _ _ _ (by kernel_rfl)] at h
  have h2 := h.tail.tail
  have h3 := h2.tail
  have h4 := h3.tail
  obtain ⟨a3, s3, hv3, _⟩ := laid_sentinel h3 gErrRange tyRange Tryd.underlying68 name_row Tryd.underlying108 Tryd.underlying110 rfl rfl Tryd.underlying9 (by kernel_rfl) (by kernel_rfl)
  obtain ⟨a4, s4, hv4, _⟩ := laid_sentinel h4 gErrSyntax tySyntax Tryd.underlying68 name_row Tryd.underlying108 Tryd.underlying110 rfl rfl Tryd.underlying9 (by kernel_rfl) (by kernel_rfl)
  exact {
    max := cell_of_shapedOpen_int (zero := #[.int .i64 0]) (t := 3) hsh (of_decide_eq_true (by kernel_rfl)) (by kernel_rfl) rfl (by kernel_rfl) (by kernel_rfl) Tryd.underlying3
    tab := Lib.tabIs_of_head gTab tyTab Tryd.underlying95 Tryd.underlying79 (by kernel_rfl) (by kernel_rfl) h2
    syn := ⟨_, _, World.var?_cell gErrSyntax hv4 0⟩
    rng := ⟨_, _, World.var?_cell gErrRange hv3 0⟩ }

/-- A START FOR THE WITNESS: the heap that the door's own run leaves. -/
theorem door_met (os : Os) (args : Array Value) : laidMetH Tryd.prog laid5 ((World.doorLaid Tryd.prog 400 os).forCall (fun _ _ => 0) ⟨#[], args, []⟩).memory :=
  laidMetH_of_parts3 (fuel := 8) (laidMet_of_run' 8 (by kernel_rfl) (by kernel_rfl)) (by kernel_rfl) (by kernel_rfl)

section
variable {H : Type} {enc : TypeId × Value → H} {W : World} {base : Nat} {spare : Nat → Bool} {held : Bool}

theorem arr5 {cs : Array Value} (h : cs.size = 5) : ∃ c0 c1 c2 c3 c4, cs = #[c0, c1, c2, c3, c4] := by
  obtain ⟨l⟩ := cs
  match l, h with
  | [c0, c1, c2, c3, c4], _ => exact ⟨c0, c1, c2, c3, c4, rfl⟩

theorem cellsEid : Tryd.prog.cellsOf 23 = 5 := by kernel_rfl
theorem cellsStr : Tryd.prog.cellsOf 9 = 1 := by kernel_rfl
theorem cellsInt : Tryd.prog.cellsOf 3 = 1 := by kernel_rfl

set_option maxRecDepth 100000 in
/-- A name reads alike in every world. -/
theorem shut_eid (n : Int) (a1 a2 : ByteArray) (a3 a4 : Int) (w0 : (Lit.int .i64 n).wf = true) (s1 : a1.size ≤ maxLen) (s2 : a2.size ≤ maxLen) (w3 : (Lit.int .i64 a3).wf = true) (w4 : (Lit.int .i64 a4).wf = true) :
    DataW.Trod enc Tryd.prog W base spare held 23 (.agg #[.int .i64 n, .string a1, .string a2, .int .i64 a3, .int .i64 a4])
      (.agg [.lit (.int .i64 n), .lit (.string a1.data.toList), .lit (.string a2.data.toList), .lit (.int .i64 a3), .lit (.int .i64 a4)]) [] := by
  refine ⟨2, ?_⟩
  simp [DataW.trod, Value.cells, Tryd.underlying23, Tryd.underlying3, Tryd.underlying9, cellsEid, cellsStr, cellsInt, w0, s1, s2, w3, w4]

set_option maxRecDepth 100000 in
theorem open_eid {r : Reach} {b0 : Nat} {v : Value} {d : DataW H} {p : List MemPlace} (hv : Value.okWide Tryd.prog W r b0 23 v) (h : DataW.Trod enc Tryd.prog W base spare held 23 v d p) :
    ∃ (n : Int) (a1 a2 : ByteArray) (a3 a4 : Int), v = .agg #[.int .i64 n, .string a1, .string a2, .int .i64 a3, .int .i64 a4] ∧
      d = .agg [.lit (.int .i64 n), .lit (.string a1.data.toList), .lit (.string a2.data.toList), .lit (.int .i64 a3), .lit (.int .i64 a4)] ∧ p = [] ∧
      (Lit.int .i64 n).wf = true ∧ a1.size ≤ maxLen ∧ a2.size ≤ maxLen ∧ (Lit.int .i64 a3).wf = true ∧ (Lit.int .i64 a4).wf = true := by
  obtain ⟨cs, rfl, hsz⟩ := okWide_struct Tryd.underlying23 hv
  obtain ⟨c0, c1, c2, c3, c4, rfl⟩ := arr5 (hsz.trans cellsEid)
  obtain ⟨fuel, hf⟩ := h
  obtain ⟨xs, n, _, hx, hl, hlen, hg⟩ := DataW.trod_struct Tryd.underlying23 hf
  match xs, hlen with
  | [y0, y1, y2, y3, y4], _ =>
    simp only [Prod.mk.injEq] at hx
    obtain ⟨hd, hp⟩ := hx
    have g0 : DataW.trod enc Tryd.prog W base spare held n 3 [c0] = some y0 := by have := hg 0 _ rfl; simpa [Value.cells, cellsInt, cellsStr] using this
    have g1 : DataW.trod enc Tryd.prog W base spare held n 9 [c1] = some y1 := by have := hg 1 _ rfl; simpa [Value.cells, cellsInt, cellsStr] using this
    have g2 : DataW.trod enc Tryd.prog W base spare held n 9 [c2] = some y2 := by have := hg 2 _ rfl; simpa [Value.cells, cellsInt, cellsStr] using this
    have g3 : DataW.trod enc Tryd.prog W base spare held n 3 [c3] = some y3 := by have := hg 3 _ rfl; simpa [Value.cells, cellsInt, cellsStr] using this
    have g4 : DataW.trod enc Tryd.prog W base spare held n 3 [c4] = some y4 := by have := hg 4 _ rfl; simpa [Value.cells, cellsInt, cellsStr] using this
    obtain ⟨m0, e0, x0, w0⟩ := DataW.trod_int Tryd.underlying3 g0
    obtain ⟨m1, e1, x1, w1⟩ := DataW.trod_string Tryd.underlying9 g1
    obtain ⟨m2, e2, x2, w2⟩ := DataW.trod_string Tryd.underlying9 g2
    obtain ⟨m3, e3, x3, w3⟩ := DataW.trod_int Tryd.underlying3 g3
    obtain ⟨m4, e4, x4, w4⟩ := DataW.trod_int Tryd.underlying3 g4
    simp only [List.cons.injEq, and_true] at e0 e1 e2 e3 e4
    subst e0 e1 e2 e3 e4 x0 x1 x2 x3 x4
    exact ⟨m0, m1, m2, m3, m4, rfl, by rw [hd]; rfl, by rw [hp]; rfl, w0, w1, w2, w3, w4⟩

/-- Where the arguments hold no memory, and the call writes none that was there. -/
theorem post_plain {f : Func} {s : ChangeSpec} {W' : World} {args : Array Value} {v : Value} {ds : List (DataW H)} (hs : s.vars = [])
    (hW : DataW.Whole enc Tryd.prog f.params.toList s.vars false W args.toList ds [] [])
    (hres : ∀ (b : Nat) (sp : Nat → Bool), DataW.TrodAll enc Tryd.prog W' b sp false f.resultTypes.toList (v.resultList f.resultTypes.size) (s.fn H (ds ++ [])).results [])
    (hargs : ∀ sp : Nat → Bool, DataW.TrodAll enc Tryd.prog W' 0 sp true f.params.toList args.toList (s.fn H (ds ++ [])).args [])
    (hvars : (s.fn H (ds ++ [])).vars = []) (hb : Below W.heap.size W W') : s.post enc Tryd.prog f false true false false W args v W' := by
  refine ⟨ds, [], [], [], [], [], hW, hres _ _, hargs _, ?_, hb.frame _, fun h => by cases h⟩
  rw [hvars, hs]
  exact rfl
end

end Go.Proofs.YtandbobinjhehaaDoor.Hand

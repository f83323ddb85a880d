/- Layer 6, by hand: the schemes' map. -/
import Derived.Test.YtandbobinjhehaaDoorEidA
import Derived.Test.YtandbobinjhehaaDoorMaps
import Derived.Test.YtandbobinjhehaaDoorSAx2
import Derived.Outline
import Derived.Carry
namespace Go.Proofs.YtandbobinjhehaaDoor.Hand
open Go.RowKit Go.Proofs.YtandbobinjhehaaDoor.SA

def sch0 : Value := .agg #[.string ⟨#[100, 116, 110]⟩, .func (.func 33) #[] #[], .func (.func 34) #[] #[], .func (.func 35) #[] #[]]
def sch1 : Value := .agg #[.string ⟨#[100, 116, 110]⟩, .func (.func 36) #[] #[], .func (.func 37) #[] #[], .func (.func 38) #[] #[]]
def sch2 : Value := .agg #[.string ⟨#[105, 112, 110]⟩, .func (.func 39) #[] #[], .func (.func 40) #[] #[], .func (.func 42) #[] #[]]
def schs : Array MapEntry := #[⟨.int .i64 0, sch0, 0⟩, ⟨.int .i64 1, sch1, 1⟩, ⟨.int .i64 2, sch2, 2⟩]

def MT : TypeId := 44

theorem store_alloc (w : World) (es : Array MapEntry) (clock : Nat) (n : Int) (v : Value) (h : Instr.findNow (.int .i64) (.int .i64 n) es.toList 0 = some none) :
    (Instr.mapUpdate 44 (.map (some w.heap.size)) (.int .i64 n) v).run Tryd.prog (w.alloc (.map es clock)) = .ok () (w.alloc (.map (es.push ⟨.int .i64 n, v, clock⟩) (clock + 1))) := by
  rw [run_mapUpdate_miss (w.alloc (.map es clock)) w.heap.size es clock _ _ _ _ (.int .i64 n) v Tryd.underlying44 Tryd.underlying3 (fun e W => run_checkKey_int W _ _ Tryd.underlying3 e _ _) (World.alloc_heap_new _ _) h, putObj_alloc]

set_option maxRecDepth 100000 in
theorem schemes_calls (w : World) :
    Calls Tryd.prog 23 #[] w fun e w' => e = .returned (.map (some w.heap.size)) ∧ w.alloc (.map schs 3) = w' := by
  have hmm := @run_makeMap Tryd.prog
  have h0 := store_alloc w #[] 0 0 sch0 rfl
  have h1 := store_alloc w #[⟨.int .i64 0, sch0, 0⟩] 1 1 sch1 rfl
  have h2 := store_alloc w #[⟨.int .i64 0, sch0, 0⟩, ⟨.int .i64 1, sch1, 1⟩] 2 2 sch2 rfl
  simp only [List.push_toArray, List.nil_append, List.cons_append, Nat.reduceAdd] at h0 h1 h2
  simp only [sch0, sch1, sch2] at h0 h1 h2
  go_enter Tryd.func23, Tryd.ntmps23
  go_wp2
  go_ret
  exact ⟨rfl, rfl⟩

end Go.Proofs.YtandbobinjhehaaDoor.Hand

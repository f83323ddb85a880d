/- Maps whose entries are written out: what a look-up and a store do to them, whatever the program. -/
import Derived.Test.YtandbobinjhehaaDoorBase
import Derived.RangeFuncRecord
namespace Go.Proofs.YtandbobinjhehaaDoor.Hand
open Go.RowKit Go.Instr
variable {P : Program}

theorem run_checkKey_int' (m : Nat) (W : World) (K : TypeId) (k : IntKind) (hK : P.underlying K = some (.int k)) (e : Bool) (j : IntKind) (n : Int) : (checkKey e (m + 1) K (.int j n)).run P W = .ok () W := by
  simp only [checkKey, Sem.run_bind, run_underlying hK, Result.andThen_ok, Sem.run_pure]
theorem run_checkKey_int (W : World) (K : TypeId) (k : IntKind) (hK : P.underlying K = some (.int k)) (e : Bool) (j : IntKind) (n : Int) : (checkKey e 10000 K (.int j n)).run P W = .ok () W := run_checkKey_int' 9999 W K k hK e j n
theorem run_checkKey_string' (m : Nat) (W : World) (K : TypeId) (hK : P.underlying K = some .string) (e : Bool) (s : ByteArray) : (checkKey e (m + 1) K (.string s)).run P W = .ok () W := by
  simp only [checkKey, Sem.run_bind, run_underlying hK, Result.andThen_ok, Sem.run_pure]
theorem run_checkKey_string (W : World) (K : TypeId) (hK : P.underlying K = some .string) (e : Bool) (s : ByteArray) : (checkKey e 10000 K (.string s)).run P W = .ok () W := run_checkKey_string' 9999 W K hK e s

theorem run_lookup_hit (W : World) (b : Nat) (es : Array MapEntry) (clock : Nat) (T K E : TypeId) (kd : TypeDesc) (kv v : Value) (i : Nat) (ok : Bool) (hT : P.underlying T = some (.map K E)) (hK : P.underlying K = some kd)
    (hc : ∀ e W, (checkKey e 10000 K kv).run P W = .ok () W) (hb : W.heap[b]? = some (.map es clock)) (h : findNow kd kv es.toList 0 = some (some (i, v))) :
    (Instr.lookup T (.map (some b)) kv ok).run P W = .ok (if ok then .tuple #[v, .bool true] else v) W := by
  have hg : (getObj b).run P W = .ok (.map es clock) W := by simp [getObj, Sem.run, hb]
  simp only [Instr.lookup, Sem.run_bind, run_underlying hT, Result.andThen_ok, Sem.run_pure, hg, hc, findKey, run_underlying hK, h]

theorem run_lookup_miss (W : World) (b : Nat) (es : Array MapEntry) (clock : Nat) (T K E : TypeId) (kd : TypeDesc) (kv z : Value) (ok : Bool) (hT : P.underlying T = some (.map K E)) (hK : P.underlying K = some kd)
    (hc : ∀ e W, (checkKey e 10000 K kv).run P W = .ok () W) (hb : W.heap[b]? = some (.map es clock)) (hz : ∀ W, (zeroValue E).run P W = .ok z W) (h : findNow kd kv es.toList 0 = some none) :
    (Instr.lookup T (.map (some b)) kv ok).run P W = .ok (if ok then .tuple #[z, .bool false] else z) W := by
  have hg : (getObj b).run P W = .ok (.map es clock) W := by simp [getObj, Sem.run, hb]
  simp only [Instr.lookup, Sem.run_bind, run_underlying hT, Result.andThen_ok, Sem.run_pure, hg, hc, findKey, run_underlying hK, h, hz]

theorem run_mapUpdate_miss (W : World) (b : Nat) (es : Array MapEntry) (clock : Nat) (T K E : TypeId) (kd : TypeDesc) (kv v : Value) (hT : P.underlying T = some (.map K E)) (hK : P.underlying K = some kd)
    (hc : ∀ e W, (checkKey e 10000 K kv).run P W = .ok () W) (hb : W.heap[b]? = some (.map es clock)) (h : findNow kd kv es.toList 0 = some none) :
    (Instr.mapUpdate T (.map (some b)) kv v).run P W = .ok () (W.putObj b (.map (es.push { key := kv, val := v, born := clock }) (clock + 1))) := by
  have hg : (getObj b).run P W = .ok (.map es clock) W := by simp [getObj, Sem.run, hb]
  simp only [Instr.mapUpdate, Sem.run_bind, run_underlying hT, Result.andThen_ok, Sem.run_pure, hg, hc, findKey, run_underlying hK, h]
  simp only [setObj, Sem.run, hb]
  rfl

theorem putObj_alloc (W : World) (o o' : Obj) : (W.alloc o).putObj W.heap.size o' = W.alloc o' := by
  have h : (W.heap.push o).setIfInBounds W.heap.size o' = W.heap.push o' := by
    apply Array.ext
    · simp
    · intro i h1 h2
      rw [Array.getElem_setIfInBounds (by simpa using h1), Array.getElem_push, Array.getElem_push]
      by_cases hi : W.heap.size = i
      · subst hi; simp
      · rw [if_neg hi]
        have : i < W.heap.size := by simp at h1; omega
        simp [this]
  show { (W.alloc o) with heap := (W.heap.push o).setIfInBounds W.heap.size o' } = W.alloc o'
  rw [h]
  rfl

end Go.Proofs.YtandbobinjhehaaDoor.Hand

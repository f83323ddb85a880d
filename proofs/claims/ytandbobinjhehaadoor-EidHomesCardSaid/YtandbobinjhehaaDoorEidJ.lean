/- Layer 6, by hand: eid.Join in the print's form. -/
import Derived.Test.YtandbobinjhehaaDoorEidI
namespace Go.Proofs.YtandbobinjhehaaDoor.Hand
open Go.RowKit

theorem Laid.size {w : World} (h : Laid w) : 3 < w.heap.size := by
  obtain ⟨_, _, _, ⟨_, _, h2⟩⟩ := h
  have := World.block_lt_of_cell? w _ h2
  exact Nat.lt_of_le_of_lt (by decide) this

/-- The name of two texts, told of its parts, and the error. -/
def joinT (a0 a1 : ByteArray) : Int × ByteArray × ByteArray × Int × Int × Int :=
  match joinS a0 a1 with
  | some x => (x.s, x.n, x.v, x.a, x.b, 0)
  | none => (0, ⟨#[]⟩, ⟨#[]⟩, 0, 0, 60)

def eid_Join.f (a0 a1 : ByteArray) : Option (Int × ByteArray × ByteArray × Int × Int × Int) := if a1.size < 4294967281 then some (joinT a0 a1) else none

theorem eid_Join.calls (a0 a1 : ByteArray) (r1 : Int) (r2 r3 : ByteArray) (r4 r5 r6 : Int) (w : World) (hLd : Laid w) (h : eid_Join.f a0 a1 = some (r1, r2, r3, r4, r5, r6)) :
    Calls Tryd.prog 13 #[.string a0, .string a1] w fun e w' => e = .returned (.tuple #[.agg #[.int .i64 r1, .string r2, .string r3, .int .i64 r4, .int .i64 r5], .int .i64 r6]) ∧ Below w.heap.size w w' := by
  unfold eid_Join.f at h
  split at h
  case isFalse => cases h
  rename_i hs
  obtain h := Option.some.inj h
  refine (join_walk a0 a1 w hLd hs hLd.size).mono fun e w' he => ⟨?_, he.2⟩
  rw [he.1]
  unfold joinT at h
  cases hj : joinS a0 a1 with
  | none =>
    rw [hj] at h
    simp only [Prod.mk.injEq] at h
    obtain ⟨rfl, rfl, rfl, rfl, rfl, rfl⟩ := h
    rfl
  | some x =>
    rw [hj] at h
    simp only [Prod.mk.injEq] at h
    obtain ⟨rfl, rfl, rfl, rfl, rfl, rfl⟩ := h
    rfl

end Go.Proofs.YtandbobinjhehaaDoor.Hand

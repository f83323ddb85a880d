/- What the package-level variables hold that the library's functions read, and the library's contracts in one form. -/
import Derived.Test.YtandbobinjhehaaDoorBase
import Derived.Test.YtandbobinjhehaaDoorShelf
import Derived.Test.YtandbobinjhehaaDoorWWords
import Derived.WalkSmall
import Derived.Lib.ItoaLen
namespace Go.Proofs.YtandbobinjhehaaDoor.Hand
open Go.RowKit

structure Laid (w : World) : Prop where
  max : ∃ m, w.cell? ⟨0, 0, none⟩ = some (.int .i64 m)
  tab : Lib.TabIs Tryd.prog w "internal/strconv.uint64pow10" .u64 Lib.pow10Tab
  syn : ∃ te pe, w.cell? ⟨2, 0, none⟩ = some (.iface te pe)
  rng : ∃ te pe, w.cell? ⟨3, 0, none⟩ = some (.iface te pe)

theorem gTab : Tryd.prog.globalNamed "internal/strconv.uint64pow10" = some 1 := by kernel_rfl

theorem cell_keep {w w' : World} (hb : Below w.heap.size w w') {a : Addr} {v : Value} (hc : w.cell? a = some v) : w'.cell? a = some v := (hb.cell (World.block_lt_of_cell? w a hc)).trans hc

theorem Laid.below {w w' : World} (h : Laid w) (hb : Below w.heap.size w w') : Laid w' := by
  obtain ⟨⟨m, hm⟩, ht, ⟨t1, p1, h1⟩, ⟨t2, p2, h2⟩⟩ := h
  refine ⟨⟨m, cell_keep hb hm⟩, ?_, ⟨t1, p1, cell_keep hb h1⟩, ⟨t2, p2, cell_keep hb h2⟩⟩
  have hc := ht.cell gTab 0 (by rw [Lib.pow10Tab_length]; decide)
  exact var?_below hb gTab (World.block_lt_of_cell? w _ hc) ht

/-- The variables' places lie below this one. -/
def NG : Nat := 4
theorem Laid.same {w w' : World} (h : Laid w) (hb : ∀ k, k < NG → w'.heap[k]? = w.heap[k]?) : Laid w' := by
  obtain ⟨⟨m, hm⟩, ht, ⟨t1, p1, h1⟩, ⟨t2, p2, h2⟩⟩ := h
  have hc : ∀ (g : Nat) (v : Value), g < NG → w.cell? ⟨g, 0, none⟩ = some v → w'.cell? ⟨g, 0, none⟩ = some v := fun g v hg hv => by
    have := hb g hg
    simpa [World.cell?, this] using hv
  refine ⟨⟨m, hc _ _ (by decide) hm⟩, ?_, ⟨t1, p1, hc _ _ (by decide) h1⟩, ⟨t2, p2, hc _ _ (by decide) h2⟩⟩
  have ht' : w.var? Tryd.prog "internal/strconv.uint64pow10" = _ := ht
  unfold Lib.TabIs World.var? at *
  rw [gTab] at ht' ⊢
  simp only [Option.bind_some] at ht' ⊢
  rw [hb _ (by decide)]
  exact ht'

/-- It is enough that what lies at the variables' places lies as it lay. -/
theorem Laid.belowAt {w w' : World} {B : Nat} (h : Laid w) (hb : Below B w w') (hB : 3 < B) : Laid w' := by
  obtain ⟨⟨m, hm⟩, ht, ⟨t1, p1, h1⟩, ⟨t2, p2, h2⟩⟩ := h
  exact ⟨⟨m, (hb.cell (show _ < B by show 0 < B; omega)).trans hm⟩, var?_below hb gTab (by omega) ht, ⟨t1, p1, (hb.cell (show _ < B by show 2 < B; omega)).trans h1⟩, ⟨t2, p2, (hb.cell (show _ < B by show 3 < B; omega)).trans h2⟩⟩

theorem below_drewN (w : World) (n : Nat) : Below w.heap.size w (w.drewN n) := ⟨rfl, rfl, rfl, Nat.le_refl _, fun _ _ => rfl⟩
theorem below_grow (w : World) (os : Array Obj) : Below w.heap.size w (Sort.grow w os) :=
  ⟨rfl, rfl, rfl, by simp, fun k hk => by simp [Sort.grow, Array.getElem?_append, hk]⟩
theorem below_bytes (w : World) (e : TypeId) (s : ByteArray) : Below w.heap.size w (Lib.bytesWorld w e s) :=
  ⟨rfl, rfl, rfl, by rw [Lib.bytesWorld_size]; omega, fun k hk => Lib.bytesWorld_at_old w e s k hk⟩

/-- A text of a list of bytes. -/
def txt (l : List UInt8) : ByteArray := ⟨l.toArray⟩

theorem itoa_calls (n : Int) (w : World) (hL : Laid w) (h0 : -9223372036854775808 ≤ n) (h1 : n ≤ 9223372036854775807) :
    Calls Tryd.prog 41 #[.int .i64 n] w fun e w' => e = .returned (.string (txt (Lib.itoa n))) ∧ Below w.heap.size w w' :=
  (Tryd.strconv_Itoa n h0 h1 w hL.tab).mono fun _ _ ⟨he, k, os, hw⟩ => ⟨he, by rw [hw]; exact (below_drewN w k).trans (below_grow (w.drewN k) os)⟩

/-- The number that strconv.Atoi answers, an error or not. -/
def atoiNum (l : List UInt8) : Int := match Lib.atoiAll l with | .ok v => v | .range => Lib.atoiSat l | _ => 0
theorem atoi_calls (s : ByteArray) (w : World) (hL : Laid w) (hs : s.size ≤ 281474976710656) :
    Calls Tryd.prog 48 #[.string s] w fun e w' => (∃ v, e = .returned (.tuple #[.int .i64 (atoiNum s.data.toList), v])) ∧ Below w.heap.size w w' := by
  unfold atoiNum
  cases h : Lib.atoiAll s.data.toList
  · rename_i v
    refine (Tryd.strconv_Atoi_ok s (by omega) v h w).mono fun _ _ ⟨he, hw⟩ => ⟨⟨_, he⟩, ?_⟩
    rcases hw with rfl | ⟨t, rfl⟩
    · exact Below.refl _ _
    · exact below_bytes _ _ _
  · obtain ⟨te, pe, hv⟩ := hL.syn
    exact (Tryd.strconv_Atoi_syntax s hs h _ w hv (.inr ⟨te, pe, rfl⟩)).mono fun _ _ ⟨N, he, _, _, hb⟩ => ⟨⟨_, he⟩, hb⟩
  · obtain ⟨te, pe, hv⟩ := hL.rng
    exact (Tryd.strconv_Atoi_range s hs h _ w hv (.inr ⟨te, pe, rfl⟩)).mono fun _ _ ⟨N, he, _, _, hb⟩ => ⟨⟨_, he⟩, hb⟩

def strings_Cut.f (a0 a1 : ByteArray) : Option (ByteArray × ByteArray × Bool) :=
  if a0.size < 4294967281 then some (txt (Lib.cut a0.data.toList a1.data.toList).1, txt (Lib.cut a0.data.toList a1.data.toList).2.1, (Lib.cut a0.data.toList a1.data.toList).2.2) else none
theorem strings_Cut.calls (a0 a1 r1 r2 : ByteArray) (r3 : Bool) (w : World) (hLd : Laid w) (h : strings_Cut.f a0 a1 = some (r1, r2, r3)) :
    Calls Tryd.prog 31 #[.string a0, .string a1] w fun e w' => e = .returned (.tuple #[.string r1, .string r2, .bool r3]) ∧ Below w.heap.size w w' := by
  unfold strings_Cut.f at h
  split at h
  · rename_i hs
    simp only [Option.some.injEq, Prod.mk.injEq] at h
    obtain ⟨rfl, rfl, rfl⟩ := h
    obtain ⟨m, hm⟩ := hLd.max
    exact (Tryd.strings_Cut a0 a1 m w hs hm).mono fun _ _ ⟨he, n, hw⟩ => ⟨he, by rw [hw]; exact below_drewN w n⟩
  · cases h

def strconv_Itoa.f (a0 : Int) : Option ByteArray := if -9223372036854775808 ≤ a0 ∧ a0 ≤ 9223372036854775807 then some (txt (Lib.itoa a0)) else none
theorem strconv_Itoa.calls (a0 : Int) (r : ByteArray) (w : World) (hLd : Laid w) (h : strconv_Itoa.f a0 = some r) :
    Calls Tryd.prog 41 #[.int .i64 a0] w fun e w' => e = .returned (.string r) ∧ Below w.heap.size w w' := by
  unfold strconv_Itoa.f at h
  split at h
  · rename_i hs
    obtain rfl := Option.some.inj h
    exact itoa_calls a0 w hLd hs.1 hs.2
  · cases h

end Go.Proofs.YtandbobinjhehaaDoor.Hand

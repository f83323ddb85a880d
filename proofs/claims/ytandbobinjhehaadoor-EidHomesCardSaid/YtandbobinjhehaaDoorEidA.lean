/- Layer 6, by hand: the two functions that range over a text, by their contracts. -/
import Derived.Test.YtandbobinjhehaaDoorBase
namespace Go.Proofs.YtandbobinjhehaaDoor.Hand
open Go.RowKit

/-- Is a rune among the bytes of a text? -/
def runeIn (s : ByteArray) (r : Int) : Bool := s.data.toList.any fun c => (c.toNat : Int) == r

theorem runeIn_hit (s : ByteArray) (r : Int) (k : Nat) (h : k < s.size) (e : ((s[k]'h).toNat : Int) = r) : runeIn s r = true := by
  unfold runeIn
  rw [List.any_eq_true]
  exact ⟨s[k], by rw [show s[k] = s.data[k] from rfl]; exact Array.getElem_mem_toList _, by simp [e]⟩

theorem runeIn_miss (s : ByteArray) (r : Int) (h : ∀ k (hk : k < s.size), ((s[k]'hk).toNat : Int) ≠ r) : runeIn s r = false := by
  unfold runeIn
  rw [List.any_eq_false]
  intro c hc
  obtain ⟨k, hk, rfl⟩ := List.mem_iff_getElem.1 hc
  have hk' : k < s.size := by simpa using hk
  have := h k hk'
  simp only [beq_iff_eq]
  exact this

theorem iter_below (w : World) (s : ByteArray) (p : Nat) : Below w.heap.size w (w.iter s p) := (Below.refl _ w).alloc (Nat.le_refl _) _

set_option maxRecDepth 100000 in
theorem hasRune_calls (s : ByteArray) (r : Int) (w : World) (hs : ∀ k (hk : k < s.size), (s[k]'hk).toNat < 128) :
    Calls Tryd.prog 50 #[.string s, .int .i32 r] w fun e w' => e = .returned (.bool (runeIn s r)) ∧ Below w.heap.size w w' := by
  go_enter Tryd.func50, Tryd.ntmps50
  go_wp2
  go_loopw [6, 9, 10, 11, 12, 13, 14] (fun _ _ _ _ _ _ _ w' => ∃ (pos : Nat), w' = w.iter s pos ∧ pos ≤ s.size ∧ (∀ k (hk : k < s.size), k < pos → ((s[k]'hk).toNat : Int) ≠ r)) (fun _ _ _ _ _ _ _ w' => s.size - w'.iterPos w.heap.size)
  case atStart => exact ⟨0, rfl, by omega, fun k _ h => by omega⟩
  case round =>
    obtain ⟨pos, rfl, hp, hno⟩ := hrel
    have HS := Hid.out (p := ∀ k (hk : k < s.size), (s[k]'hk).toNat < 128) hs
    by_cases hlt : pos < s.size
    · have ha := hs pos hlt
      have hnx : ∀ ty, (Instr.next (.pointer (some ⟨w.heap.size, 0, none⟩)) true ty).run Tryd.prog (w.iter s pos) = _ := fun ty => run_next_ascii w s pos ty hlt ha
      clear hs HS
      by_cases he : ((s[pos]'hlt).toNat : Int) = r
      · have hb : (((s[pos]'hlt).toNat : Int) == r) = true := beq_iff_eq.2 he
        have hr := Lib.hid (runeIn_hit s r pos hlt he)
        clear he hno
        go_wp2
        go_ret
        exact ⟨by rw [hr.out]; rfl, iter_below _ _ _⟩
      · have hb : (((s[pos]'hlt).toNat : Int) == r) = false := beq_eq_false_iff_ne.2 he
        have hno' : ∀ k (hk : k < s.size), k < pos + 1 → ((s[k]'hk).toNat : Int) ≠ r := fun k hk hl => by
          by_cases e : k = pos
          · subst e; exact he
          · exact hno k hk (by omega)
        have HN := Lib.hid hno'
        clear he hno hno'
        go_wp2
        go_roundw
        case rel => exact ⟨pos + 1, rfl, by omega, HN.out⟩
        case measure => simp; omega
    · have hnx : ∀ ty, (Instr.next (.pointer (some ⟨w.heap.size, 0, none⟩)) true ty).run Tryd.prog (w.iter s pos) = _ := fun ty => run_next_end w s pos ty hlt
      have hr := Lib.hid (runeIn_miss s r fun k hk => hno k hk (by omega))
      clear hs HS hno
      go_wp2
      go_ret
      exact ⟨by rw [hr.out]; rfl, iter_below _ _ _⟩

/-- May a byte stand in a part: a to z, 0 to 9, or one of some signs? -/
def okByte (signs : ByteArray) (c : UInt8) : Bool := (decide (97 ≤ c.toNat) && decide (c.toNat ≤ 122)) || (decide (48 ≤ c.toNat) && decide (c.toNat ≤ 57)) || runeIn signs c.toNat
/-- Is a text a part? -/
def partS (s signs : ByteArray) : Bool := s.data.toList.all (okByte signs) && decide (s.size ≤ 20)

theorem partS_no (s signs : ByteArray) (k : Nat) (h : k < s.size) (e : okByte signs (s[k]'h) = false) : partS s signs = false := by
  unfold partS
  have : s.data.toList.all (okByte signs) = false := by
    rw [List.all_eq_false]
    exact ⟨s[k], by rw [show s[k] = s.data[k] from rfl]; exact Array.getElem_mem_toList _, by simp [e]⟩
  rw [this, Bool.false_and]

theorem partS_all (s signs : ByteArray) (h : ∀ k (hk : k < s.size), okByte signs (s[k]'hk) = true) : partS s signs = decide (s.size ≤ 20) := by
  unfold partS
  have : s.data.toList.all (okByte signs) = true := by
    rw [List.all_eq_true]
    intro c hc
    obtain ⟨k, hk, rfl⟩ := List.mem_iff_getElem.1 hc
    have hk' : k < s.size := by simpa using hk
    exact h k hk'
  rw [this, Bool.true_and]

theorem runeIn_high (signs : ByteArray) (hs : ∀ k (hk : k < signs.size), (signs[k]'hk).toNat < 128) (r : Int) (h : 128 ≤ r) : runeIn signs r = false :=
  runeIn_miss signs r fun k hk => by have := hs k hk; omega

theorem okByte_high (signs : ByteArray) (hs : ∀ k (hk : k < signs.size), (signs[k]'hk).toNat < 128) (c : UInt8) (h : 128 ≤ c.toNat) : okByte signs c = false := by
  unfold okByte
  rw [runeIn_high signs hs _ (by omega)]
  simp; omega


/-- What the rune that stands at a place tells of the byte there. -/
theorem rune_at (s signs : ByteArray) (hs : ∀ k (hk : k < signs.size), (signs[k]'hk).toNat < 128) (pos : Nat) (h : pos < s.size) :
    ∃ (r : Int) (p' : Nat), 0 ≤ r ∧ r ≤ 2147483647 ∧ (r < 128 → p' = pos + 1) ∧ okByte signs (s[pos]'h) = ((decide (97 ≤ r) && decide (r ≤ 122)) || (decide (48 ≤ r) && decide (r ≤ 57)) || runeIn signs r) ∧ (128 ≤ r → okByte signs (s[pos]'h) = false) ∧
      ∀ (w : World) (ty : TypeId) (k : Nat), w.heap[k]? = some (.stringIter s pos) → (Instr.next (.pointer (some ⟨k, 0, none⟩)) true ty).run Tryd.prog w = .ok (.tuple #[.bool true, .int .i64 pos, .int .i32 r]) (w.iterAt k s p') := by
  by_cases ha : (s[pos]'h).toNat < 128
  · refine ⟨(s[pos]'h).toNat, pos + 1, by omega, by omega, fun _ => rfl, ?_, fun hh => by omega, fun w ty k hk => Lib.run_next_ascii_at w k s pos ty hk h ha⟩
    unfold okByte
    congr 1
    rw [Bool.eq_iff_iff]
    simp only [Bool.or_eq_true, Bool.and_eq_true, decide_eq_true_eq]
    omega
  · have hd := (decode_high s pos h (by omega)).1
    have hl := decode_le s pos
    have hf := okByte_high signs hs (s[pos]'h) (by omega)
    refine ⟨(Utf8.decode s pos).1, pos + (Utf8.decode s pos).2, by omega, by omega, fun _ => by omega, ?_, fun _ => hf, fun w ty k hk => Lib.run_next_any_at w k s pos ty hk h⟩
    rw [hf, runeIn_high signs hs _ (by omega)]
    symm
    simp
    omega

theorem iterPos_of {w : World} {k p : Nat} {s : ByteArray} (h : w.heap[k]? = some (.stringIter s p)) : w.iterPos k = p := by simp [World.iterPos, h]

set_option maxHeartbeats 1000000 in
set_option maxRecDepth 100000 in
theorem isPart_calls (s signs : ByteArray) (w : World) (hsz : s.size ≤ maxLen) (hs : ∀ k (hk : k < signs.size), (signs[k]'hk).toNat < 128) :
    Calls Tryd.prog 45 #[.string s, .string signs] w fun e w' => e = .returned (.bool (partS s signs)) ∧ Below w.heap.size w w' := by
  unfold maxLen at hsz
  go_enter Tryd.func45, Tryd.ntmps45
  go_wp2
  go_loopw [6, 9, 10, 11, 12, 13, 14, 15, 16, 17, 18, 19, 20, 21, 22, 23, 24, 25, 26, 27, 28, 29, 30, 31] (fun _ _ _ _ _ _ _ _ _ _ _ _ _ _ _ _ _ _ _ _ _ _ _ _ w' => ∃ (pos : Nat), w'.heap[w.heap.size]? = some (.stringIter s pos) ∧ pos ≤ s.size ∧ Below w.heap.size w w' ∧ (∀ k (hk : k < s.size), k < pos → okByte signs (s[k]'hk) = true)) (fun _ _ _ _ _ _ _ _ _ _ _ _ _ _ _ _ _ _ _ _ _ _ _ _ w' => s.size - w'.iterPos w.heap.size)
  case atStart => exact ⟨0, World.iter_heap _ _ _, by omega, iter_below _ _ _, fun k _ h => by omega⟩
  case round =>
    obtain ⟨pos, hit, hp, hbw, hno⟩ := hrel
    by_cases hlt : pos < s.size
    · obtain ⟨r, p', h0, h1, hp', hok, hhi, hnx0⟩ := rune_at s signs hs pos hlt
      have hnx : ∀ ty, (Instr.next (.pointer (some ⟨w.heap.size, 0, none⟩)) true ty).run Tryd.prog wr = _ := fun ty => hnx0 wr ty w.heap.size hit
      have hb1 : Below w.heap.size w (wr.iterAt w.heap.size s p') := Lib.below_iterAt hbw (Nat.le_refl _) s p'
      have hit1 : (wr.iterAt w.heap.size s p').heap[w.heap.size]? = some (.stringIter s p') := Lib.iterAt_heap wr w.heap.size s pos p' hit
      obtain ⟨w1, hw1⟩ : ∃ w1, w1 = wr.iterAt w.heap.size s p' := ⟨_, rfl⟩
      rw [← hw1] at hb1 hit1
      simp only [← hw1] at hnx
      have hlt1 : w.heap.size < w1.heap.size := (Array.getElem?_eq_some_iff.1 hit1).1
      clear hw1 hnx0 hbw
      have hst : okByte signs (s[pos]'hlt) = true → ∀ k (hk : k < s.size), k < pos + 1 → okByte signs (s[k]'hk) = true := fun hh k hk hl => by
        by_cases e : k = pos
        · subst e; exact hh
        · exact hno k hk (by omega)
      have hsf : okByte signs (s[pos]'hlt) = false → partS s signs = false := partS_no s signs pos hlt
      have HST := Lib.hid hst
      have HSF := Lib.hid hsf
      have HIP := Lib.hid (iterPos_of hit)
      have HS := Lib.hid hs
      clear hst hsf hit hno hs
      by_cases hA : 97 ≤ r ∧ r ≤ 122
      · have HO := Lib.hid (show okByte signs (s[pos]'hlt) = true by rw [hok]; simp [hA])
        clear hok hhi
        obtain ⟨hA1, hA2⟩ := hA
        have hp2 := hp' (by omega)
        subst hp2
        go_wp2
        go_roundw
        case rel => exact ⟨pos + 1, hit1, by omega, hb1, HST.out HO.out⟩
        case measure => rw [iterPos_of hit1, HIP.out]; omega
      · have hout : r < 97 ∨ 122 < r := by omega
        by_cases hB : 48 ≤ r ∧ r ≤ 57
        · have HO := Lib.hid (show okByte signs (s[pos]'hlt) = true by rw [hok]; simp [hB])
          clear hok hhi hA
          obtain ⟨hB1, hB2⟩ := hB
          have hout' : r < 97 := by omega
          clear hout
          have hp2 := hp' (by omega)
          subst hp2
          go_wp2
          go_roundw
          case rel => exact ⟨pos + 1, hit1, by omega, hb1, HST.out HO.out⟩
          case measure => rw [iterPos_of hit1, HIP.out]; omega
        · have hok2 : okByte signs (s[pos]'hlt) = runeIn signs r := by
            rw [hok]
            have e1 : (decide (97 ≤ r) && decide (r ≤ 122)) = false := by simp; omega
            have e2 : (decide (48 ≤ r) && decide (r ≤ 57)) = false := by simp; omega
            rw [e1, e2]; rfl
          cases hr : runeIn signs r with
          | true =>
            have HO := Lib.hid (show okByte signs (s[pos]'hlt) = true by rw [hok2, hr])
            have hlt2 : r < 128 := by
              rcases Int.lt_or_le r 128 with h | h
              · exact h
              · rw [hhi h] at hok2; rw [hr] at hok2; cases hok2
            have hp2 := hp' (by omega)
            subst hp2
            have HR := Lib.hid hr
            clear hok hhi hA hok2 hr
            have hB' : r < 48 ∨ 57 < r := by omega
            clear hB
            rcases hout with ho | ho
            · rcases hB' with hB | hB
              · have q0 : decide (97 ≤ r) = false := by simp; omega
                have q1 : decide (48 ≤ r) = false := by simp; omega
                go_wp2_with (go_at_call 50; refine (hasRune_calls signs r _ HS.out).mono ?_; rintro e w2 ⟨rfl, hb2⟩; have HB2 := Lib.hid hb2; clear hb2; rw [HR.out])
                go_roundw
                case rel => exact ⟨pos + 1, (HB2.out.block _ hlt1).trans hit1, by omega, below_run hb1 HB2.out, HST.out HO.out⟩
                case measure => rw [iterPos_of ((HB2.out.block _ hlt1).trans hit1), HIP.out]; omega
              · have q0 : decide (97 ≤ r) = false := by simp; omega
                have q1 : decide (48 ≤ r) = true := by simp; omega
                have q2 : decide (r ≤ 57) = false := by simp; omega
                go_wp2_with (go_at_call 50; refine (hasRune_calls signs r _ HS.out).mono ?_; rintro e w2 ⟨rfl, hb2⟩; have HB2 := Lib.hid hb2; clear hb2; rw [HR.out])
                go_roundw
                case rel => exact ⟨pos + 1, (HB2.out.block _ hlt1).trans hit1, by omega, below_run hb1 HB2.out, HST.out HO.out⟩
                case measure => rw [iterPos_of ((HB2.out.block _ hlt1).trans hit1), HIP.out]; omega
            · have hB : 57 < r := by omega
              clear hB'
              have q0 : decide (97 ≤ r) = true := by simp; omega
              have q1 : decide (r ≤ 122) = false := by simp; omega
              have q2 : decide (48 ≤ r) = true := by simp; omega
              have q3 : decide (r ≤ 57) = false := by simp; omega
              go_wp2_with (go_at_call 50; refine (hasRune_calls signs r _ HS.out).mono ?_; rintro e w2 ⟨rfl, hb2⟩; have HB2 := Lib.hid hb2; clear hb2; rw [HR.out])
              go_roundw
              case rel => exact ⟨pos + 1, (HB2.out.block _ hlt1).trans hit1, by omega, below_run hb1 HB2.out, HST.out HO.out⟩
              case measure => rw [iterPos_of ((HB2.out.block _ hlt1).trans hit1), HIP.out]; omega
          | false =>
            have HO := Lib.hid (show okByte signs (s[pos]'hlt) = false by rw [hok2, hr])
            have HR := Lib.hid hr
            clear hok hhi hA hok2 hr
            have hB' : r < 48 ∨ 57 < r := by omega
            clear hB
            rcases hout with ho | ho
            · rcases hB' with hB | hB
              · have q0 : decide (97 ≤ r) = false := by simp; omega
                have q1 : decide (48 ≤ r) = false := by simp; omega
                go_wp2_with (go_at_call 50; refine (hasRune_calls signs r _ HS.out).mono ?_; rintro e w2 ⟨rfl, hb2⟩; have HB2 := Lib.hid hb2; clear hb2; rw [HR.out])
                go_ret
                exact ⟨by rw [HSF.out HO.out]; rfl, below_run hb1 HB2.out⟩
              · have q0 : decide (97 ≤ r) = false := by simp; omega
                have q1 : decide (48 ≤ r) = true := by simp; omega
                have q2 : decide (r ≤ 57) = false := by simp; omega
                go_wp2_with (go_at_call 50; refine (hasRune_calls signs r _ HS.out).mono ?_; rintro e w2 ⟨rfl, hb2⟩; have HB2 := Lib.hid hb2; clear hb2; rw [HR.out])
                go_ret
                exact ⟨by rw [HSF.out HO.out]; rfl, below_run hb1 HB2.out⟩
            · have hB : 57 < r := by omega
              clear hB'
              have q0 : decide (97 ≤ r) = true := by simp; omega
              have q1 : decide (r ≤ 122) = false := by simp; omega
              have q2 : decide (48 ≤ r) = true := by simp; omega
              have q3 : decide (r ≤ 57) = false := by simp; omega
              go_wp2_with (go_at_call 50; refine (hasRune_calls signs r _ HS.out).mono ?_; rintro e w2 ⟨rfl, hb2⟩; have HB2 := Lib.hid hb2; clear hb2; rw [HR.out])
              go_ret
              exact ⟨by rw [HSF.out HO.out]; rfl, below_run hb1 HB2.out⟩
    · have hnx : ∀ ty, (Instr.next (.pointer (some ⟨w.heap.size, 0, none⟩)) true ty).run Tryd.prog wr = _ := fun ty => Lib.run_next_end_at wr w.heap.size s pos ty hit hlt
      have HP := Lib.hid (partS_all s signs fun k hk => hno k hk (by omega))
      clear hs hit hno
      go_wp2
      all_goals go_ret
      all_goals exact ⟨by rw [HP.out]; first | rfl | (simp; omega), hbw⟩

/-- The same in the print's form. -/
def ascii (s : ByteArray) : Bool := s.data.toList.all fun c => decide (c.toNat < 128)
theorem ascii_at {s : ByteArray} (h : ascii s = true) (k : Nat) (hk : k < s.size) : (s[k]'hk).toNat < 128 := by
  unfold ascii at h
  rw [List.all_eq_true] at h
  have := h s[k] (by rw [show s[k] = s.data[k] from rfl]; exact Array.getElem_mem_toList _)
  simpa using this
def eid_isPart.f (a0 a1 : ByteArray) : Option Bool := if a0.size ≤ maxLen ∧ ascii a1 = true then some (partS a0 a1) else none
theorem eid_isPart.calls (a0 a1 : ByteArray) (r : Bool) (w : World) (h : eid_isPart.f a0 a1 = some r) :
    Calls Tryd.prog 45 #[.string a0, .string a1] w fun e w' => e = .returned (.bool r) ∧ Below w.heap.size w w' := by
  unfold eid_isPart.f at h
  split at h
  · rename_i hc
    obtain rfl := Option.some.inj h
    exact isPart_calls a0 a1 w hc.1 (fun k hk => ascii_at hc.2 k hk)
  · cases h

end Go.Proofs.YtandbobinjhehaaDoor.Hand

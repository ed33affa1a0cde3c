/-
  HalfSize of the program, whatever its argument.
-/
import Derived.Test.YtoipcfpbkjanhaaSiz3
namespace Go.Proofs.Ytoipcfpbkjanhaa
open Go.RowKit Go.Shelf

/-- the columns, the rows and the numbers of what HalfSize returns -/
def halfP (W H : Int) (xs : List Int) : Int × Int × List Int := if picB W H xs = true ∧ sideOk (W / 2) ∧ sideOk (H / 2) then (W / 2, H / 2, pixL (hafF W H xs) (W / 2).toNat (H / 2).toNat) else (0, 0, [])
theorem length_pixL (f : Nat → Nat → Int) (w h : Nat) : (pixL f w h).length = h * w := length_tab _ _
theorem halfP_len (W H : Int) (xs : List Int) : (halfP W H xs).2.2.length ≤ 1024 := by
  unfold halfP
  split
  · rename_i h
    show (pixL _ _ _).length ≤ 1024
    rw [length_pixL]
    have h1 := h.2.1
    have h2 := h.2.2
    unfold sideOk at h1 h2
    have : (H / 2).toNat * (W / 2).toNat ≤ 32 * 32 := Nat.mul_le_mul (by omega) (by omega)
    omega
  · simp
theorem impl_HalfSize (W H : Int) (A : Option Addr) (n c B : Nat) (xs : List Int) (w : World) (hx : Rd w B A xs) (hB : B ≤ w.heap.size) (hn : Hid (xs.length = n)) (hm : n ≤ 9223372036854775807) :
    Calls Try.prog 28 #[.agg #[.int .i64 W, .int .i64 H, .slice A n c]] w fun e w' => ∃ v, e = .returned (.agg #[.int .i64 (halfP W H xs).1, .int .i64 (halfP W H xs).2.1, v]) ∧ Own w' w.heap.size v (halfP W H xs).2.2.length (halfP W H xs).2.2 ∧ Q w w' := by
  by_cases h : picB W H xs = true ∧ sideOk (W / 2) ∧ sideOk (H / 2)
  · rw [halfP, if_pos h]
    obtain ⟨hp, h1, h2⟩ := h
    have e1 : W / 2 = ((W / 2).toNat : Int) := by unfold sideOk at h1; omega
    have e2 : H / 2 = ((H / 2).toNat : Int) := by unfold sideOk at h2; omega
    refine (callsIn_wide.1 (impl_Half_in 3 (by omega) W H (W / 2).toNat (H / 2).toNat A n c B xs w hx hB hn hp e1 e2 (by rw [Hid, ← e1]; exact h1) (by rw [Hid, ← e2]; exact h2))).mono ?_
    rintro e w' ⟨v, rfl, o, q⟩
    refine ⟨v, by rw [← e1, ← e2], ?_, q⟩
    show Own w' w.heap.size v (pixL (hafF W H xs) (W / 2).toNat (H / 2).toNat).length _
    rw [length_pixL]; exact o
  · rw [halfP, if_neg h]
    cases hp : picB W H xs
    · exact (impl_Half_no W H A n c B xs w hx hB hn hm hp).mono fun e w' ⟨he, hq⟩ => ⟨_, he, Own.nil _ _, hq⟩
    · have hs : Hid (¬ sideOk (W / 2) ∨ ¬ sideOk (H / 2)) := by
        unfold Hid
        by_cases h1 : sideOk (W / 2)
        · exact .inr fun h2 => h ⟨hp, h1, h2⟩
        · exact .inl h1
      exact (callsIn_wide.1 (impl_Half_zero 3 (by omega) W H A n c B xs w hx hB hn hp hs)).mono fun e w' ⟨he, hq⟩ => ⟨_, he, Own.nil _ _, hq⟩
end Go.Proofs.Ytoipcfpbkjanhaa

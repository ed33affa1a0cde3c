/-
  The drawing of arguments out of a code: the reader.
-/
import Derived.Test.YtkdmhlbmhjolcaaDoorFrameB
import Derived.Test.YtkdmhlbmhjolcaaDoorProg
import Derived.Laws.BitsAllLaws
import Derived.Laws.BitsLemmas
namespace Go.Proofs.YtkdmhlbmhjolcaaDoor
open Go.RowKit

theorem ofInt_i64 (a : Nat) (ha : a < 9223372036854775808) : (BitVec.ofInt 64 (a : Int)).toNat = a := by
  rw [BitVec.ofInt_natCast, BitVec.toNat_ofNat]; exact Nat.mod_eq_of_lt (by omega)
theorem i64_xor_nat (a b : Nat) (ha : a < 9223372036854775808) (hb : b < 9223372036854775808) : bits .xor .i64 (a : Int) (b : Int) = ((a ^^^ b : Nat) : Int) := by
  have hx : a ^^^ b < 2 ^ 63 := Nat.xor_lt_two_pow (by omega) (by omega)
  show IntKind.i64.wrap ((BitVec.ofInt 64 (a : Int) ^^^ BitVec.ofInt 64 (b : Int)).toNat : Int) = _
  rw [BitVec.toNat_xor, ofInt_i64 a ha, ofInt_i64 b hb, IntKind.wrap_i64]
  omega

theorem xor_range (a b : Int) (ha : 0 ≤ a) (ha' : a ≤ 9223372036854775807) (hb : 0 ≤ b) (hb' : b ≤ 9223372036854775807) : 0 ≤ bits .xor .i64 a b ∧ bits .xor .i64 a b ≤ 9223372036854775807 := by
  obtain ⟨a, rfl⟩ := Int.eq_ofNat_of_zero_le ha
  obtain ⟨b, rfl⟩ := Int.eq_ofNat_of_zero_le hb
  have := i64_xor_nat a b (by omega) (by omega)
  have hx : a ^^^ b < 2 ^ 63 := Nat.xor_lt_two_pow (by omega) (by omega)
  rw [this]
  omega

theorem RdB.keep {w w' : World} {B : Nat} {A : Option Addr} {xs : List Int} (h : RdB w B A xs) (hk : ∀ b o, b < B → w'.cell? ⟨b, o, none⟩ = w.cell? ⟨b, o, none⟩) : RdB w' B A xs := fun hn => by
  obtain ⟨b, o, rfl, hb, hc⟩ := h hn
  exact ⟨b, o, rfl, hb, fun i hi => (hk b _ hb).trans (hc i hi)⟩
theorem RdB.take {w : World} {B : Nat} {A : Option Addr} {xs : List Int} (h : RdB w B A xs) (k : Nat) : RdB w B A (xs.take k) := fun hn => by
  simp only [List.length_take] at hn
  obtain ⟨b, o, rfl, hb, hc⟩ := h (by omega)
  refine ⟨b, o, rfl, hb, fun i hi => ?_⟩
  simp only [List.length_take] at hi
  rw [hc i (by omega), List.getElem?_take_of_lt (by omega)]
theorem Bytes.take {xs : List Int} (h : Bytes xs) (k : Nat) : Bytes (xs.take k) := fun i => by
  rw [List.getElem?_take]
  split
  · exact h i
  · simp

/-- Block g holds a reader that has drawn at most P times. -/
def Rdr (w : World) (g P : Nat) : Prop :=
  ∃ A n c xs p, Blk w g 64 #[.slice A n c, .int .i64 p] ∧ 0 ≤ p ∧ p ≤ P ∧ RdB w g A xs ∧ xs.length = n ∧ n ≤ 2000 ∧ Bytes xs
section
variable {w w' : World} {g P : Nat}
theorem Rdr.lt (h : Rdr w g P) : g < w.heap.size := by obtain ⟨_, _, _, _, _, h, _⟩ := h; exact h.lt
theorem Rdr.q (h : Rdr w g P) (hq : Q w w') : Rdr w' g P := by
  obtain ⟨A, n, c, xs, p, h1, h2, h3, h4, h5⟩ := h
  have := h1.lt
  exact ⟨A, n, c, xs, p, h1.q hq, h2, h3, h4.keep (fun b o hb => hq.cell b o (by omega)), h5⟩
theorem Rdr.alloc (h : Rdr w g P) (o : Obj) : Rdr (w.alloc o) g P := h.q ((Q.refl w).alloc o)
theorem Rdr.drewN (h : Rdr w g P) (n : Nat) : Rdr (w.drewN n) g P := h.q ((Q.refl w).drewN n)
theorem Rdr.drew (h : Rdr w g P) : Rdr w.drew g P := h.q ((Q.refl w).drew)
theorem Rdr.grown (h : Rdr w g P) {k : Nat} (hg : w.grownBy w' (some k)) (hk : g < k) : Rdr w' g P := by
  obtain ⟨A, n, c, xs, p, h1, h2, h3, h4, h5⟩ := h
  have hl := h1.lt
  refine ⟨A, n, c, xs, p, h1.grown hg (fun e => ?_), h2, h3, h4.keep (fun b o hb => ?_), h5⟩
  · cases e; omega
  · exact World.cell?_of_block (a := ⟨b, o, none⟩) (hg.block b (by omega) (fun e => by cases e; omega))
theorem Rdr.set (h : Rdr w g P) {q : Addr} (hq : g < q.block) (u : Value) : Rdr (w.setCell q u) g P := by
  obtain ⟨A, n, c, xs, p, h1, h2, h3, h4, h5⟩ := h
  exact ⟨A, n, c, xs, p, h1.far (by omega) u, h2, h3, h4.keep (fun b o hb => World.cell?_of_block (a := ⟨b, o, none⟩) (Below.heap_setCell w q u b (by show b ≠ q.block; omega))), h5⟩
theorem Rdr.more {P' : Nat} (h : Rdr w g P) (hP : P ≤ P') : Rdr w g P' := by
  obtain ⟨A, n, c, xs, p, h1, h2, h3, h4⟩ := h
  exact ⟨A, n, c, xs, p, h1, h2, by omega, h4⟩
end

set_option maxHeartbeats 1000000 in
theorem l20Open (A : Option Addr) (n c : Nat) (xs : List Int) (w : World) (hx : RdB w w.heap.size A xs) (hn : xs.length = n) (hb : Bytes xs) (hm : n ≤ maxLen) (hc : n ≤ c) :
    Calls Tryd.prog 45 #[.slice A n c] w fun e w' => e = .returned (.pointer (some ⟨w.heap.size, 0, none⟩)) ∧ Rdr w' w.heap.size 0 ∧ Q w w' := by
  unfold maxLen at hm
  have Hx := Lib.hid hx
  have Hb := Lib.hid hb
  have Hn := Lib.hid hn
  clear hx hb hn
  by_cases hl : 2000 < n
  · go_enter Tryd.func45, Tryd.ntmps45
    go_wp2
    go_ret
    refine ⟨rfl, ?_, (by repeat (first | exact Q.refl _ | assumption | refine Q.drewN ?_ _ | refine Q.drew ?_ | refine Q.alloc ?_ _ | refine Q.trans ?_ (by assumption) | refine Q.set ?_ (by first | exact Nat.le_refl _ | omega | (simp; done) | (simp; omega)) _))⟩
    refine ⟨A, 2000, c, xs.take 2000, 0, ?_, by omega, by omega, ?_, ?_, by omega, Hb.out.take _⟩
    · exact Blk.new _ _ _
    · exact (Hx.out.take _).keep fun b o hb => Q.cell (by repeat (first | exact Q.refl _ | assumption | refine Q.drewN ?_ _ | refine Q.drew ?_ | refine Q.alloc ?_ _ | refine Q.trans ?_ (by assumption) | refine Q.set ?_ (by first | exact Nat.le_refl _ | omega | (simp; done) | (simp; omega)) _)) b o hb
    · rw [List.length_take, Hn.out]; omega
  · go_enter Tryd.func45, Tryd.ntmps45
    go_wp2
    go_ret
    refine ⟨rfl, ?_, (by repeat (first | exact Q.refl _ | assumption | refine Q.drewN ?_ _ | refine Q.drew ?_ | refine Q.alloc ?_ _ | refine Q.trans ?_ (by assumption) | refine Q.set ?_ (by first | exact Nat.le_refl _ | omega | (simp; done) | (simp; omega)) _))⟩
    refine ⟨A, n, c, xs, 0, ?_, by omega, by omega, ?_, Hn.out, by omega, Hb.out⟩
    · exact Blk.new _ _ _
    · exact Hx.out.keep fun b o hb => Q.cell (by repeat (first | exact Q.refl _ | assumption | refine Q.drewN ?_ _ | refine Q.drew ?_ | refine Q.alloc ?_ _ | refine Q.trans ?_ (by assumption) | refine Q.set ?_ (by first | exact Nat.le_refl _ | omega | (simp; done) | (simp; omega)) _)) b o hb
end Go.Proofs.YtkdmhlbmhjolcaaDoor

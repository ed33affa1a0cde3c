/-
  pick and odd of the reader.
-/
import Derived.Test.YtkdmhlbmhjolcaaDoorDraw
namespace Go.Proofs.YtkdmhlbmhjolcaaDoor
open Go.RowKit

theorem Rdr.next {w w' : World} {g P : Nat} {A : Option Addr} {n c : Nat} {xs : List Int} {p : Int} (h4 : RdB w g A xs) (hn : xs.length = n) (hm : n ≤ 2000) (hb : Bytes xs) (h2 : 0 ≤ p) (h3 : p ≤ P)
    (hg : w.grownBy w' (some g)) (hl : g < w.heap.size) (hB : Blk w' g 64 #[.slice A n c, .int .i64 (p + 1)]) : Rdr w' g (P + 1) :=
  ⟨A, n, c, xs, p + 1, hB, by omega, by omega, h4.keep (fun b o hb => World.cell?_of_block (a := ⟨b, o, none⟩) (hg.block b (by omega) (fun e => by cases e; omega))), hn, hm, hb⟩

set_option maxHeartbeats 2000000 in
theorem pick (g P : Nat) (m : Int) (w : World) (h : Rdr w g P) (hP : P ≤ 1000000) (hm : 1 ≤ m) (hm' : m ≤ 1000000) :
    Calls Tryd.prog 49 #[.pointer (some ⟨g, 0, none⟩), .int .i64 m] w fun e w' => ∃ x : Int, e = .returned (.int .i64 x) ∧ 0 ≤ x ∧ x < m ∧ Rdr w' g (P + 1) ∧ w.grownBy w' (some g) := by
  obtain ⟨A, n, c, xs, p, h1, h2, h3, h4, h5, h6, h7⟩ := h
  have hl := h1.lt
  have b0 := h1.set 1 (.int .i64 (p + 1))
  have b0' : Blk (w.setCell ⟨g, 1, none⟩ (.int .i64 (p + 1))) g 64 #[.slice A n c, .int .i64 (p + 1)] := b0
  have c0 := h1.cell
  have f0 := h1.free
  have c1 := b0'.cell
  have g1 := grownBy_set (World.grownBy.refl w (some g)) 1 (.int .i64 (p + 1))
  have R := Rdr.next h4 h5 h6 h7 h2 h3 g1 hl b0'
  have H1 := Lib.hid b0'
  have G1 := Lib.hid g1
  clear b0 b0' g1 h1
  by_cases hn : n = 0
  · subst hn
    have R := Lib.hid R
    clear h4 h5 h6 h7
    go_enter Tryd.func49, Tryd.ntmps49
    go_wp2
    go_ret
    exact ⟨0, rfl, by omega, by omega, R.out, G1.out⟩
  · have hn' : ((n : Int) == 0) = false := by rw [beq_eq_false_iff_ne]; omega
    by_cases hp : p < n
    · obtain ⟨b, o, rfl, hb, hc⟩ := h4 (by omega)
      have h8 := hc p.toNat (by omega)
      have h8' : (w.setCell ⟨g, 1, none⟩ (.int .i64 (p + 1))).cell? ⟨b, o + p.toNat, none⟩ = _ := (World.cell?_of_block (a := ⟨b, o + p.toNat, none⟩) (G1.out.block b (by omega) (fun e => by cases e; omega))).trans h8
      obtain ⟨h9, h10⟩ := h7 p.toNat
      have R := Lib.hid R
      have H7 := Lib.hid h7
      have HC := Lib.hid hc
      have H5 := Lib.hid h5
      clear h4 h7 hc h5 h8
      go_enter Tryd.func49, Tryd.ntmps49
      have y1 := Int.emod_nonneg (xs[p.toNat]?.getD 0) (show m ≠ 0 by omega)
      have y2 := Int.emod_lt_of_pos (xs[p.toNat]?.getD 0) (show 0 < m by omega)
      go_wp2
      go_ret
      exact ⟨_, rfl, y1, y2, R.out, G1.out⟩
    · have e1 := Int.emod_nonneg p (show (n : Int) ≠ 0 by omega)
      have e2 := Int.emod_lt_of_pos p (show (0 : Int) < n by omega)
      have e3 := Int.emod_nonneg (p * 7 + 3) (show (n : Int) ≠ 0 by omega)
      have e4 := Int.emod_lt_of_pos (p * 7 + 3) (show (0 : Int) < n by omega)
      have e5 : 0 ≤ p / (n : Int) := Int.ediv_nonneg h2 (by omega)
      have e6 : p / (n : Int) ≤ p := Int.ediv_le_self _ h2
      obtain ⟨b, o, rfl, hb, hc⟩ := h4 (by omega)
      have far : ∀ i, i < n → (w.setCell ⟨g, 1, none⟩ (.int .i64 (p + 1))).cell? ⟨b, o + i, none⟩ = some (.int .u8 (xs[i]?.getD 0)) := fun i hi => (World.cell?_of_block (a := ⟨b, o + i, none⟩) (G1.out.block b (by omega) (fun e => by cases e; omega))).trans (hc i (by omega))
      have h8 := far (p % (n : Int)).toNat (by omega)
      have h9 := far ((p * 7 + 3) % (n : Int)).toNat (by omega)
      obtain ⟨h10, h11⟩ := h7 (p % (n : Int)).toNat
      obtain ⟨h12, h13⟩ := h7 ((p * 7 + 3) % (n : Int)).toNat
      generalize hA : xs[(p % (n : Int)).toNat]?.getD 0 = X at h8 h10 h11
      generalize hA' : xs[((p * 7 + 3) % (n : Int)).toNat]?.getD 0 = Y at h9 h12 h13
      have R := Lib.hid R
      have a1 : IntKind.i64.wrap (p * 7) = p * 7 := IntWalk.i64_in _ ⟨by omega, by omega⟩
      have a2 : IntKind.i64.wrap (p * 7 + 3) = p * 7 + 3 := IntWalk.i64_in _ ⟨by omega, by omega⟩
      have a3 : IntKind.i64.wrap (X * 131) = X * 131 := IntWalk.i64_in _ ⟨by omega, by omega⟩
      have a4 : IntKind.i64.wrap (Y * 1117) = Y * 1117 := IntWalk.i64_in _ ⟨by omega, by omega⟩
      have a5 : IntKind.i64.wrap (X * 131 + Y * 1117) = X * 131 + Y * 1117 := IntWalk.i64_in _ ⟨by omega, by omega⟩
      have a6 : IntKind.i64.wrap (p * 29) = p * 29 := IntWalk.i64_in _ ⟨by omega, by omega⟩
      have a7 : IntKind.i64.wrap (X * 131 + Y * 1117 + p * 29) = X * 131 + Y * 1117 + p * 29 := IntWalk.i64_in _ ⟨by omega, by omega⟩
      have a8 : IntKind.i64.wrap (p / (n : Int) * 53) = p / (n : Int) * 53 := IntWalk.i64_in _ ⟨by omega, by omega⟩
      have a9 : IntKind.i64.wrap (X * 131 + Y * 1117 + p * 29 + p / (n : Int) * 53) = X * 131 + Y * 1117 + p * 29 + p / (n : Int) * 53 := IntWalk.i64_in _ ⟨by omega, by omega⟩
      have z : 0 ≤ X * 131 + Y * 1117 + p * 29 + p / (n : Int) * 53 := by omega
      have z' : X * 131 + Y * 1117 + p * 29 + p / (n : Int) * 53 ≤ 9223372036854775807 := by omega
      clear h4 h7 hc h5 far hA hA'
      go_enter Tryd.func49, Tryd.ntmps49
      go_wp2
      go_quiet (fail)
      clear a1 a2 a3 a4 a5 a6 a7 a8 a9
      generalize X * 131 + Y * 1117 + p * 29 + p / (n : Int) * 53 = Z at z z' ⊢
      obtain ⟨x1, x2⟩ := xor_range Z (Z / 64) z z' (by omega) (by omega)
      have y1 := Int.emod_nonneg (bits .xor .i64 Z (Z / 64)) (show m ≠ 0 by omega)
      have y2 := Int.emod_lt_of_pos (bits .xor .i64 Z (Z / 64)) (show 0 < m by omega)
      go_wp2
      go_ret
      exact ⟨_, rfl, y1, y2, R.out.drewN _, grownBy_drewN G1.out _⟩

theorem odd (g P : Nat) (m : Int) (w : World) (h : Rdr w g P) (hP : P ≤ 1000000) (hm : 1 ≤ m) (hm' : m ≤ 1000000) :
    Calls Tryd.prog 56 #[.pointer (some ⟨g, 0, none⟩), .int .i64 m] w fun e w' => ∃ t : Bool, e = .returned (.bool t) ∧ Rdr w' g (P + 1) ∧ w.grownBy w' (some g) := by
  go_enter Tryd.func56, Tryd.ntmps56
  go_wp2_with fail
  refine (pick _ _ _ _ h hP hm hm').mono ?_; rintro e w' ⟨x, rfl, hx, hx', r1, g1⟩
  go_wp2_with fail
  go_ret
  exact ⟨_, rfl, r1, g1⟩


theorem ArgBytes.q {w w' : World} {v : Value} {x : Option Addr × Nat × List Int} (h : ArgBytes w v x) (hq : Q w w') : ArgBytes w' v x := by
  obtain ⟨h1, h2, h3⟩ := h
  refine ⟨h1, fun hn => ?_, h3⟩
  obtain ⟨b, o, e, hb, hc⟩ := h2 hn
  have := hq.size
  exact ⟨b, o, e, by omega, fun i hi => (hq.cell b _ hb).trans (hc i hi)⟩
theorem openCode (v : Value) (x : Option Addr × Nat × List Int) (w : World) (h : ArgBytes w v x) :
    Calls Tryd.prog 45 #[v] w fun e w' => ∃ g, e = .returned (.pointer (some ⟨g, 0, none⟩)) ∧ w.heap.size ≤ g ∧ Rdr w' g 0 ∧ Q w w' := by
  obtain ⟨rfl, h1, h2, h3, h4⟩ := h
  exact (l20Open _ _ _ _ _ h1 rfl h3 h2 h4).mono fun e w' ⟨h5, h6, h7⟩ => ⟨_, h5, Nat.le_refl _, h6, h7⟩
/-- What a draw leaves of what was there. -/
theorem Q.draw {a w w' : World} {g : Nat} (h : Q a w) (hg : w.grownBy w' (some g)) (hr : a.heap.size ≤ g) : Q a w' := h.grown hg (fun k e => by cases e; exact hr)
theorem Blk.draw {w w' : World} {k g : Nat} {t : TypeId} {cs : Array Value} (h : Blk w k t cs) (hg : w.grownBy w' (some g)) (hne : k ≠ g) : Blk w' k t cs := h.grown hg (fun e => hne (by cases e; rfl))
end Go.Proofs.YtkdmhlbmhjolcaaDoor

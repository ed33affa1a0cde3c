/-
  Drawing indices and blocks of sixteen numbers.
-/
import Derived.Test.YtkdmhlbmhjolcaaDoorDraw2
import Derived.Test.YtkdmhlbmhjolcaaDoorCarry
import Derived.Test.YtkdmhlbmhjolcaaDoorArr8
namespace Go.Proofs.YtkdmhlbmhjolcaaDoor
open Go.RowKit

theorem OwnI.draw {w w' : World} {lo hi g n : Nat} {v : Value} {xs : List Int} (h : OwnI w lo hi v n xs) (hg : w.grownBy w' (some g)) (hd : g < lo ∨ hi ≤ g) : OwnI w' lo hi v n xs := by
  refine ⟨h.1.other hg ?_, h.2⟩
  cases hv : v.ownBlock with
  | none => exact .inl rfl
  | some k =>
    refine .inr fun e => ?_
    cases e
    have h1 := (h.1.2.lt g hv).1
    have h2 := h.2 g hv
    omega

/-- what drawing leaves: old blocks read as they did, but the reader's; there may be new ones -/
def Dr (g : Nat) (w w' : World) : Prop := w.grownBy w' (some g)
section
variable {a b c w w' : World} {g : Nat}
theorem Dr.refl (g : Nat) (w : World) : Dr g w w := World.grownBy.refl w _
theorem Dr.trans (h : Dr g a b) (k : Dr g b c) : Dr g a c := World.grownBy.andThen (row' := some g) h k (fun _ e => .inr e)
theorem Dr.of_q (h : Q a b) : Dr g a b := ⟨h.os, h.tape, h.output, h.size, fun k hk _ => h.block k hk⟩
theorem Dr.q (h : Dr g a b) (k : Q b c) : Dr g a c := h.trans (Dr.of_q k)
theorem Dr.size (h : Dr g a b) : a.heap.size ≤ b.heap.size := World.grownBy.size h
theorem Dr.grown (h : Dr g a w) {k : Nat} (hg : w.grownBy w' (some k)) (hk : a.heap.size ≤ k) : Dr g a w' := ⟨hg.os.trans h.os, hg.tape.trans h.tape, hg.output.trans h.output, Nat.le_trans h.size hg.size, fun i hi hne => (hg.block i (Nat.lt_of_lt_of_le hi h.size) (fun e => by cases e; omega)).trans (h.block i hi hne)⟩
theorem Dr.mark (h : Dr g a w) {lo hi n : Nat} {v : Value} {ys : List Int} (h' : OwnI w lo hi v n ys) (hg : w.grownBy w' v.ownBlock) (hd : a.heap.size ≤ lo) : Dr g a w' := ⟨hg.os.trans h.os, hg.tape.trans h.tape, hg.output.trans h.output, Nat.le_trans h.size hg.size, fun i hi hne => (hg.block i (Nat.lt_of_lt_of_le hi h.size) (fun e => by have := (h'.1.2.lt i e.symm).1; omega)).trans (h.block i hi hne)⟩
theorem Dr.set (h : Dr g a w) {p : Addr} (hp : a.heap.size ≤ p.block) (u : Value) : Dr g a (w.setCell p u) := ⟨h.os, h.tape, h.output, by simpa [World.setCell] using h.size, fun i hi hne => (Below.heap_setCell w p u i (by omega)).trans (h.block i hi hne)⟩
theorem Rdr.own {P : Nat} (h : Rdr w g P) {lo hi n : Nat} {v : Value} {ys : List Int} (h' : OwnI w lo hi v n ys) (hg : w.grownBy w' v.ownBlock) (hd : g < lo) : Rdr w' g P := by
  obtain ⟨A, n, c, xs, p, h1, h2, h3, h4, h5⟩ := h
  have hl := h1.lt
  refine ⟨A, n, c, xs, p, h1.mark h' hg (.inl hd), h2, h3, h4.keep (fun b o hb => ?_), h5⟩
  exact World.cell?_of_block (a := ⟨b, o, none⟩) (hg.block b (by omega) (fun e => by have := (h'.1.2.lt b e.symm).1; omega))
end


theorem odd0 (g : Nat) (w : World) : Calls Tryd.prog 56 #[.pointer (some ⟨g, 0, none⟩), .int .i64 0] w fun e w' => e = .returned (.bool false) ∧ w = w' := by
  go_enter Tryd.func56, Tryd.ntmps56
  go_wp2_with fail
  go_ret
  exact ⟨rfl, rfl⟩
theorem bnd_put {xs : List Int} {B : Int} (h : bnd xs B) (k : Nat) {y : Int} (h1 : -B ≤ y) (h2 : y ≤ B) : bnd (xs.set k y) B := fun i => by
  rcases Nat.lt_or_ge i xs.length with hi | hi
  · by_cases e : k = i
    · subst e
      rw [List.getElem?_set_self hi]
      exact ⟨h1, h2⟩
    · rw [List.getElem?_set_ne e]
      exact h i
  · have hz := h i
    rw [List.getElem?_eq_none hi] at hz
    rw [List.getElem?_eq_none (by rw [List.length_set]; exact hi)]
    exact hz
set_option maxRecDepth 100000 in
set_option maxHeartbeats 2000000 in
theorem l20Q (g P : Nat) (w : World) (h : Rdr w g P) (hP : P ≤ 900000) :
    Calls Tryd.prog 47 #[.pointer (some ⟨g, 0, none⟩), .int .i64 12] w fun e w' => ∃ q : Int, e = .returned (.int .i64 q) ∧ -1 ≤ q ∧ q ≤ 16 ∧ Rdr w' g (P + 10) ∧ Dr g w w' := by
  have hl := h.lt
  go_enter Tryd.func47, Tryd.ntmps47
  go_wp2_with fail
  refine (odd _ _ _ _ h (by omega) (by omega) (by omega)).mono ?_; rintro e w2 ⟨t, rfl, r2, g2⟩
  have s2 := World.grownBy.size g2
  cases t
  · go_wp2_with fail
    refine (pick _ _ _ _ r2 (by omega) (by omega) (by omega)).mono ?_; rintro e w3 ⟨x, rfl, x1, x2, r3, g3⟩
    have s3 := World.grownBy.size g3
    go_wp2_with fail
    refine (pick _ _ _ _ r3 (by omega) (by omega) (by omega)).mono ?_; rintro e w4 ⟨y, rfl, y1, y2, r4, g4⟩
    have s4 := World.grownBy.size g4
    go_wp2_with fail
    refine (pick _ _ _ _ (r4.alloc _) (by omega) (by omega) (by omega)).mono ?_; rintro e w5 ⟨z, rfl, z1, z2, r5, g5⟩
    have l2 := ((Blk.new w4 3 #[.int .i64 x, .int .i64 y]).draw g5 (by omega)).cell
    have D2 : Dr g w w5 := (((Dr.trans g2 g3).trans g4).q ((Q.refl w4).alloc _)).trans g5
    replace r5 := r5.more (P' := P + 10) (by omega)
    clear h g2 g3 g4 g5 r2 r3 r4
    rcases (by omega : z = 0 ∨ z = 1) with rfl | rfl
    all_goals
      go_wp2_with fail
      go_ret
      exact ⟨_, rfl, by omega, by omega, r5, D2⟩
  · go_wp2_with fail
    refine (pick _ _ _ _ (r2.alloc _) (by omega) (by omega) (by omega)).mono ?_; rintro e w5 ⟨z, rfl, z1, z2, r5, g5⟩
    have l2 := ((Blk.new w2 3 #[.int .i64 (-1), .int .i64 16]).draw g5 (by omega)).cell
    have D2 : Dr g w w5 := (Dr.q g2 ((Q.refl w2).alloc _)).trans g5
    replace r5 := r5.more (P' := P + 10) (by omega)
    clear h g2 g5 r2
    rcases (by omega : z = 0 ∨ z = 1) with rfl | rfl
    all_goals
      go_wp2_with fail
      go_ret
      exact ⟨_, rfl, by omega, by omega, r5, D2⟩

set_option maxRecDepth 100000 in
set_option maxHeartbeats 4000000 in
theorem l20Block_255_12 (g P : Nat) (w : World) (h : Rdr w g P) (hP : P ≤ 900000) :
    Calls Tryd.prog 46 #[.pointer (some ⟨g, 0, none⟩), .int .i64 255, .int .i64 12] w fun e w' => ∃ xs : List Int, e = .returned (.agg (arr xs)) ∧ xs.length = 16 ∧ bnd xs 5000 ∧ Rdr w' g (P + 60) ∧ Dr g w w' := by
  have hl := h.lt
  have bz := (Bl.zero w)
  go_enter Tryd.func46, Tryd.ntmps46
  go_wp2_with (first | (first | refine wpList_load_arr rfl _ rfl _ rfl _ (by assumption) ?_ | refine wpList_load_arr_g (by rfl) _ rfl _ rfl _ (by assumption) ?_) | (refine wpList_new_arr rfl _ rfl rfl rfl _ _ rfl rfl (List.replicate 16 0) rfl rfl ?_; intro w1 bb q1 z1))
  simp only [World.size_alloc] at bb z1
  replace bz := bz.q q1
  have QA : Q w w1 := ((Q.refl w).alloc _).trans q1
  have s1 : w.heap.size + 2 ≤ w1.heap.size := by omega
  have hR := h.q QA
  clear h q1 z1
  refine (pick _ _ _ _ hR (by omega) (by omega) (by omega)).mono ?_; rintro e w2 ⟨kd, rfl, kd1, kd2, r2, g2⟩
  have s2 := World.grownBy.size g2
  have b2 := bb.grown g2 (fun e => by have := Option.some.inj e; omega)
  have z2 := bz.grown g2 (fun e => by have := Option.some.inj e; omega)
  have D2 : Dr g w w2 := (Dr.of_q QA).trans g2
  clear hR bz bb QA g2
  go_wp2_with fail
  go_loopw [9] (fun i wr => ∃ k : Nat, k ≤ 16 ∧ i = .int .i64 k ∧ ∃ xs, Hid (Bl wr (w.heap.size + 1) xs) ∧ Hid (bnd xs 5000) ∧ Hid (Bl wr w.heap.size (List.replicate 16 0)) ∧ Hid (Rdr wr g (P + 1 + 2 * k)) ∧ Hid (Dr g w wr)) (fun i _ => 16 - (intOf i).toNat)
  case atStart => exact ⟨0, by omega, rfl, _, b2, fun i => by (rcases Nat.lt_or_ge i 16 with hi | hi); (rw [List.getElem?_replicate_of_lt hi]; simp); (rw [List.getElem?_eq_none (by simp; omega)]; simp), z2, r2, D2⟩
  case round =>
    obtain ⟨k, hk, rfl, xs, KB, KN, KZ, KR, KD⟩ := hrel
    clear b2 z2 r2 D2
    have swr := KD.out.size
    by_cases hlt : k < 16
    · have hk16 : (k : Int) < 16 := by omega
      have hw1 : w.heap.size + 1 < wr.heap.size := KB.out.lt
      rcases (by omega : kd = 0 ∨ kd = 1 ∨ kd = 2 ∨ kd = 3 ∨ kd = 4) with rfl | rfl | rfl | rfl | rfl
      · go_wp2_with fail
        refine (pick _ _ _ _ KR.out (by omega) (by omega) (by omega)).mono ?_; rintro e wa ⟨x, rfl, x1, x2, ra, ga⟩
        have sg := World.grownBy.size ga
        replace KB := Lib.hid (KB.out.grown ga (fun e => by have := Option.some.inj e; omega))
        replace KZ := Lib.hid (KZ.out.grown ga (fun e => by have := Option.some.inj e; omega))
        replace KR := Lib.hid ra
        replace KD := Lib.hid (KD.out.trans ga)
        clear ga ra
        have n1 := Lib.hid (KB.out.set k (x - 3))
        have n2 := Lib.hid (bnd_put KN.out k (y := x - 3) (by omega) (by omega))
        have n3 := Lib.hid (KZ.out.far (p := ⟨w.heap.size + 1, k, none⟩) (by show w.heap.size ≠ w.heap.size + 1; omega) (.int .i64 (x - 3)))
        have n4 := Lib.hid ((KR.out.set (q := ⟨w.heap.size + 1, k, none⟩) (by show g < w.heap.size + 1; omega) (.int .i64 (x - 3))).more (P' := P + 1 + 2 * (k + 1)) (by omega))
        have n5 := Lib.hid (KD.out.set (p := ⟨w.heap.size + 1, k, none⟩) (by show w.heap.size ≤ w.heap.size + 1; omega) (.int .i64 (x - 3)))
        have c1 := KB.out.at k hlt
        have f1 := KB.out.free k
        generalize xs[k]?.getD 0 = old at c1
        clear KB KN KZ KR KD
        go_wp2_with fail
        go_roundw
        case rel => exact ⟨k + 1, by omega, by go_num, _, n1.out, n2.out, n3.out, n4.out, n5.out⟩
        case measure => simp [intOf]; omega
      · go_wp2_with fail
        refine (pick _ _ _ _ KR.out (by omega) (by omega) (by omega)).mono ?_; rintro e wa ⟨x, rfl, x1, x2, ra, ga⟩
        have sg := World.grownBy.size ga
        replace KB := Lib.hid (KB.out.grown ga (fun e => by have := Option.some.inj e; omega))
        replace KZ := Lib.hid (KZ.out.grown ga (fun e => by have := Option.some.inj e; omega))
        replace KR := Lib.hid ra
        replace KD := Lib.hid (KD.out.trans ga)
        clear ga ra
        go_wp2_with fail
        refine (pick _ _ _ _ KR.out (by omega) (by omega) (by omega)).mono ?_; rintro e wb ⟨y, rfl, y1, y2, rb, gb⟩
        have sg := World.grownBy.size gb
        replace KB := Lib.hid (KB.out.grown gb (fun e => by have := Option.some.inj e; omega))
        replace KZ := Lib.hid (KZ.out.grown gb (fun e => by have := Option.some.inj e; omega))
        replace KR := Lib.hid rb
        replace KD := Lib.hid (KD.out.trans gb)
        clear gb rb
        obtain ⟨d, hd⟩ : ∃ d, (x * 256 + y).tmod 511 = d := ⟨_, rfl⟩
        have hd2 : 0 ≤ d ∧ d < 511 := by rw [← hd, Int.tmod_eq_emod_of_nonneg (by omega)]; omega
        have n1 := Lib.hid (KB.out.set k (d - 255))
        have n2 := Lib.hid (bnd_put KN.out k (y := d - 255) (by omega) (by omega))
        have n3 := Lib.hid (KZ.out.far (p := ⟨w.heap.size + 1, k, none⟩) (by show w.heap.size ≠ w.heap.size + 1; omega) (.int .i64 (d - 255)))
        have n4 := Lib.hid ((KR.out.set (q := ⟨w.heap.size + 1, k, none⟩) (by show g < w.heap.size + 1; omega) (.int .i64 (d - 255))).more (P' := P + 1 + 2 * (k + 1)) (by omega))
        have n5 := Lib.hid (KD.out.set (p := ⟨w.heap.size + 1, k, none⟩) (by show w.heap.size ≤ w.heap.size + 1; omega) (.int .i64 (d - 255)))
        have c1 := KB.out.at k hlt
        have f1 := KB.out.free k
        generalize xs[k]?.getD 0 = old at c1
        clear KB KN KZ KR KD
        go_wp2_with fail
        go_roundw
        case rel => exact ⟨k + 1, by omega, by go_num, _, n1.out, n2.out, n3.out, n4.out, n5.out⟩
        case measure => simp [intOf]; omega
      · go_wp2_with fail
        have sg0 := World.size_alloc wr (.cells #[.int .i64 255, .int .i64 (-255), .int .i64 0] 3)
        have bl := Blk.new wr 3 #[.int .i64 255, .int .i64 (-255), .int .i64 0]
        have qal : Q wr (wr.alloc (.cells #[.int .i64 255, .int .i64 (-255), .int .i64 0] 3)) := (Q.refl wr).alloc _
        replace KB := Lib.hid (KB.out.q qal)
        replace KZ := Lib.hid (KZ.out.q qal)
        replace KR := Lib.hid (KR.out.q qal)
        replace KD := Lib.hid (KD.out.q qal)
        have hgr : g ≠ wr.heap.size := by omega
        clear qal
        refine (pick _ _ _ _ KR.out (by omega) (by omega) (by omega)).mono ?_; rintro e wa ⟨x, rfl, x1, x2, ra, ga⟩
        have bl2 := (bl.draw ga (Ne.symm hgr)).cell
        have sg := World.grownBy.size ga
        replace KB := Lib.hid (KB.out.grown ga (fun e => by have := Option.some.inj e; omega))
        replace KZ := Lib.hid (KZ.out.grown ga (fun e => by have := Option.some.inj e; omega))
        replace KR := Lib.hid ra
        replace KD := Lib.hid (KD.out.trans ga)
        clear ga ra
        clear bl
        rcases (by omega : x = 0 ∨ x = 1 ∨ x = 2) with rfl | rfl | rfl
        · skip
          have n1 := Lib.hid (KB.out.set k (255))
          have n2 := Lib.hid (bnd_put KN.out k (y := 255) (by omega) (by omega))
          have n3 := Lib.hid (KZ.out.far (p := ⟨w.heap.size + 1, k, none⟩) (by show w.heap.size ≠ w.heap.size + 1; omega) (.int .i64 (255)))
          have n4 := Lib.hid ((KR.out.set (q := ⟨w.heap.size + 1, k, none⟩) (by show g < w.heap.size + 1; omega) (.int .i64 (255))).more (P' := P + 1 + 2 * (k + 1)) (by omega))
          have n5 := Lib.hid (KD.out.set (p := ⟨w.heap.size + 1, k, none⟩) (by show w.heap.size ≤ w.heap.size + 1; omega) (.int .i64 (255)))
          have c1 := KB.out.at k hlt
          have f1 := KB.out.free k
          generalize xs[k]?.getD 0 = old at c1
          clear KB KN KZ KR KD
          go_wp2_with fail
          go_roundw
          case rel => exact ⟨k + 1, by omega, by go_num, _, n1.out, n2.out, n3.out, n4.out, n5.out⟩
          case measure => simp [intOf]; omega
        · skip
          have n1 := Lib.hid (KB.out.set k (-255))
          have n2 := Lib.hid (bnd_put KN.out k (y := -255) (by omega) (by omega))
          have n3 := Lib.hid (KZ.out.far (p := ⟨w.heap.size + 1, k, none⟩) (by show w.heap.size ≠ w.heap.size + 1; omega) (.int .i64 (-255)))
          have n4 := Lib.hid ((KR.out.set (q := ⟨w.heap.size + 1, k, none⟩) (by show g < w.heap.size + 1; omega) (.int .i64 (-255))).more (P' := P + 1 + 2 * (k + 1)) (by omega))
          have n5 := Lib.hid (KD.out.set (p := ⟨w.heap.size + 1, k, none⟩) (by show w.heap.size ≤ w.heap.size + 1; omega) (.int .i64 (-255)))
          have c1 := KB.out.at k hlt
          have f1 := KB.out.free k
          generalize xs[k]?.getD 0 = old at c1
          clear KB KN KZ KR KD
          go_wp2_with fail
          go_roundw
          case rel => exact ⟨k + 1, by omega, by go_num, _, n1.out, n2.out, n3.out, n4.out, n5.out⟩
          case measure => simp [intOf]; omega
        · skip
          have n1 := Lib.hid (KB.out.set k (0))
          have n2 := Lib.hid (bnd_put KN.out k (y := 0) (by omega) (by omega))
          have n3 := Lib.hid (KZ.out.far (p := ⟨w.heap.size + 1, k, none⟩) (by show w.heap.size ≠ w.heap.size + 1; omega) (.int .i64 (0)))
          have n4 := Lib.hid ((KR.out.set (q := ⟨w.heap.size + 1, k, none⟩) (by show g < w.heap.size + 1; omega) (.int .i64 (0))).more (P' := P + 1 + 2 * (k + 1)) (by omega))
          have n5 := Lib.hid (KD.out.set (p := ⟨w.heap.size + 1, k, none⟩) (by show w.heap.size ≤ w.heap.size + 1; omega) (.int .i64 (0)))
          have c1 := KB.out.at k hlt
          have f1 := KB.out.free k
          generalize xs[k]?.getD 0 = old at c1
          clear KB KN KZ KR KD
          go_wp2_with fail
          go_roundw
          case rel => exact ⟨k + 1, by omega, by go_num, _, n1.out, n2.out, n3.out, n4.out, n5.out⟩
          case measure => simp [intOf]; omega
      · obtain ⟨m4, hm4⟩ : ∃ m, (k : Int).tmod 4 = m := ⟨_, rfl⟩
        obtain ⟨d4, hd4⟩ : ∃ m, (k : Int).tdiv 4 = m := ⟨_, rfl⟩
        have m4b : 0 ≤ m4 ∧ m4 < 4 := by rw [← hm4, Int.tmod_eq_emod_of_nonneg (by omega)]; omega
        have d4b : 0 ≤ d4 ∧ d4 < 4 := by rw [← hd4, Int.tdiv_eq_ediv_of_nonneg (by omega)]; omega
        go_wp2_with fail
        refine (pick _ _ _ _ KR.out (by omega) (by omega) (by omega)).mono ?_; rintro e wa ⟨x, rfl, x1, x2, ra, ga⟩
        have sg := World.grownBy.size ga
        replace KB := Lib.hid (KB.out.grown ga (fun e => by have := Option.some.inj e; omega))
        replace KZ := Lib.hid (KZ.out.grown ga (fun e => by have := Option.some.inj e; omega))
        replace KR := Lib.hid ra
        replace KD := Lib.hid (KD.out.trans ga)
        clear ga ra
        have n1 := Lib.hid (KB.out.set k (4 * m4 - 7 * d4 + x))
        have n2 := Lib.hid (bnd_put KN.out k (y := 4 * m4 - 7 * d4 + x) (by omega) (by omega))
        have n3 := Lib.hid (KZ.out.far (p := ⟨w.heap.size + 1, k, none⟩) (by show w.heap.size ≠ w.heap.size + 1; omega) (.int .i64 (4 * m4 - 7 * d4 + x)))
        have n4 := Lib.hid ((KR.out.set (q := ⟨w.heap.size + 1, k, none⟩) (by show g < w.heap.size + 1; omega) (.int .i64 (4 * m4 - 7 * d4 + x))).more (P' := P + 1 + 2 * (k + 1)) (by omega))
        have n5 := Lib.hid (KD.out.set (p := ⟨w.heap.size + 1, k, none⟩) (by show w.heap.size ≤ w.heap.size + 1; omega) (.int .i64 (4 * m4 - 7 * d4 + x)))
        have c1 := KB.out.at k hlt
        have f1 := KB.out.free k
        generalize xs[k]?.getD 0 = old at c1
        clear KB KN KZ KR KD
        go_wp2_with fail
        go_roundw
        case rel => exact ⟨k + 1, by omega, by go_num, _, n1.out, n2.out, n3.out, n4.out, n5.out⟩
        case measure => simp [intOf]; omega
      · go_wp2_with fail
        refine (pick _ _ _ _ KR.out (by omega) (by omega) (by omega)).mono ?_; rintro e wa ⟨y, rfl, y1, y2, ra, ga⟩
        have sg := World.grownBy.size ga
        replace KB := Lib.hid (KB.out.grown ga (fun e => by have := Option.some.inj e; omega))
        replace KZ := Lib.hid (KZ.out.grown ga (fun e => by have := Option.some.inj e; omega))
        replace KR := Lib.hid ra
        replace KD := Lib.hid (KD.out.trans ga)
        clear ga ra
        by_cases hy : y = 0
        · subst hy
          go_wp2_with fail
          refine (pick _ _ _ _ KR.out (by omega) (by omega) (by omega)).mono ?_; rintro e wb ⟨x, rfl, x1, x2, rb, gb⟩
          have sg := World.grownBy.size gb
          replace KB := Lib.hid (KB.out.grown gb (fun e => by have := Option.some.inj e; omega))
          replace KZ := Lib.hid (KZ.out.grown gb (fun e => by have := Option.some.inj e; omega))
          replace KR := Lib.hid rb
          replace KD := Lib.hid (KD.out.trans gb)
          clear gb rb
          have n1 := Lib.hid (KB.out.set k (x - 60))
          have n2 := Lib.hid (bnd_put KN.out k (y := x - 60) (by omega) (by omega))
          have n3 := Lib.hid (KZ.out.far (p := ⟨w.heap.size + 1, k, none⟩) (by show w.heap.size ≠ w.heap.size + 1; omega) (.int .i64 (x - 60)))
          have n4 := Lib.hid ((KR.out.set (q := ⟨w.heap.size + 1, k, none⟩) (by show g < w.heap.size + 1; omega) (.int .i64 (x - 60))).more (P' := P + 1 + 2 * (k + 1)) (by omega))
          have n5 := Lib.hid (KD.out.set (p := ⟨w.heap.size + 1, k, none⟩) (by show w.heap.size ≤ w.heap.size + 1; omega) (.int .i64 (x - 60)))
          have c1 := KB.out.at k hlt
          have f1 := KB.out.free k
          generalize xs[k]?.getD 0 = old at c1
          clear KB KN KZ KR KD
          go_wp2_with fail
          go_roundw
          case rel => exact ⟨k + 1, by omega, by go_num, _, n1.out, n2.out, n3.out, n4.out, n5.out⟩
          case measure => simp [intOf]; omega
        · have hyb : (y == 0) = false := by rw [beq_eq_false_iff_ne]; exact hy
          go_wp2_with fail
          go_roundw
          case rel => exact ⟨k + 1, by omega, by go_num, _, KB.out, KN.out, KZ.out, KR.out.more (by omega), KD.out⟩
          case measure => simp [intOf]; omega
    · have hk16 : k = 16 := by omega
      subst hk16
      replace KR := Lib.hid (KR.out.more (P' := P + 40) (by omega))
      have hxl := KB.out.len
      go_wp2_with fail
      refine (odd _ _ _ _ KR.out (by omega) (by omega) (by omega)).mono ?_; rintro e wa ⟨t, rfl, ra, ga⟩
      have sg := World.grownBy.size ga
      replace KB := Lib.hid (KB.out.grown ga (fun e => by have := Option.some.inj e; omega))
      replace KZ := Lib.hid (KZ.out.grown ga (fun e => by have := Option.some.inj e; omega))
      replace KR := Lib.hid ra
      replace KD := Lib.hid (KD.out.trans ga)
      clear ga ra
      have hw1 : w.heap.size + 1 < wa.heap.size := KB.out.lt
      cases t
      · have kb := KB.out
        have kz := KZ.out
        go_wp2_with (first | (first | refine wpList_load_arr rfl _ rfl _ rfl _ (by assumption) ?_ | refine wpList_load_arr_g (by rfl) _ rfl _ rfl _ (by assumption) ?_) | (refine wpList_store_arr rfl _ _ rfl _ rfl _ _ rfl (by first | assumption | rfl) (by assumption) ?_; intro w9 b9 g9 s9))
        refine bodyPost_ret (v := .agg (arr _)) (results_cell_row (by rfl) _ _ _ _ _ _ _ (by rfl) (Bl.blk b9) Tryd.underlying22 rfl (by rw [arr_size, hxl]; exact info_arr)) rfl ⟨_, rfl, hxl, KN.out, (KR.out.grown g9 (by omega)).more (by omega), KD.out.grown g9 (Nat.le_refl _)⟩
      · go_wp2_with fail
        refine (pick _ _ _ _ KR.out (by omega) (by omega) (by omega)).mono ?_; rintro e wb ⟨j, rfl, j1, j2, rb, gb⟩
        have sg := World.grownBy.size gb
        replace KB := Lib.hid (KB.out.grown gb (fun e => by have := Option.some.inj e; omega))
        replace KZ := Lib.hid (KZ.out.grown gb (fun e => by have := Option.some.inj e; omega))
        replace KR := Lib.hid rb
        replace KD := Lib.hid (KD.out.trans gb)
        clear gb rb
        obtain ⟨jn, rfl⟩ : ∃ n : Nat, j = (n : Int) := ⟨j.toNat, by omega⟩
        have jn16 : jn < 16 := by omega
        have hw2 : w.heap.size + 1 < wb.heap.size := KB.out.lt
        go_wp2_with fail
        have sg0 := World.size_alloc wb (.cells #[.int .i64 256, .int .i64 (-256)] 3)
        have bl := Blk.new wb 3 #[.int .i64 256, .int .i64 (-256)]
        have qal : Q wb (wb.alloc (.cells #[.int .i64 256, .int .i64 (-256)] 3)) := (Q.refl wb).alloc _
        replace KB := Lib.hid (KB.out.q qal)
        replace KZ := Lib.hid (KZ.out.q qal)
        replace KR := Lib.hid (KR.out.q qal)
        replace KD := Lib.hid (KD.out.q qal)
        have hgr : g ≠ wb.heap.size := by omega
        clear qal
        refine (pick _ _ _ _ KR.out (by omega) (by omega) (by omega)).mono ?_; rintro e wc ⟨x, rfl, x1, x2, rc, gc⟩
        have bl2 := (bl.draw gc (Ne.symm hgr)).cell
        have sg := World.grownBy.size gc
        replace KB := Lib.hid (KB.out.grown gc (fun e => by have := Option.some.inj e; omega))
        replace KZ := Lib.hid (KZ.out.grown gc (fun e => by have := Option.some.inj e; omega))
        replace KR := Lib.hid rc
        replace KD := Lib.hid (KD.out.trans gc)
        clear gc rc
        clear bl
        have c1 := KB.out.at jn jn16
        have f1 := KB.out.free jn
        generalize xs[jn]?.getD 0 = old at c1
        rcases (by omega : x = 0 ∨ x = 1) with rfl | rfl
        · have nb := KB.out.set jn (256)
          have nn := Lib.hid (bnd_put KN.out jn (y := 256) (by omega) (by omega))
          have nz := KZ.out.far (p := ⟨w.heap.size + 1, jn, none⟩) (by show w.heap.size ≠ w.heap.size + 1; omega) (.int .i64 (256))
          have nr := Lib.hid (KR.out.set (q := ⟨w.heap.size + 1, jn, none⟩) (by show g < w.heap.size + 1; omega) (.int .i64 (256)))
          have nd := Lib.hid (KD.out.set (p := ⟨w.heap.size + 1, jn, none⟩) (by show w.heap.size ≤ w.heap.size + 1; omega) (.int .i64 (256)))
          have hxm : (xs.set jn (256)).length = 16 := by rw [List.length_set]; exact hxl
          go_wp2_with (first | (first | refine wpList_load_arr rfl _ rfl _ rfl _ (by assumption) ?_ | refine wpList_load_arr_g (by rfl) _ rfl _ rfl _ (by assumption) ?_) | (refine wpList_store_arr rfl _ _ rfl _ rfl _ _ rfl (by first | assumption | rfl) (by assumption) ?_; intro w9 b9 g9 s9))
          refine bodyPost_ret (v := .agg (arr _)) (results_cell_row (by rfl) _ _ _ _ _ _ _ (by rfl) (Bl.blk b9) Tryd.underlying22 rfl (by rw [arr_size, hxm]; exact info_arr)) rfl ⟨_, rfl, hxm, nn.out, (nr.out.grown g9 (by omega)).more (by omega), nd.out.grown g9 (Nat.le_refl _)⟩
        · have nb := KB.out.set jn (-256)
          have nn := Lib.hid (bnd_put KN.out jn (y := -256) (by omega) (by omega))
          have nz := KZ.out.far (p := ⟨w.heap.size + 1, jn, none⟩) (by show w.heap.size ≠ w.heap.size + 1; omega) (.int .i64 (-256))
          have nr := Lib.hid (KR.out.set (q := ⟨w.heap.size + 1, jn, none⟩) (by show g < w.heap.size + 1; omega) (.int .i64 (-256)))
          have nd := Lib.hid (KD.out.set (p := ⟨w.heap.size + 1, jn, none⟩) (by show w.heap.size ≤ w.heap.size + 1; omega) (.int .i64 (-256)))
          have hxm : (xs.set jn (-256)).length = 16 := by rw [List.length_set]; exact hxl
          go_wp2_with (first | (first | refine wpList_load_arr rfl _ rfl _ rfl _ (by assumption) ?_ | refine wpList_load_arr_g (by rfl) _ rfl _ rfl _ (by assumption) ?_) | (refine wpList_store_arr rfl _ _ rfl _ rfl _ _ rfl (by first | assumption | rfl) (by assumption) ?_; intro w9 b9 g9 s9))
          refine bodyPost_ret (v := .agg (arr _)) (results_cell_row (by rfl) _ _ _ _ _ _ _ (by rfl) (Bl.blk b9) Tryd.underlying22 rfl (by rw [arr_size, hxm]; exact info_arr)) rfl ⟨_, rfl, hxm, nn.out, (nr.out.grown g9 (by omega)).more (by omega), nd.out.grown g9 (Nat.le_refl _)⟩

set_option maxRecDepth 100000 in
set_option maxHeartbeats 4000000 in
theorem l20Block_4080_12 (g P : Nat) (w : World) (h : Rdr w g P) (hP : P ≤ 900000) :
    Calls Tryd.prog 46 #[.pointer (some ⟨g, 0, none⟩), .int .i64 4080, .int .i64 12] w fun e w' => ∃ xs : List Int, e = .returned (.agg (arr xs)) ∧ xs.length = 16 ∧ bnd xs 5000 ∧ Rdr w' g (P + 60) ∧ Dr g w w' := by
  have hl := h.lt
  have bz := (Bl.zero w)
  go_enter Tryd.func46, Tryd.ntmps46
  go_wp2_with (first | (first | refine wpList_load_arr rfl _ rfl _ rfl _ (by assumption) ?_ | refine wpList_load_arr_g (by rfl) _ rfl _ rfl _ (by assumption) ?_) | (refine wpList_new_arr rfl _ rfl rfl rfl _ _ rfl rfl (List.replicate 16 0) rfl rfl ?_; intro w1 bb q1 z1))
  simp only [World.size_alloc] at bb z1
  replace bz := bz.q q1
  have QA : Q w w1 := ((Q.refl w).alloc _).trans q1
  have s1 : w.heap.size + 2 ≤ w1.heap.size := by omega
  have hR := h.q QA
  clear h q1 z1
  refine (pick _ _ _ _ hR (by omega) (by omega) (by omega)).mono ?_; rintro e w2 ⟨kd, rfl, kd1, kd2, r2, g2⟩
  have s2 := World.grownBy.size g2
  have b2 := bb.grown g2 (fun e => by have := Option.some.inj e; omega)
  have z2 := bz.grown g2 (fun e => by have := Option.some.inj e; omega)
  have D2 : Dr g w w2 := (Dr.of_q QA).trans g2
  clear hR bz bb QA g2
  go_wp2_with fail
  go_loopw [9] (fun i wr => ∃ k : Nat, k ≤ 16 ∧ i = .int .i64 k ∧ ∃ xs, Hid (Bl wr (w.heap.size + 1) xs) ∧ Hid (bnd xs 5000) ∧ Hid (Bl wr w.heap.size (List.replicate 16 0)) ∧ Hid (Rdr wr g (P + 1 + 2 * k)) ∧ Hid (Dr g w wr)) (fun i _ => 16 - (intOf i).toNat)
  case atStart => exact ⟨0, by omega, rfl, _, b2, fun i => by (rcases Nat.lt_or_ge i 16 with hi | hi); (rw [List.getElem?_replicate_of_lt hi]; simp); (rw [List.getElem?_eq_none (by simp; omega)]; simp), z2, r2, D2⟩
  case round =>
    obtain ⟨k, hk, rfl, xs, KB, KN, KZ, KR, KD⟩ := hrel
    clear b2 z2 r2 D2
    have swr := KD.out.size
    by_cases hlt : k < 16
    · have hk16 : (k : Int) < 16 := by omega
      have hw1 : w.heap.size + 1 < wr.heap.size := KB.out.lt
      rcases (by omega : kd = 0 ∨ kd = 1 ∨ kd = 2 ∨ kd = 3 ∨ kd = 4) with rfl | rfl | rfl | rfl | rfl
      · go_wp2_with fail
        refine (pick _ _ _ _ KR.out (by omega) (by omega) (by omega)).mono ?_; rintro e wa ⟨x, rfl, x1, x2, ra, ga⟩
        have sg := World.grownBy.size ga
        replace KB := Lib.hid (KB.out.grown ga (fun e => by have := Option.some.inj e; omega))
        replace KZ := Lib.hid (KZ.out.grown ga (fun e => by have := Option.some.inj e; omega))
        replace KR := Lib.hid ra
        replace KD := Lib.hid (KD.out.trans ga)
        clear ga ra
        have n1 := Lib.hid (KB.out.set k (x - 3))
        have n2 := Lib.hid (bnd_put KN.out k (y := x - 3) (by omega) (by omega))
        have n3 := Lib.hid (KZ.out.far (p := ⟨w.heap.size + 1, k, none⟩) (by show w.heap.size ≠ w.heap.size + 1; omega) (.int .i64 (x - 3)))
        have n4 := Lib.hid ((KR.out.set (q := ⟨w.heap.size + 1, k, none⟩) (by show g < w.heap.size + 1; omega) (.int .i64 (x - 3))).more (P' := P + 1 + 2 * (k + 1)) (by omega))
        have n5 := Lib.hid (KD.out.set (p := ⟨w.heap.size + 1, k, none⟩) (by show w.heap.size ≤ w.heap.size + 1; omega) (.int .i64 (x - 3)))
        have c1 := KB.out.at k hlt
        have f1 := KB.out.free k
        generalize xs[k]?.getD 0 = old at c1
        clear KB KN KZ KR KD
        go_wp2_with fail
        go_roundw
        case rel => exact ⟨k + 1, by omega, by go_num, _, n1.out, n2.out, n3.out, n4.out, n5.out⟩
        case measure => simp [intOf]; omega
      · go_wp2_with fail
        refine (pick _ _ _ _ KR.out (by omega) (by omega) (by omega)).mono ?_; rintro e wa ⟨x, rfl, x1, x2, ra, ga⟩
        have sg := World.grownBy.size ga
        replace KB := Lib.hid (KB.out.grown ga (fun e => by have := Option.some.inj e; omega))
        replace KZ := Lib.hid (KZ.out.grown ga (fun e => by have := Option.some.inj e; omega))
        replace KR := Lib.hid ra
        replace KD := Lib.hid (KD.out.trans ga)
        clear ga ra
        go_wp2_with fail
        refine (pick _ _ _ _ KR.out (by omega) (by omega) (by omega)).mono ?_; rintro e wb ⟨y, rfl, y1, y2, rb, gb⟩
        have sg := World.grownBy.size gb
        replace KB := Lib.hid (KB.out.grown gb (fun e => by have := Option.some.inj e; omega))
        replace KZ := Lib.hid (KZ.out.grown gb (fun e => by have := Option.some.inj e; omega))
        replace KR := Lib.hid rb
        replace KD := Lib.hid (KD.out.trans gb)
        clear gb rb
        obtain ⟨d, hd⟩ : ∃ d, (x * 256 + y).tmod 8161 = d := ⟨_, rfl⟩
        have hd2 : 0 ≤ d ∧ d < 8161 := by rw [← hd, Int.tmod_eq_emod_of_nonneg (by omega)]; omega
        have n1 := Lib.hid (KB.out.set k (d - 4080))
        have n2 := Lib.hid (bnd_put KN.out k (y := d - 4080) (by omega) (by omega))
        have n3 := Lib.hid (KZ.out.far (p := ⟨w.heap.size + 1, k, none⟩) (by show w.heap.size ≠ w.heap.size + 1; omega) (.int .i64 (d - 4080)))
        have n4 := Lib.hid ((KR.out.set (q := ⟨w.heap.size + 1, k, none⟩) (by show g < w.heap.size + 1; omega) (.int .i64 (d - 4080))).more (P' := P + 1 + 2 * (k + 1)) (by omega))
        have n5 := Lib.hid (KD.out.set (p := ⟨w.heap.size + 1, k, none⟩) (by show w.heap.size ≤ w.heap.size + 1; omega) (.int .i64 (d - 4080)))
        have c1 := KB.out.at k hlt
        have f1 := KB.out.free k
        generalize xs[k]?.getD 0 = old at c1
        clear KB KN KZ KR KD
        go_wp2_with fail
        go_roundw
        case rel => exact ⟨k + 1, by omega, by go_num, _, n1.out, n2.out, n3.out, n4.out, n5.out⟩
        case measure => simp [intOf]; omega
      · go_wp2_with fail
        have sg0 := World.size_alloc wr (.cells #[.int .i64 4080, .int .i64 (-4080), .int .i64 0] 3)
        have bl := Blk.new wr 3 #[.int .i64 4080, .int .i64 (-4080), .int .i64 0]
        have qal : Q wr (wr.alloc (.cells #[.int .i64 4080, .int .i64 (-4080), .int .i64 0] 3)) := (Q.refl wr).alloc _
        replace KB := Lib.hid (KB.out.q qal)
        replace KZ := Lib.hid (KZ.out.q qal)
        replace KR := Lib.hid (KR.out.q qal)
        replace KD := Lib.hid (KD.out.q qal)
        have hgr : g ≠ wr.heap.size := by omega
        clear qal
        refine (pick _ _ _ _ KR.out (by omega) (by omega) (by omega)).mono ?_; rintro e wa ⟨x, rfl, x1, x2, ra, ga⟩
        have bl2 := (bl.draw ga (Ne.symm hgr)).cell
        have sg := World.grownBy.size ga
        replace KB := Lib.hid (KB.out.grown ga (fun e => by have := Option.some.inj e; omega))
        replace KZ := Lib.hid (KZ.out.grown ga (fun e => by have := Option.some.inj e; omega))
        replace KR := Lib.hid ra
        replace KD := Lib.hid (KD.out.trans ga)
        clear ga ra
        clear bl
        rcases (by omega : x = 0 ∨ x = 1 ∨ x = 2) with rfl | rfl | rfl
        · skip
          have n1 := Lib.hid (KB.out.set k (4080))
          have n2 := Lib.hid (bnd_put KN.out k (y := 4080) (by omega) (by omega))
          have n3 := Lib.hid (KZ.out.far (p := ⟨w.heap.size + 1, k, none⟩) (by show w.heap.size ≠ w.heap.size + 1; omega) (.int .i64 (4080)))
          have n4 := Lib.hid ((KR.out.set (q := ⟨w.heap.size + 1, k, none⟩) (by show g < w.heap.size + 1; omega) (.int .i64 (4080))).more (P' := P + 1 + 2 * (k + 1)) (by omega))
          have n5 := Lib.hid (KD.out.set (p := ⟨w.heap.size + 1, k, none⟩) (by show w.heap.size ≤ w.heap.size + 1; omega) (.int .i64 (4080)))
          have c1 := KB.out.at k hlt
          have f1 := KB.out.free k
          generalize xs[k]?.getD 0 = old at c1
          clear KB KN KZ KR KD
          go_wp2_with fail
          go_roundw
          case rel => exact ⟨k + 1, by omega, by go_num, _, n1.out, n2.out, n3.out, n4.out, n5.out⟩
          case measure => simp [intOf]; omega
        · skip
          have n1 := Lib.hid (KB.out.set k (-4080))
          have n2 := Lib.hid (bnd_put KN.out k (y := -4080) (by omega) (by omega))
          have n3 := Lib.hid (KZ.out.far (p := ⟨w.heap.size + 1, k, none⟩) (by show w.heap.size ≠ w.heap.size + 1; omega) (.int .i64 (-4080)))
          have n4 := Lib.hid ((KR.out.set (q := ⟨w.heap.size + 1, k, none⟩) (by show g < w.heap.size + 1; omega) (.int .i64 (-4080))).more (P' := P + 1 + 2 * (k + 1)) (by omega))
          have n5 := Lib.hid (KD.out.set (p := ⟨w.heap.size + 1, k, none⟩) (by show w.heap.size ≤ w.heap.size + 1; omega) (.int .i64 (-4080)))
          have c1 := KB.out.at k hlt
          have f1 := KB.out.free k
          generalize xs[k]?.getD 0 = old at c1
          clear KB KN KZ KR KD
          go_wp2_with fail
          go_roundw
          case rel => exact ⟨k + 1, by omega, by go_num, _, n1.out, n2.out, n3.out, n4.out, n5.out⟩
          case measure => simp [intOf]; omega
        · skip
          have n1 := Lib.hid (KB.out.set k (0))
          have n2 := Lib.hid (bnd_put KN.out k (y := 0) (by omega) (by omega))
          have n3 := Lib.hid (KZ.out.far (p := ⟨w.heap.size + 1, k, none⟩) (by show w.heap.size ≠ w.heap.size + 1; omega) (.int .i64 (0)))
          have n4 := Lib.hid ((KR.out.set (q := ⟨w.heap.size + 1, k, none⟩) (by show g < w.heap.size + 1; omega) (.int .i64 (0))).more (P' := P + 1 + 2 * (k + 1)) (by omega))
          have n5 := Lib.hid (KD.out.set (p := ⟨w.heap.size + 1, k, none⟩) (by show w.heap.size ≤ w.heap.size + 1; omega) (.int .i64 (0)))
          have c1 := KB.out.at k hlt
          have f1 := KB.out.free k
          generalize xs[k]?.getD 0 = old at c1
          clear KB KN KZ KR KD
          go_wp2_with fail
          go_roundw
          case rel => exact ⟨k + 1, by omega, by go_num, _, n1.out, n2.out, n3.out, n4.out, n5.out⟩
          case measure => simp [intOf]; omega
      · obtain ⟨m4, hm4⟩ : ∃ m, (k : Int).tmod 4 = m := ⟨_, rfl⟩
        obtain ⟨d4, hd4⟩ : ∃ m, (k : Int).tdiv 4 = m := ⟨_, rfl⟩
        have m4b : 0 ≤ m4 ∧ m4 < 4 := by rw [← hm4, Int.tmod_eq_emod_of_nonneg (by omega)]; omega
        have d4b : 0 ≤ d4 ∧ d4 < 4 := by rw [← hd4, Int.tdiv_eq_ediv_of_nonneg (by omega)]; omega
        go_wp2_with fail
        refine (pick _ _ _ _ KR.out (by omega) (by omega) (by omega)).mono ?_; rintro e wa ⟨x, rfl, x1, x2, ra, ga⟩
        have sg := World.grownBy.size ga
        replace KB := Lib.hid (KB.out.grown ga (fun e => by have := Option.some.inj e; omega))
        replace KZ := Lib.hid (KZ.out.grown ga (fun e => by have := Option.some.inj e; omega))
        replace KR := Lib.hid ra
        replace KD := Lib.hid (KD.out.trans ga)
        clear ga ra
        have n1 := Lib.hid (KB.out.set k (4 * m4 - 7 * d4 + x))
        have n2 := Lib.hid (bnd_put KN.out k (y := 4 * m4 - 7 * d4 + x) (by omega) (by omega))
        have n3 := Lib.hid (KZ.out.far (p := ⟨w.heap.size + 1, k, none⟩) (by show w.heap.size ≠ w.heap.size + 1; omega) (.int .i64 (4 * m4 - 7 * d4 + x)))
        have n4 := Lib.hid ((KR.out.set (q := ⟨w.heap.size + 1, k, none⟩) (by show g < w.heap.size + 1; omega) (.int .i64 (4 * m4 - 7 * d4 + x))).more (P' := P + 1 + 2 * (k + 1)) (by omega))
        have n5 := Lib.hid (KD.out.set (p := ⟨w.heap.size + 1, k, none⟩) (by show w.heap.size ≤ w.heap.size + 1; omega) (.int .i64 (4 * m4 - 7 * d4 + x)))
        have c1 := KB.out.at k hlt
        have f1 := KB.out.free k
        generalize xs[k]?.getD 0 = old at c1
        clear KB KN KZ KR KD
        go_wp2_with fail
        go_roundw
        case rel => exact ⟨k + 1, by omega, by go_num, _, n1.out, n2.out, n3.out, n4.out, n5.out⟩
        case measure => simp [intOf]; omega
      · go_wp2_with fail
        refine (pick _ _ _ _ KR.out (by omega) (by omega) (by omega)).mono ?_; rintro e wa ⟨y, rfl, y1, y2, ra, ga⟩
        have sg := World.grownBy.size ga
        replace KB := Lib.hid (KB.out.grown ga (fun e => by have := Option.some.inj e; omega))
        replace KZ := Lib.hid (KZ.out.grown ga (fun e => by have := Option.some.inj e; omega))
        replace KR := Lib.hid ra
        replace KD := Lib.hid (KD.out.trans ga)
        clear ga ra
        by_cases hy : y = 0
        · subst hy
          go_wp2_with fail
          refine (pick _ _ _ _ KR.out (by omega) (by omega) (by omega)).mono ?_; rintro e wb ⟨x, rfl, x1, x2, rb, gb⟩
          have sg := World.grownBy.size gb
          replace KB := Lib.hid (KB.out.grown gb (fun e => by have := Option.some.inj e; omega))
          replace KZ := Lib.hid (KZ.out.grown gb (fun e => by have := Option.some.inj e; omega))
          replace KR := Lib.hid rb
          replace KD := Lib.hid (KD.out.trans gb)
          clear gb rb
          have n1 := Lib.hid (KB.out.set k (x - 60))
          have n2 := Lib.hid (bnd_put KN.out k (y := x - 60) (by omega) (by omega))
          have n3 := Lib.hid (KZ.out.far (p := ⟨w.heap.size + 1, k, none⟩) (by show w.heap.size ≠ w.heap.size + 1; omega) (.int .i64 (x - 60)))
          have n4 := Lib.hid ((KR.out.set (q := ⟨w.heap.size + 1, k, none⟩) (by show g < w.heap.size + 1; omega) (.int .i64 (x - 60))).more (P' := P + 1 + 2 * (k + 1)) (by omega))
          have n5 := Lib.hid (KD.out.set (p := ⟨w.heap.size + 1, k, none⟩) (by show w.heap.size ≤ w.heap.size + 1; omega) (.int .i64 (x - 60)))
          have c1 := KB.out.at k hlt
          have f1 := KB.out.free k
          generalize xs[k]?.getD 0 = old at c1
          clear KB KN KZ KR KD
          go_wp2_with fail
          go_roundw
          case rel => exact ⟨k + 1, by omega, by go_num, _, n1.out, n2.out, n3.out, n4.out, n5.out⟩
          case measure => simp [intOf]; omega
        · have hyb : (y == 0) = false := by rw [beq_eq_false_iff_ne]; exact hy
          go_wp2_with fail
          go_roundw
          case rel => exact ⟨k + 1, by omega, by go_num, _, KB.out, KN.out, KZ.out, KR.out.more (by omega), KD.out⟩
          case measure => simp [intOf]; omega
    · have hk16 : k = 16 := by omega
      subst hk16
      replace KR := Lib.hid (KR.out.more (P' := P + 40) (by omega))
      have hxl := KB.out.len
      go_wp2_with fail
      refine (odd _ _ _ _ KR.out (by omega) (by omega) (by omega)).mono ?_; rintro e wa ⟨t, rfl, ra, ga⟩
      have sg := World.grownBy.size ga
      replace KB := Lib.hid (KB.out.grown ga (fun e => by have := Option.some.inj e; omega))
      replace KZ := Lib.hid (KZ.out.grown ga (fun e => by have := Option.some.inj e; omega))
      replace KR := Lib.hid ra
      replace KD := Lib.hid (KD.out.trans ga)
      clear ga ra
      have hw1 : w.heap.size + 1 < wa.heap.size := KB.out.lt
      cases t
      · have kb := KB.out
        have kz := KZ.out
        go_wp2_with (first | (first | refine wpList_load_arr rfl _ rfl _ rfl _ (by assumption) ?_ | refine wpList_load_arr_g (by rfl) _ rfl _ rfl _ (by assumption) ?_) | (refine wpList_store_arr rfl _ _ rfl _ rfl _ _ rfl (by first | assumption | rfl) (by assumption) ?_; intro w9 b9 g9 s9))
        refine bodyPost_ret (v := .agg (arr _)) (results_cell_row (by rfl) _ _ _ _ _ _ _ (by rfl) (Bl.blk b9) Tryd.underlying22 rfl (by rw [arr_size, hxl]; exact info_arr)) rfl ⟨_, rfl, hxl, KN.out, (KR.out.grown g9 (by omega)).more (by omega), KD.out.grown g9 (Nat.le_refl _)⟩
      · go_wp2_with fail
        refine (pick _ _ _ _ KR.out (by omega) (by omega) (by omega)).mono ?_; rintro e wb ⟨j, rfl, j1, j2, rb, gb⟩
        have sg := World.grownBy.size gb
        replace KB := Lib.hid (KB.out.grown gb (fun e => by have := Option.some.inj e; omega))
        replace KZ := Lib.hid (KZ.out.grown gb (fun e => by have := Option.some.inj e; omega))
        replace KR := Lib.hid rb
        replace KD := Lib.hid (KD.out.trans gb)
        clear gb rb
        obtain ⟨jn, rfl⟩ : ∃ n : Nat, j = (n : Int) := ⟨j.toNat, by omega⟩
        have jn16 : jn < 16 := by omega
        have hw2 : w.heap.size + 1 < wb.heap.size := KB.out.lt
        go_wp2_with fail
        have sg0 := World.size_alloc wb (.cells #[.int .i64 4081, .int .i64 (-4081)] 3)
        have bl := Blk.new wb 3 #[.int .i64 4081, .int .i64 (-4081)]
        have qal : Q wb (wb.alloc (.cells #[.int .i64 4081, .int .i64 (-4081)] 3)) := (Q.refl wb).alloc _
        replace KB := Lib.hid (KB.out.q qal)
        replace KZ := Lib.hid (KZ.out.q qal)
        replace KR := Lib.hid (KR.out.q qal)
        replace KD := Lib.hid (KD.out.q qal)
        have hgr : g ≠ wb.heap.size := by omega
        clear qal
        refine (pick _ _ _ _ KR.out (by omega) (by omega) (by omega)).mono ?_; rintro e wc ⟨x, rfl, x1, x2, rc, gc⟩
        have bl2 := (bl.draw gc (Ne.symm hgr)).cell
        have sg := World.grownBy.size gc
        replace KB := Lib.hid (KB.out.grown gc (fun e => by have := Option.some.inj e; omega))
        replace KZ := Lib.hid (KZ.out.grown gc (fun e => by have := Option.some.inj e; omega))
        replace KR := Lib.hid rc
        replace KD := Lib.hid (KD.out.trans gc)
        clear gc rc
        clear bl
        have c1 := KB.out.at jn jn16
        have f1 := KB.out.free jn
        generalize xs[jn]?.getD 0 = old at c1
        rcases (by omega : x = 0 ∨ x = 1) with rfl | rfl
        · have nb := KB.out.set jn (4081)
          have nn := Lib.hid (bnd_put KN.out jn (y := 4081) (by omega) (by omega))
          have nz := KZ.out.far (p := ⟨w.heap.size + 1, jn, none⟩) (by show w.heap.size ≠ w.heap.size + 1; omega) (.int .i64 (4081))
          have nr := Lib.hid (KR.out.set (q := ⟨w.heap.size + 1, jn, none⟩) (by show g < w.heap.size + 1; omega) (.int .i64 (4081)))
          have nd := Lib.hid (KD.out.set (p := ⟨w.heap.size + 1, jn, none⟩) (by show w.heap.size ≤ w.heap.size + 1; omega) (.int .i64 (4081)))
          have hxm : (xs.set jn (4081)).length = 16 := by rw [List.length_set]; exact hxl
          go_wp2_with (first | (first | refine wpList_load_arr rfl _ rfl _ rfl _ (by assumption) ?_ | refine wpList_load_arr_g (by rfl) _ rfl _ rfl _ (by assumption) ?_) | (refine wpList_store_arr rfl _ _ rfl _ rfl _ _ rfl (by first | assumption | rfl) (by assumption) ?_; intro w9 b9 g9 s9))
          refine bodyPost_ret (v := .agg (arr _)) (results_cell_row (by rfl) _ _ _ _ _ _ _ (by rfl) (Bl.blk b9) Tryd.underlying22 rfl (by rw [arr_size, hxm]; exact info_arr)) rfl ⟨_, rfl, hxm, nn.out, (nr.out.grown g9 (by omega)).more (by omega), nd.out.grown g9 (Nat.le_refl _)⟩
        · have nb := KB.out.set jn (-4081)
          have nn := Lib.hid (bnd_put KN.out jn (y := -4081) (by omega) (by omega))
          have nz := KZ.out.far (p := ⟨w.heap.size + 1, jn, none⟩) (by show w.heap.size ≠ w.heap.size + 1; omega) (.int .i64 (-4081))
          have nr := Lib.hid (KR.out.set (q := ⟨w.heap.size + 1, jn, none⟩) (by show g < w.heap.size + 1; omega) (.int .i64 (-4081)))
          have nd := Lib.hid (KD.out.set (p := ⟨w.heap.size + 1, jn, none⟩) (by show w.heap.size ≤ w.heap.size + 1; omega) (.int .i64 (-4081)))
          have hxm : (xs.set jn (-4081)).length = 16 := by rw [List.length_set]; exact hxl
          go_wp2_with (first | (first | refine wpList_load_arr rfl _ rfl _ rfl _ (by assumption) ?_ | refine wpList_load_arr_g (by rfl) _ rfl _ rfl _ (by assumption) ?_) | (refine wpList_store_arr rfl _ _ rfl _ rfl _ _ rfl (by first | assumption | rfl) (by assumption) ?_; intro w9 b9 g9 s9))
          refine bodyPost_ret (v := .agg (arr _)) (results_cell_row (by rfl) _ _ _ _ _ _ _ (by rfl) (Bl.blk b9) Tryd.underlying22 rfl (by rw [arr_size, hxm]; exact info_arr)) rfl ⟨_, rfl, hxm, nn.out, (nr.out.grown g9 (by omega)).more (by omega), nd.out.grown g9 (Nat.le_refl _)⟩

set_option maxRecDepth 100000 in
set_option maxHeartbeats 4000000 in
theorem l20Block_90_0 (g P : Nat) (w : World) (h : Rdr w g P) (hP : P ≤ 900000) :
    Calls Tryd.prog 46 #[.pointer (some ⟨g, 0, none⟩), .int .i64 90, .int .i64 0] w fun e w' => ∃ xs : List Int, e = .returned (.agg (arr xs)) ∧ xs.length = 16 ∧ bnd xs 5000 ∧ Rdr w' g (P + 60) ∧ Dr g w w' := by
  have hl := h.lt
  have bz := (Bl.zero w)
  go_enter Tryd.func46, Tryd.ntmps46
  go_wp2_with (first | (first | refine wpList_load_arr rfl _ rfl _ rfl _ (by assumption) ?_ | refine wpList_load_arr_g (by rfl) _ rfl _ rfl _ (by assumption) ?_) | (refine wpList_new_arr rfl _ rfl rfl rfl _ _ rfl rfl (List.replicate 16 0) rfl rfl ?_; intro w1 bb q1 z1))
  simp only [World.size_alloc] at bb z1
  replace bz := bz.q q1
  have QA : Q w w1 := ((Q.refl w).alloc _).trans q1
  have s1 : w.heap.size + 2 ≤ w1.heap.size := by omega
  have hR := h.q QA
  clear h q1 z1
  refine (pick _ _ _ _ hR (by omega) (by omega) (by omega)).mono ?_; rintro e w2 ⟨kd, rfl, kd1, kd2, r2, g2⟩
  have s2 := World.grownBy.size g2
  have b2 := bb.grown g2 (fun e => by have := Option.some.inj e; omega)
  have z2 := bz.grown g2 (fun e => by have := Option.some.inj e; omega)
  have D2 : Dr g w w2 := (Dr.of_q QA).trans g2
  clear hR bz bb QA g2
  go_wp2_with fail
  go_loopw [9] (fun i wr => ∃ k : Nat, k ≤ 16 ∧ i = .int .i64 k ∧ ∃ xs, Hid (Bl wr (w.heap.size + 1) xs) ∧ Hid (bnd xs 5000) ∧ Hid (Bl wr w.heap.size (List.replicate 16 0)) ∧ Hid (Rdr wr g (P + 1 + 2 * k)) ∧ Hid (Dr g w wr)) (fun i _ => 16 - (intOf i).toNat)
  case atStart => exact ⟨0, by omega, rfl, _, b2, fun i => by (rcases Nat.lt_or_ge i 16 with hi | hi); (rw [List.getElem?_replicate_of_lt hi]; simp); (rw [List.getElem?_eq_none (by simp; omega)]; simp), z2, r2, D2⟩
  case round =>
    obtain ⟨k, hk, rfl, xs, KB, KN, KZ, KR, KD⟩ := hrel
    clear b2 z2 r2 D2
    have swr := KD.out.size
    by_cases hlt : k < 16
    · have hk16 : (k : Int) < 16 := by omega
      have hw1 : w.heap.size + 1 < wr.heap.size := KB.out.lt
      rcases (by omega : kd = 0 ∨ kd = 1 ∨ kd = 2 ∨ kd = 3 ∨ kd = 4) with rfl | rfl | rfl | rfl | rfl
      · go_wp2_with fail
        refine (pick _ _ _ _ KR.out (by omega) (by omega) (by omega)).mono ?_; rintro e wa ⟨x, rfl, x1, x2, ra, ga⟩
        have sg := World.grownBy.size ga
        replace KB := Lib.hid (KB.out.grown ga (fun e => by have := Option.some.inj e; omega))
        replace KZ := Lib.hid (KZ.out.grown ga (fun e => by have := Option.some.inj e; omega))
        replace KR := Lib.hid ra
        replace KD := Lib.hid (KD.out.trans ga)
        clear ga ra
        have n1 := Lib.hid (KB.out.set k (x - 3))
        have n2 := Lib.hid (bnd_put KN.out k (y := x - 3) (by omega) (by omega))
        have n3 := Lib.hid (KZ.out.far (p := ⟨w.heap.size + 1, k, none⟩) (by show w.heap.size ≠ w.heap.size + 1; omega) (.int .i64 (x - 3)))
        have n4 := Lib.hid ((KR.out.set (q := ⟨w.heap.size + 1, k, none⟩) (by show g < w.heap.size + 1; omega) (.int .i64 (x - 3))).more (P' := P + 1 + 2 * (k + 1)) (by omega))
        have n5 := Lib.hid (KD.out.set (p := ⟨w.heap.size + 1, k, none⟩) (by show w.heap.size ≤ w.heap.size + 1; omega) (.int .i64 (x - 3)))
        have c1 := KB.out.at k hlt
        have f1 := KB.out.free k
        generalize xs[k]?.getD 0 = old at c1
        clear KB KN KZ KR KD
        go_wp2_with fail
        go_roundw
        case rel => exact ⟨k + 1, by omega, by go_num, _, n1.out, n2.out, n3.out, n4.out, n5.out⟩
        case measure => simp [intOf]; omega
      · go_wp2_with fail
        refine (pick _ _ _ _ KR.out (by omega) (by omega) (by omega)).mono ?_; rintro e wa ⟨x, rfl, x1, x2, ra, ga⟩
        have sg := World.grownBy.size ga
        replace KB := Lib.hid (KB.out.grown ga (fun e => by have := Option.some.inj e; omega))
        replace KZ := Lib.hid (KZ.out.grown ga (fun e => by have := Option.some.inj e; omega))
        replace KR := Lib.hid ra
        replace KD := Lib.hid (KD.out.trans ga)
        clear ga ra
        go_wp2_with fail
        refine (pick _ _ _ _ KR.out (by omega) (by omega) (by omega)).mono ?_; rintro e wb ⟨y, rfl, y1, y2, rb, gb⟩
        have sg := World.grownBy.size gb
        replace KB := Lib.hid (KB.out.grown gb (fun e => by have := Option.some.inj e; omega))
        replace KZ := Lib.hid (KZ.out.grown gb (fun e => by have := Option.some.inj e; omega))
        replace KR := Lib.hid rb
        replace KD := Lib.hid (KD.out.trans gb)
        clear gb rb
        obtain ⟨d, hd⟩ : ∃ d, (x * 256 + y).tmod 181 = d := ⟨_, rfl⟩
        have hd2 : 0 ≤ d ∧ d < 181 := by rw [← hd, Int.tmod_eq_emod_of_nonneg (by omega)]; omega
        have n1 := Lib.hid (KB.out.set k (d - 90))
        have n2 := Lib.hid (bnd_put KN.out k (y := d - 90) (by omega) (by omega))
        have n3 := Lib.hid (KZ.out.far (p := ⟨w.heap.size + 1, k, none⟩) (by show w.heap.size ≠ w.heap.size + 1; omega) (.int .i64 (d - 90)))
        have n4 := Lib.hid ((KR.out.set (q := ⟨w.heap.size + 1, k, none⟩) (by show g < w.heap.size + 1; omega) (.int .i64 (d - 90))).more (P' := P + 1 + 2 * (k + 1)) (by omega))
        have n5 := Lib.hid (KD.out.set (p := ⟨w.heap.size + 1, k, none⟩) (by show w.heap.size ≤ w.heap.size + 1; omega) (.int .i64 (d - 90)))
        have c1 := KB.out.at k hlt
        have f1 := KB.out.free k
        generalize xs[k]?.getD 0 = old at c1
        clear KB KN KZ KR KD
        go_wp2_with fail
        go_roundw
        case rel => exact ⟨k + 1, by omega, by go_num, _, n1.out, n2.out, n3.out, n4.out, n5.out⟩
        case measure => simp [intOf]; omega
      · go_wp2_with fail
        have sg0 := World.size_alloc wr (.cells #[.int .i64 90, .int .i64 (-90), .int .i64 0] 3)
        have bl := Blk.new wr 3 #[.int .i64 90, .int .i64 (-90), .int .i64 0]
        have qal : Q wr (wr.alloc (.cells #[.int .i64 90, .int .i64 (-90), .int .i64 0] 3)) := (Q.refl wr).alloc _
        replace KB := Lib.hid (KB.out.q qal)
        replace KZ := Lib.hid (KZ.out.q qal)
        replace KR := Lib.hid (KR.out.q qal)
        replace KD := Lib.hid (KD.out.q qal)
        have hgr : g ≠ wr.heap.size := by omega
        clear qal
        refine (pick _ _ _ _ KR.out (by omega) (by omega) (by omega)).mono ?_; rintro e wa ⟨x, rfl, x1, x2, ra, ga⟩
        have bl2 := (bl.draw ga (Ne.symm hgr)).cell
        have sg := World.grownBy.size ga
        replace KB := Lib.hid (KB.out.grown ga (fun e => by have := Option.some.inj e; omega))
        replace KZ := Lib.hid (KZ.out.grown ga (fun e => by have := Option.some.inj e; omega))
        replace KR := Lib.hid ra
        replace KD := Lib.hid (KD.out.trans ga)
        clear ga ra
        clear bl
        rcases (by omega : x = 0 ∨ x = 1 ∨ x = 2) with rfl | rfl | rfl
        · skip
          have n1 := Lib.hid (KB.out.set k (90))
          have n2 := Lib.hid (bnd_put KN.out k (y := 90) (by omega) (by omega))
          have n3 := Lib.hid (KZ.out.far (p := ⟨w.heap.size + 1, k, none⟩) (by show w.heap.size ≠ w.heap.size + 1; omega) (.int .i64 (90)))
          have n4 := Lib.hid ((KR.out.set (q := ⟨w.heap.size + 1, k, none⟩) (by show g < w.heap.size + 1; omega) (.int .i64 (90))).more (P' := P + 1 + 2 * (k + 1)) (by omega))
          have n5 := Lib.hid (KD.out.set (p := ⟨w.heap.size + 1, k, none⟩) (by show w.heap.size ≤ w.heap.size + 1; omega) (.int .i64 (90)))
          have c1 := KB.out.at k hlt
          have f1 := KB.out.free k
          generalize xs[k]?.getD 0 = old at c1
          clear KB KN KZ KR KD
          go_wp2_with fail
          go_roundw
          case rel => exact ⟨k + 1, by omega, by go_num, _, n1.out, n2.out, n3.out, n4.out, n5.out⟩
          case measure => simp [intOf]; omega
        · skip
          have n1 := Lib.hid (KB.out.set k (-90))
          have n2 := Lib.hid (bnd_put KN.out k (y := -90) (by omega) (by omega))
          have n3 := Lib.hid (KZ.out.far (p := ⟨w.heap.size + 1, k, none⟩) (by show w.heap.size ≠ w.heap.size + 1; omega) (.int .i64 (-90)))
          have n4 := Lib.hid ((KR.out.set (q := ⟨w.heap.size + 1, k, none⟩) (by show g < w.heap.size + 1; omega) (.int .i64 (-90))).more (P' := P + 1 + 2 * (k + 1)) (by omega))
          have n5 := Lib.hid (KD.out.set (p := ⟨w.heap.size + 1, k, none⟩) (by show w.heap.size ≤ w.heap.size + 1; omega) (.int .i64 (-90)))
          have c1 := KB.out.at k hlt
          have f1 := KB.out.free k
          generalize xs[k]?.getD 0 = old at c1
          clear KB KN KZ KR KD
          go_wp2_with fail
          go_roundw
          case rel => exact ⟨k + 1, by omega, by go_num, _, n1.out, n2.out, n3.out, n4.out, n5.out⟩
          case measure => simp [intOf]; omega
        · skip
          have n1 := Lib.hid (KB.out.set k (0))
          have n2 := Lib.hid (bnd_put KN.out k (y := 0) (by omega) (by omega))
          have n3 := Lib.hid (KZ.out.far (p := ⟨w.heap.size + 1, k, none⟩) (by show w.heap.size ≠ w.heap.size + 1; omega) (.int .i64 (0)))
          have n4 := Lib.hid ((KR.out.set (q := ⟨w.heap.size + 1, k, none⟩) (by show g < w.heap.size + 1; omega) (.int .i64 (0))).more (P' := P + 1 + 2 * (k + 1)) (by omega))
          have n5 := Lib.hid (KD.out.set (p := ⟨w.heap.size + 1, k, none⟩) (by show w.heap.size ≤ w.heap.size + 1; omega) (.int .i64 (0)))
          have c1 := KB.out.at k hlt
          have f1 := KB.out.free k
          generalize xs[k]?.getD 0 = old at c1
          clear KB KN KZ KR KD
          go_wp2_with fail
          go_roundw
          case rel => exact ⟨k + 1, by omega, by go_num, _, n1.out, n2.out, n3.out, n4.out, n5.out⟩
          case measure => simp [intOf]; omega
      · obtain ⟨m4, hm4⟩ : ∃ m, (k : Int).tmod 4 = m := ⟨_, rfl⟩
        obtain ⟨d4, hd4⟩ : ∃ m, (k : Int).tdiv 4 = m := ⟨_, rfl⟩
        have m4b : 0 ≤ m4 ∧ m4 < 4 := by rw [← hm4, Int.tmod_eq_emod_of_nonneg (by omega)]; omega
        have d4b : 0 ≤ d4 ∧ d4 < 4 := by rw [← hd4, Int.tdiv_eq_ediv_of_nonneg (by omega)]; omega
        go_wp2_with fail
        refine (pick _ _ _ _ KR.out (by omega) (by omega) (by omega)).mono ?_; rintro e wa ⟨x, rfl, x1, x2, ra, ga⟩
        have sg := World.grownBy.size ga
        replace KB := Lib.hid (KB.out.grown ga (fun e => by have := Option.some.inj e; omega))
        replace KZ := Lib.hid (KZ.out.grown ga (fun e => by have := Option.some.inj e; omega))
        replace KR := Lib.hid ra
        replace KD := Lib.hid (KD.out.trans ga)
        clear ga ra
        have n1 := Lib.hid (KB.out.set k (4 * m4 - 7 * d4 + x))
        have n2 := Lib.hid (bnd_put KN.out k (y := 4 * m4 - 7 * d4 + x) (by omega) (by omega))
        have n3 := Lib.hid (KZ.out.far (p := ⟨w.heap.size + 1, k, none⟩) (by show w.heap.size ≠ w.heap.size + 1; omega) (.int .i64 (4 * m4 - 7 * d4 + x)))
        have n4 := Lib.hid ((KR.out.set (q := ⟨w.heap.size + 1, k, none⟩) (by show g < w.heap.size + 1; omega) (.int .i64 (4 * m4 - 7 * d4 + x))).more (P' := P + 1 + 2 * (k + 1)) (by omega))
        have n5 := Lib.hid (KD.out.set (p := ⟨w.heap.size + 1, k, none⟩) (by show w.heap.size ≤ w.heap.size + 1; omega) (.int .i64 (4 * m4 - 7 * d4 + x)))
        have c1 := KB.out.at k hlt
        have f1 := KB.out.free k
        generalize xs[k]?.getD 0 = old at c1
        clear KB KN KZ KR KD
        go_wp2_with fail
        go_roundw
        case rel => exact ⟨k + 1, by omega, by go_num, _, n1.out, n2.out, n3.out, n4.out, n5.out⟩
        case measure => simp [intOf]; omega
      · go_wp2_with fail
        refine (pick _ _ _ _ KR.out (by omega) (by omega) (by omega)).mono ?_; rintro e wa ⟨y, rfl, y1, y2, ra, ga⟩
        have sg := World.grownBy.size ga
        replace KB := Lib.hid (KB.out.grown ga (fun e => by have := Option.some.inj e; omega))
        replace KZ := Lib.hid (KZ.out.grown ga (fun e => by have := Option.some.inj e; omega))
        replace KR := Lib.hid ra
        replace KD := Lib.hid (KD.out.trans ga)
        clear ga ra
        by_cases hy : y = 0
        · subst hy
          go_wp2_with fail
          refine (pick _ _ _ _ KR.out (by omega) (by omega) (by omega)).mono ?_; rintro e wb ⟨x, rfl, x1, x2, rb, gb⟩
          have sg := World.grownBy.size gb
          replace KB := Lib.hid (KB.out.grown gb (fun e => by have := Option.some.inj e; omega))
          replace KZ := Lib.hid (KZ.out.grown gb (fun e => by have := Option.some.inj e; omega))
          replace KR := Lib.hid rb
          replace KD := Lib.hid (KD.out.trans gb)
          clear gb rb
          have n1 := Lib.hid (KB.out.set k (x - 60))
          have n2 := Lib.hid (bnd_put KN.out k (y := x - 60) (by omega) (by omega))
          have n3 := Lib.hid (KZ.out.far (p := ⟨w.heap.size + 1, k, none⟩) (by show w.heap.size ≠ w.heap.size + 1; omega) (.int .i64 (x - 60)))
          have n4 := Lib.hid ((KR.out.set (q := ⟨w.heap.size + 1, k, none⟩) (by show g < w.heap.size + 1; omega) (.int .i64 (x - 60))).more (P' := P + 1 + 2 * (k + 1)) (by omega))
          have n5 := Lib.hid (KD.out.set (p := ⟨w.heap.size + 1, k, none⟩) (by show w.heap.size ≤ w.heap.size + 1; omega) (.int .i64 (x - 60)))
          have c1 := KB.out.at k hlt
          have f1 := KB.out.free k
          generalize xs[k]?.getD 0 = old at c1
          clear KB KN KZ KR KD
          go_wp2_with fail
          go_roundw
          case rel => exact ⟨k + 1, by omega, by go_num, _, n1.out, n2.out, n3.out, n4.out, n5.out⟩
          case measure => simp [intOf]; omega
        · have hyb : (y == 0) = false := by rw [beq_eq_false_iff_ne]; exact hy
          go_wp2_with fail
          go_roundw
          case rel => exact ⟨k + 1, by omega, by go_num, _, KB.out, KN.out, KZ.out, KR.out.more (by omega), KD.out⟩
          case measure => simp [intOf]; omega
    · have hk16 : k = 16 := by omega
      subst hk16
      replace KR := Lib.hid (KR.out.more (P' := P + 40) (by omega))
      have hxl := KB.out.len
      go_wp2_with fail
      refine (odd0 _ _).mono ?_; rintro e wa ⟨rfl, rfl⟩
      have kb := KB.out
      have kz := KZ.out
      go_wp2_with (first | (first | refine wpList_load_arr rfl _ rfl _ rfl _ (by assumption) ?_ | refine wpList_load_arr_g (by rfl) _ rfl _ rfl _ (by assumption) ?_) | (refine wpList_store_arr rfl _ _ rfl _ rfl _ _ rfl (by first | assumption | rfl) (by assumption) ?_; intro w9 b9 g9 s9))
      refine bodyPost_ret (v := .agg (arr _)) (results_cell_row (by rfl) _ _ _ _ _ _ _ (by rfl) (Bl.blk b9) Tryd.underlying22 rfl (by rw [arr_size, hxl]; exact info_arr)) rfl ⟨_, rfl, hxl, KN.out, (KR.out.grown g9 (by omega)).more (by omega), KD.out.grown g9 (Nat.le_refl _)⟩
end Go.Proofs.YtkdmhlbmhjolcaaDoor

/-
  The drawing of pictures: a side, the samples.
-/
import Derived.Test.YtoipcfpbkjanhaaDraw2
import Derived.Test.YtoipcfpbkjanhaaCarry
import Derived.Test.YtoipcfpbkjanhaaPicts
import Derived.Test.YtoipcfpbkjanhaaAppend
import Derived.Test.YtoipcfpbkjanhaaTab
import Derived.Deep.DeepCutAuto
namespace Go.Proofs.Ytoipcfpbkjanhaa
open Go.RowKit

theorem OwnI.draw {w w' : World} {lo hi g n : Nat} {v : Value} {xs : List Int} (h : OwnI w lo hi v n xs) (hg : w.grownBy w' (some g)) (hd : g < lo ∨ hi ≤ g) : OwnI w' lo hi v n xs := by
  refine ⟨h.1.other hg ?_, h.2⟩
  cases hv : v.ownBlock with
  | none => exact .inl rfl
  | some k =>
    refine .inr fun e => ?_
    cases e
    have h1 := (h.1.2.lt g hv).1
    have h2 := h.2 g hv
    omega

/-- what drawing leaves: old blocks read as they did, but the reader's; there may be new ones -/
def Dr (g : Nat) (w w' : World) : Prop := w.grownBy w' (some g)
section
variable {a b c w w' : World} {g : Nat}
theorem Dr.refl (g : Nat) (w : World) : Dr g w w := World.grownBy.refl w _
theorem Dr.trans (h : Dr g a b) (k : Dr g b c) : Dr g a c := World.grownBy.andThen (row' := some g) h k (fun _ e => .inr e)
theorem Dr.of_q (h : Q a b) : Dr g a b := ⟨h.os, h.tape, h.output, h.size, fun k hk _ => h.block k hk⟩
theorem Dr.q (h : Dr g a b) (k : Q b c) : Dr g a c := h.trans (Dr.of_q k)
theorem Dr.size (h : Dr g a b) : a.heap.size ≤ b.heap.size := World.grownBy.size h
theorem Dr.grown (h : Dr g a w) {k : Nat} (hg : w.grownBy w' (some k)) (hk : a.heap.size ≤ k) : Dr g a w' := ⟨hg.os.trans h.os, hg.tape.trans h.tape, hg.output.trans h.output, Nat.le_trans h.size hg.size, fun i hi hne => (hg.block i (Nat.lt_of_lt_of_le hi h.size) (fun e => by cases e; omega)).trans (h.block i hi hne)⟩
theorem Dr.mark (h : Dr g a w) {lo hi n : Nat} {v : Value} {ys : List Int} (h' : OwnI w lo hi v n ys) (hg : w.grownBy w' v.ownBlock) (hd : a.heap.size ≤ lo) : Dr g a w' := ⟨hg.os.trans h.os, hg.tape.trans h.tape, hg.output.trans h.output, Nat.le_trans h.size hg.size, fun i hi hne => (hg.block i (Nat.lt_of_lt_of_le hi h.size) (fun e => by have := (h'.1.2.lt i e.symm).1; omega)).trans (h.block i hi hne)⟩
theorem Dr.set (h : Dr g a w) {p : Addr} (hp : a.heap.size ≤ p.block) (u : Value) : Dr g a (w.setCell p u) := ⟨h.os, h.tape, h.output, by simpa [World.setCell] using h.size, fun i hi hne => (Below.heap_setCell w p u i (by omega)).trans (h.block i hi hne)⟩
theorem Rdr.own {P : Nat} (h : Rdr w g P) {lo hi n : Nat} {v : Value} {ys : List Int} (h' : OwnI w lo hi v n ys) (hg : w.grownBy w' v.ownBlock) (hd : g < lo) : Rdr w' g P := by
  obtain ⟨A, n, c, xs, p, h1, h2, h3, h4, h5⟩ := h
  have hl := h1.lt
  refine ⟨A, n, c, xs, p, h1.mark h' hg (.inl hd), h2, h3, h4.keep (fun b o hb => ?_), h5⟩
  exact World.cell?_of_block (a := ⟨b, o, none⟩) (hg.block b (by omega) (fun e => by have := (h'.1.2.lt b e.symm).1; omega))
end

set_option maxHeartbeats 1000000 in
theorem l20Size (g P : Nat) (w : World) (h : Rdr w g P) (hP : P ≤ 900000) :
    Calls Try.prog 71 #[.pointer (some ⟨g, 0, none⟩)] w fun e w' => ∃ s : Int, e = .returned (.int .i64 s) ∧ (8 ≤ s ∧ s ≤ 32 ∧ s % 8 = 0) ∧ Rdr w' g (P + 1) ∧ Dr g w w' := by
  have hl := h.lt
  have hs : (w.alloc (.cells #[.int .i64 1, .int .i64 1, .int .i64 1, .int .i64 2, .int .i64 2, .int .i64 3, .int .i64 4] 3)).heap.size = w.heap.size + 1 := by simp
  go_enter Try.func71, Try.ntmps71
  go_wp2_with fail
  refine (pick _ _ _ _ (h.alloc _) (by omega) (by omega) (by omega)).mono ?_; rintro e w2 ⟨x, rfl, x1, x2, r2, g2⟩
  have l2 := ((Blk.new w 3 #[.int .i64 1, .int .i64 1, .int .i64 1, .int .i64 2, .int .i64 2, .int .i64 3, .int .i64 4]).draw g2 (by omega)).cell
  have D2 : Dr g w w2 := (Dr.of_q ((Q.refl w).alloc _)).trans g2
  clear h g2
  rcases (by omega : x = 0 ∨ x = 1 ∨ x = 2 ∨ x = 3 ∨ x = 4 ∨ x = 5 ∨ x = 6) with rfl | rfl | rfl | rfl | rfl | rfl | rfl
  all_goals
    go_wp2_with fail
    go_ret
    exact ⟨_, rfl, by omega, r2, D2⟩

def Smp (xs : List Int) : Prop := ∀ i : Nat, 0 ≤ xs[i]?.getD 0 ∧ xs[i]?.getD 0 ≤ 255
theorem Smp.nil : Smp [] := fun i => by simp
theorem Smp.snoc {xs : List Int} (h : Smp xs) {y : Int} (h1 : 0 ≤ y) (h2 : y ≤ 255) : Smp (xs ++ [y]) := fun i => by
  rcases Nat.lt_or_ge i xs.length with hi | hi
  · rw [List.getElem?_append_left hi]; exact h i
  · rw [List.getElem?_append_right hi]
    cases i - xs.length with
    | zero => simpa using ⟨h1, h2⟩
    | succ j => simp
theorem mul_range {d x lo hi n : Int} (h1 : lo ≤ d) (h2 : d ≤ hi) (h3 : 0 ≤ x) (h4 : x ≤ n) (hlo : lo ≤ 0) (hhi : 0 ≤ hi) : lo * n ≤ d * x ∧ d * x ≤ hi * n := by
  constructor
  · have a1 : lo * n ≤ lo * x := Int.mul_le_mul_of_nonpos_left hlo h4
    have a2 : lo * x ≤ d * x := Int.mul_le_mul_of_nonneg_right h1 h3
    omega
  · have a1 : d * x ≤ hi * x := Int.mul_le_mul_of_nonneg_right h2 h3
    have a2 : hi * x ≤ hi * n := Int.mul_le_mul_of_nonneg_left h4 hhi
    omega

theorem wpList_append_i {w : World} {ops : Array Oper} {rest : List Oper} {o : Oper} {a : Act} {Q' : Exit → Act → World → Prop} (hgd : o.guard = none) (s x : Operand)
    (ho : o.op = .call { callee := .builtin .append, args := #[s, x], argTypes := #[22, 22] })
    (B n : Nat) (v : Value) (xs : List Int) (hs : a.eval s = v) (hown : Own w B v n xs) (ad : Addr) (y : Int) (c : Nat) (hx : a.eval x = .slice (some ad) 1 c)
    (hn : n ≤ 1000000000000) (hBw : B ≤ w.heap.size) (hc : w.cell? ad = some (.int .i64 y))
    (h : ∀ v' w', Own w' B v' (n + 1) (xs ++ [y]) → B ≤ w'.heap.size → w.grownBy w' v.ownBlock → wpList Try.prog ops Q' rest (a.put o.dst v') w') : wpList Try.prog ops Q' (o :: rest) a w := by
  obtain ⟨i0, hi, hz0, hz1, hz2⟩ := info_parts info_int
  refine wpList_append_own _ hgd s x 22 ho B 3 i0 (.int .i64 0) 1 8 Try.underlying22 hi hz0 hz1 hz2 rfl (by decide) v n _ hs hown.2 ad 1 c [.int .i64 y] hx rfl ?_ ?_ ?_ ?_ hBw ?_
  · intro j u hj
    match j, hj with
    | 0, hj => simp at hj; subst hj; simpa [Addr.add] using hc
  · intro u hu; simp at hu; subst hu; rfl
  · unfold maxLen; omega
  · omega
  · intro v' w' h1 h2 _
    exact h v' w' ⟨by simp [hown.1], by simpa using h1⟩ (Nat.le_trans hBw h2.size) h2
set_option maxRecDepth 100000 in
set_option maxHeartbeats 8000000 in
theorem l20Pic (g P : Nat) (W H : Int) (wn hn : Nat) (w : World) (h : Rdr w g P) (hP : P ≤ 800000) (hW : W = (wn : Int)) (hH : H = (hn : Int)) (h1 : 1 ≤ wn) (h2 : wn ≤ 32) (h3 : hn ≤ 32) :
    Calls Try.prog 62 #[.pointer (some ⟨g, 0, none⟩), .int .i64 W, .int .i64 H] w fun e w' => ∃ v xs, e = .returned (.agg #[.int .i64 W, .int .i64 H, v]) ∧ Own w' w.heap.size v (hn * wn) xs ∧ Smp xs ∧ Rdr w' g (P + 2000) ∧ Dr g w w' := by
  subst hW hH
  have hl := h.lt
  have hs : ((w.alloc (.cells #[.int .i64 0, .int .i64 0, .slice none 0 0] 27)).alloc (.cells #[.int .i64 (wn : Int), .int .i64 (hn : Int), .slice none 0 0] 27)).heap.size = w.heap.size + 2 := by simp
  have ba := (Blk.new w 27 #[.int .i64 0, .int .i64 0, .slice none 0 0]).alloc (.cells #[.int .i64 (wn : Int), .int .i64 (hn : Int), .slice none 0 0] 27)
  have bb := Blk.new (w.alloc (.cells #[.int .i64 0, .int .i64 0, .slice none 0 0] 27)) 27 #[.int .i64 (wn : Int), .int .i64 (hn : Int), .slice none 0 0]
  rw [World.size_alloc] at bb
  have DD : Dr g w ((w.alloc (.cells #[.int .i64 0, .int .i64 0, .slice none 0 0] 27)).alloc (.cells #[.int .i64 (wn : Int), .int .i64 (hn : Int), .slice none 0 0] 27)) := Dr.of_q (by repeat (first | exact Q.refl _ | assumption | refine Q.drewN ?_ _ | refine Q.drew ?_ | refine Q.alloc ?_ _ | refine Q.trans ?_ (by assumption) | refine Q.set ?_ (by first | exact Nat.le_refl _ | omega | (simp; done) | (simp; omega)) _))
  go_enter Try.func62, Try.ntmps62
  go_wp2_with fail
  refine (pick _ _ _ _ ((h.alloc _).alloc _) (by omega) (by omega) (by omega)).mono ?_; rintro e wv ⟨a, rfl, a1, a2, r1, g1⟩
  (try replace ba := ba.draw g1 (by omega)); (try replace bb := bb.draw g1 (by omega)); (try replace oa := oa.draw g1 (by omega)); replace DD := Dr.trans DD g1; have sq := World.grownBy.size g1; clear g1
  go_wp2_with fail
  refine (pick _ _ _ _ r1 (by omega) (by omega) (by omega)).mono ?_; rintro e wv ⟨dx, rfl, b1, b2, r2, g2⟩
  (try replace ba := ba.draw g2 (by omega)); (try replace bb := bb.draw g2 (by omega)); (try replace oa := oa.draw g2 (by omega)); replace DD := Dr.trans DD g2; have sq := World.grownBy.size g2; clear g2
  clear r1
  go_wp2_with fail
  refine (pick _ _ _ _ r2 (by omega) (by omega) (by omega)).mono ?_; rintro e wv ⟨dy, rfl, c1, c2, r3, g3⟩
  (try replace ba := ba.draw g3 (by omega)); (try replace bb := bb.draw g3 (by omega)); (try replace oa := oa.draw g3 (by omega)); replace DD := Dr.trans DD g3; have sq := World.grownBy.size g3; clear g3
  clear r2 h
  go_wp2_with fail
  refine (pick _ _ _ _ (r3.alloc _) (by omega) (by omega) (by omega)).mono ?_; rintro e w4 ⟨nz, rfl, d1, d2, r4, g4⟩
  have l4 := ((Blk.new wv 3 #[.int .i64 0, .int .i64 1, .int .i64 4, .int .i64 30, .int .i64 256]).draw g4 (by omega)).cell
  have s4 := World.grownBy.size g4
  rw [World.size_alloc] at s4
  replace ba := (ba.alloc _).draw g4 (by omega)
  replace bb := (bb.alloc _).draw g4 (by omega)
  replace DD := (DD.q ((Q.refl _).alloc _)).trans g4
  clear r3 g4
  obtain ⟨N, hN, n1, n2⟩ : ∃ N : Int, w4.cell? ⟨wv.heap.size, nz.toNat, none⟩ = some (.int .i64 N) ∧ 0 ≤ N ∧ N ≤ 256 := by
    rcases (by omega : nz = 0 ∨ nz = 1 ∨ nz = 2 ∨ nz = 3 ∨ nz = 4) with rfl | rfl | rfl | rfl | rfl
    all_goals exact ⟨_, l4 _, by omega, by omega⟩
  clear l4
  obtain ⟨ex, hex⟩ : ∃ ex, dx - 4 = ex := ⟨_, rfl⟩
  obtain ⟨ey, hey⟩ : ∃ ey, dy - 4 = ey := ⟨_, rfl⟩
  have e1 : -4 ≤ ex := by omega
  have e2 : ex ≤ 4 := by omega
  have e3 : -4 ≤ ey := by omega
  have e4 : ey ≤ 4 := by omega
  go_wp2_with fail
  refine (pick _ _ _ _ r4 (by omega) (by omega) (by omega)).mono ?_; rintro e w5 ⟨ed, rfl, f1, f2, r5, g5⟩
  have s5 := World.grownBy.size g5
  replace ba := ba.draw g5 (by omega)
  replace bb := bb.draw g5 (by omega)
  replace DD := DD.trans g5
  clear r4 g5 hN
  have BA := Lib.hid ba
  have BB := Lib.hid bb
  have RR := Lib.hid r5
  have DH := Lib.hid DD
  have hB : w.heap.size + 2 ≤ w5.heap.size := by omega
  clear ba bb r5 DD
  go_wp2_with fail
  go_loopw [13] (fun i wr => ∃ (y : Nat) (Av : Option Addr) (cv : Nat) (xs : List Int), y ≤ hn ∧ i = .int .i64 y ∧ Hid (Own wr w5.heap.size (.slice Av (y * wn) cv) (y * wn) xs ∧ Smp xs ∧ Rdr wr g (P + 4 + 1 + y * wn) ∧ Dr g w wr ∧ Blk wr w.heap.size 27 #[.int .i64 0, .int .i64 0, .slice none 0 0] ∧ w5.heap.size ≤ wr.heap.size) ∧ Blk wr (w.heap.size + 1) 27 #[.int .i64 (wn : Int), .int .i64 (hn : Int), .slice Av (y * wn) cv]) (fun i _ => hn - (intOf i).toNat)
  case atStart => exact ⟨0, none, 0, [], Nat.zero_le _, rfl, by rw [Hid, Nat.zero_mul]; exact ⟨Own.nil _ _, Smp.nil, RR.out, DH.out, BA.out, Nat.le_refl _⟩, by rw [Nat.zero_mul]; exact BB.out⟩
  case round =>
    obtain ⟨y, Av, cv, xs, hy, rfl, hK, hbb⟩ := hrel
    clear BA BB RR DH
    by_cases hlt : y < hn
    · have hl2 : (y : Int) < (hn : Int) := by omega
      have HBB := Lib.hid hbb
      clear hbb
      obtain ⟨w6, hw6⟩ : ∃ w6, w6 = wr := ⟨_, rfl⟩
      obtain ⟨eyy, heyy⟩ : ∃ q, ey * (y : Int) = q := ⟨_, rfl⟩
      obtain ⟨q1, q2⟩ := mul_range e3 e4 (show (0 : Int) ≤ y by omega) (show (y : Int) ≤ 32 by omega) (by omega) (by omega)
      rw [heyy] at q1 q2
      have qw : IntKind.i64.wrap (ey * (y : Int)) = eyy := by rw [heyy]; exact IntWalk.i64_in _ ⟨by omega, by omega⟩
      have qw2 : wrap64 (ey * (y : Int)) = eyy := by rw [← IntWalk.i64_left, qw]
      go_wp2_with fail
      subst hw6
      go_loopw [14] (fun i wr => ∃ (x : Nat) (Av : Option Addr) (cv : Nat) (xs : List Int), x ≤ wn ∧ i = .int .i64 x ∧ Hid (Own wr w5.heap.size (.slice Av (y * wn + x) cv) (y * wn + x) xs ∧ Smp xs ∧ Rdr wr g (P + 4 + 1 + (y * wn + x)) ∧ Dr g w wr ∧ Blk wr w.heap.size 27 #[.int .i64 0, .int .i64 0, .slice none 0 0] ∧ w5.heap.size ≤ wr.heap.size) ∧ Blk wr (w.heap.size + 1) 27 #[.int .i64 (wn : Int), .int .i64 (hn : Int), .slice Av (y * wn + x) cv]) (fun i _ => wn - (intOf i).toNat)
      case atStart => exact ⟨0, Av, cv, xs, Nat.zero_le _, rfl, hK, HBB.out⟩
      case round =>
        obtain ⟨x, Av, cv, xs, hx, rfl, hK, hbb⟩ := hrel
        by_cases hlx : x < wn
        · obtain ⟨exx, hexx⟩ : ∃ p, ex * (x : Int) = p := ⟨_, rfl⟩
          obtain ⟨p1, p2⟩ := mul_range e1 e2 (show (0 : Int) ≤ x by omega) (show (x : Int) ≤ 32 by omega) (by omega) (by omega)
          rw [hexx] at p1 p2
          have pw : IntKind.i64.wrap (ex * (x : Int)) = exx := by rw [hexx]; exact IntWalk.i64_in _ ⟨by omega, by omega⟩
          have pw2 : wrap64 (ex * (x : Int)) = exx := by rw [← IntWalk.i64_left, pw]
          obtain ⟨s0, hs0⟩ : ∃ s, a + exx + eyy = s := ⟨_, rfl⟩
          have s01 : -2000 ≤ s0 := by omega
          have s02 : s0 ≤ 2000 := by omega
          have sw : IntKind.i64.wrap (a + exx) = a + exx := IntWalk.i64_in _ ⟨by omega, by omega⟩
          have sw' : IntKind.i64.wrap s0 = s0 := IntWalk.i64_in _ ⟨by omega, by omega⟩
          have hm : y * wn + x < hn * wn := row_lt y wn hn x hlt hlx
          have hm2 : hn * wn ≤ 32 * 32 := Nat.mul_le_mul h3 h2
          have hxw : (x : Int) < (wn : Int) := by omega
          have hbc := hbb.cell
          have hbf := hbb.free
          have HBI := Lib.hid hbb
          have HM := Lib.hid hm
          have HM2 := Lib.hid hm2
          clear hbb hm hm2
          generalize hmm : y * wn + x = m at hK hbc HBI HM ⊢
          have HMM := Lib.hid hmm
          clear hmm
          obtain ⟨hO, hS, hR, hD, hA, hZ⟩ := hK.out
          have HO := Lib.hid hO
          have HS := Lib.hid hS
          have HD := Lib.hid hD
          have HA := Lib.hid hA
          clear hO hS hD hA hK
          have hbl : w.heap.size + 1 < w5.heap.size := by omega
          by_cases hN0 : N = 0
          · subst hN0
            have HR := Lib.hid hR
            clear hR
            by_cases hee : (ed : Int) < (x : Int) + (y : Int) / 2
            · obtain ⟨s1, hs1⟩ : ∃ s, s0 + 90 = s := ⟨_, rfl⟩
              (have hmb : m ≤ 1000000000000 := (by have := HM.out; have := HM2.out; omega); (try have rw5 : IntKind.i64.wrap s1 = s1 := (IntWalk.i64_in _ ⟨by omega, by omega⟩)); go_wp2_with (at_builtin; refine wpList_append_i rfl _ _ rfl w5.heap.size _ _ _ rfl (HO.out.alloc _) ⟨_, 0, none⟩ _ _ rfl hmb (by first | exact Nat.le_refl _ | omega | (simp; done) | (simp; omega)) (World.cell?_alloc_new _ _ _ _) ?_; intro v' wz oz sz' gz; obtain ⟨Az, cz, rfl⟩ := oz.form; have RZ := Lib.hid ((HR.out.alloc _).own (HO.out.alloc _).i gz (by omega)); have DZ := Lib.hid ((HD.out.q ((Q.refl _).alloc _)).mark (HO.out.alloc _).i gz (by omega)); have AZ := Lib.hid ((HA.out.alloc _).mark (HO.out.alloc _).i gz (.inl (by omega))); have bz := (HBI.out.alloc _).mark (HO.out.alloc _).i gz (.inl (by omega)); have bzc := bz.cell; have bzf := bz.free; have BZ := Lib.hid (bz.set 2 (.slice Az (m + 1) cz)); have OZ := Lib.hid oz; clear bz gz oz); all_goals (go_roundw; (case rel => exact ⟨x + 1, Az, cz, _, by omega, by go_num, (by rw [Hid, ← Nat.add_assoc, HMM.out]; exact ⟨OZ.out.far (by show w.heap.size + 1 < _; omega) _, HS.out.snoc (by first | omega | decide) (by first | omega | decide), (RZ.out.set (q := ⟨w.heap.size + 1, 2, none⟩) (by show g < w.heap.size + 1; omega) _).more (by omega), DZ.out.set (by show w.heap.size ≤ w.heap.size + 1; omega) _, AZ.out.far (by show w.heap.size ≠ w.heap.size + 1; omega) _, by simpa [World.setCell] using sz'⟩), (by rw [← Nat.add_assoc, HMM.out]; exact BZ.out)⟩); (case measure => simp [intOf]; omega)))
            · obtain ⟨s1, hs1⟩ : ∃ s, s0 = s := ⟨_, rfl⟩
              subst hs1
              (have hmb : m ≤ 1000000000000 := (by have := HM.out; have := HM2.out; omega); (try have rw5 : IntKind.i64.wrap s1 = s1 := (IntWalk.i64_in _ ⟨by omega, by omega⟩)); go_wp2_with (at_builtin; refine wpList_append_i rfl _ _ rfl w5.heap.size _ _ _ rfl (HO.out.alloc _) ⟨_, 0, none⟩ _ _ rfl hmb (by first | exact Nat.le_refl _ | omega | (simp; done) | (simp; omega)) (World.cell?_alloc_new _ _ _ _) ?_; intro v' wz oz sz' gz; obtain ⟨Az, cz, rfl⟩ := oz.form; have RZ := Lib.hid ((HR.out.alloc _).own (HO.out.alloc _).i gz (by omega)); have DZ := Lib.hid ((HD.out.q ((Q.refl _).alloc _)).mark (HO.out.alloc _).i gz (by omega)); have AZ := Lib.hid ((HA.out.alloc _).mark (HO.out.alloc _).i gz (.inl (by omega))); have bz := (HBI.out.alloc _).mark (HO.out.alloc _).i gz (.inl (by omega)); have bzc := bz.cell; have bzf := bz.free; have BZ := Lib.hid (bz.set 2 (.slice Az (m + 1) cz)); have OZ := Lib.hid oz; clear bz gz oz); all_goals (go_roundw; (case rel => exact ⟨x + 1, Az, cz, _, by omega, by go_num, (by rw [Hid, ← Nat.add_assoc, HMM.out]; exact ⟨OZ.out.far (by show w.heap.size + 1 < _; omega) _, HS.out.snoc (by first | omega | decide) (by first | omega | decide), (RZ.out.set (q := ⟨w.heap.size + 1, 2, none⟩) (by show g < w.heap.size + 1; omega) _).more (by omega), DZ.out.set (by show w.heap.size ≤ w.heap.size + 1; omega) _, AZ.out.far (by show w.heap.size ≠ w.heap.size + 1; omega) _, by simpa [World.setCell] using sz'⟩), (by rw [← Nat.add_assoc, HMM.out]; exact BZ.out)⟩); (case measure => simp [intOf]; omega)))
          · have hN1 : 0 < N := by omega
            go_wp2_with fail
            refine (pick _ _ _ _ hR (by have := HM.out; have := HM2.out; omega) (by omega) (by omega)).mono ?_; rintro e wx ⟨r, rfl, r1, r2, hr', gx⟩
            have sgx := World.grownBy.size gx
            have HO := Lib.hid (HO.out.i.draw gx (.inl (by omega))).1
            have HD := Lib.hid (HD.out.trans gx)
            have HA := Lib.hid (HA.out.draw gx (by omega))
            have HBI := Lib.hid (HBI.out.draw gx (by omega))
            have HR := Lib.hid hr'
            have hbc := HBI.out.cell
            have hbf := HBI.out.free
            clear hr' gx hR
            obtain ⟨s1, hs1⟩ : ∃ s, s0 + r = s := ⟨_, rfl⟩
            have sr : IntKind.i64.wrap s1 = s1 := IntWalk.i64_in _ ⟨by omega, by omega⟩
            by_cases hee : (ed : Int) < (x : Int) + (y : Int) / 2
            · obtain ⟨s2, hs2⟩ : ∃ s, s1 + 90 = s := ⟨_, rfl⟩
              have rw6 : IntKind.i64.wrap s2 = s2 := (IntWalk.i64_in _ ⟨by omega, by omega⟩)
              (have hmb : m ≤ 1000000000000 := (by have := HM.out; have := HM2.out; omega); (try have rw5 : IntKind.i64.wrap s1 = s1 := (IntWalk.i64_in _ ⟨by omega, by omega⟩)); go_wp2_with (at_builtin; refine wpList_append_i rfl _ _ rfl w5.heap.size _ _ _ rfl (HO.out.alloc _) ⟨_, 0, none⟩ _ _ rfl hmb (by first | exact Nat.le_refl _ | omega | (simp; done) | (simp; omega)) (World.cell?_alloc_new _ _ _ _) ?_; intro v' wz oz sz' gz; obtain ⟨Az, cz, rfl⟩ := oz.form; have RZ := Lib.hid ((HR.out.alloc _).own (HO.out.alloc _).i gz (by omega)); have DZ := Lib.hid ((HD.out.q ((Q.refl _).alloc _)).mark (HO.out.alloc _).i gz (by omega)); have AZ := Lib.hid ((HA.out.alloc _).mark (HO.out.alloc _).i gz (.inl (by omega))); have bz := (HBI.out.alloc _).mark (HO.out.alloc _).i gz (.inl (by omega)); have bzc := bz.cell; have bzf := bz.free; have BZ := Lib.hid (bz.set 2 (.slice Az (m + 1) cz)); have OZ := Lib.hid oz; clear bz gz oz); all_goals (go_roundw; (case rel => exact ⟨x + 1, Az, cz, _, by omega, by go_num, (by rw [Hid, ← Nat.add_assoc, HMM.out]; exact ⟨OZ.out.far (by show w.heap.size + 1 < _; omega) _, HS.out.snoc (by first | omega | decide) (by first | omega | decide), (RZ.out.set (q := ⟨w.heap.size + 1, 2, none⟩) (by show g < w.heap.size + 1; omega) _).more (by omega), DZ.out.set (by show w.heap.size ≤ w.heap.size + 1; omega) _, AZ.out.far (by show w.heap.size ≠ w.heap.size + 1; omega) _, by simpa [World.setCell] using sz'⟩), (by rw [← Nat.add_assoc, HMM.out]; exact BZ.out)⟩); (case measure => simp [intOf]; omega)))
            · (have hmb : m ≤ 1000000000000 := (by have := HM.out; have := HM2.out; omega); (try have rw5 : IntKind.i64.wrap s1 = s1 := (IntWalk.i64_in _ ⟨by omega, by omega⟩)); go_wp2_with (at_builtin; refine wpList_append_i rfl _ _ rfl w5.heap.size _ _ _ rfl (HO.out.alloc _) ⟨_, 0, none⟩ _ _ rfl hmb (by first | exact Nat.le_refl _ | omega | (simp; done) | (simp; omega)) (World.cell?_alloc_new _ _ _ _) ?_; intro v' wz oz sz' gz; obtain ⟨Az, cz, rfl⟩ := oz.form; have RZ := Lib.hid ((HR.out.alloc _).own (HO.out.alloc _).i gz (by omega)); have DZ := Lib.hid ((HD.out.q ((Q.refl _).alloc _)).mark (HO.out.alloc _).i gz (by omega)); have AZ := Lib.hid ((HA.out.alloc _).mark (HO.out.alloc _).i gz (.inl (by omega))); have bz := (HBI.out.alloc _).mark (HO.out.alloc _).i gz (.inl (by omega)); have bzc := bz.cell; have bzf := bz.free; have BZ := Lib.hid (bz.set 2 (.slice Az (m + 1) cz)); have OZ := Lib.hid oz; clear bz gz oz); all_goals (go_roundw; (case rel => exact ⟨x + 1, Az, cz, _, by omega, by go_num, (by rw [Hid, ← Nat.add_assoc, HMM.out]; exact ⟨OZ.out.far (by show w.heap.size + 1 < _; omega) _, HS.out.snoc (by first | omega | decide) (by first | omega | decide), (RZ.out.set (q := ⟨w.heap.size + 1, 2, none⟩) (by show g < w.heap.size + 1; omega) _).more (by omega), DZ.out.set (by show w.heap.size ≤ w.heap.size + 1; omega) _, AZ.out.far (by show w.heap.size ≠ w.heap.size + 1; omega) _, by simpa [World.setCell] using sz'⟩), (by rw [← Nat.add_assoc, HMM.out]; exact BZ.out)⟩); (case measure => simp [intOf]; omega)))
        · have hxw : x = wn := by omega
          subst hxw
          have HBI := Lib.hid hbb
          clear hbb
          go_wp2_with fail
          go_roundw
          case rel => exact ⟨y + 1, Av, cv, xs, by omega, by go_num, by rw [Nat.succ_mul]; exact hK, by rw [Nat.succ_mul]; exact HBI.out⟩
          case measure => simp [intOf]; omega
    · have hye : y = hn := by omega
      subst hye
      have hbc := hbb.cell
      obtain ⟨ho, hsm, hr, hd, hba, hsz⟩ := hK.out
      have hac := hba.cell
      have haf := hba.free
      have HO := Lib.hid ho
      have HS := Lib.hid hsm
      have HR := Lib.hid hr
      have HD := Lib.hid hd
      have hm2 : y * wn ≤ 32 * 32 := Nat.mul_le_mul h3 h2
      have HM2 := Lib.hid hm2
      clear ho hsm hr hd hba hK hm2
      obtain ⟨m, hmy⟩ : ∃ m, y * wn = m := ⟨_, rfl⟩
      rw [hmy] at hbc hbb HO HR HM2
      have HMY := Lib.hid hmy
      clear hmy
      go_wp2_with fail
      refine bodyPost_ret (v := .agg #[.int .i64 (wn : Int), .int .i64 (y : Int), .slice Av m cv]) (by simp [results, Try.results62, go_sem, hac]) rfl ⟨_, xs, rfl, ?_, HS.out, ?_, ?_⟩
      · rw [HMY.out]; exact Own.mono (B := w5.heap.size) (by repeat (first | exact HO.out | refine Own.far ?_ (by show w.heap.size < _; omega) _)) (by omega)
      · have h := HR.out
        have := HM2.out
        refine Rdr.more (P := P + 4 + 1 + m) ?_ (by omega)
        repeat (first | exact h | refine Rdr.set ?_ (by show g < w.heap.size; omega) _)
      · have h := HD.out
        repeat (first | exact h | refine Dr.set ?_ (by show _ ≤ w.heap.size; omega) _)
end Go.Proofs.Ytoipcfpbkjanhaa

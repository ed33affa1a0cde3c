/-
  The drawing of pictures: one, which may be invalid.
-/
import Derived.Test.YtoipcfpbkjanhaaDrawP
import Derived.Deep.RegionWith
import Derived.Test.YtoipcfpbkjanhaaTakes
namespace Go.Proofs.Ytoipcfpbkjanhaa
open Go.RowKit

/-- The slice with the address A reads as the numbers xs, in a block from lo on and below hi. -/
def RdI (w : World) (lo hi : Nat) (A : Option Addr) (xs : List Int) : Prop :=
  0 < xs.length → ∃ b o, A = some ⟨b, o, none⟩ ∧ lo ≤ b ∧ b < hi ∧ ∀ i, i < xs.length → w.cell? ⟨b, o + i, none⟩ = some (.int .i64 (xs[i]?.getD 0))
section
variable {w w' : World} {lo hi lo' hi' n g : Nat} {A : Option Addr} {c : Nat} {xs ys : List Int} {v' : Value}
theorem RdI.nil (w : World) (lo hi : Nat) (A : Option Addr) : RdI w lo hi A [] := fun h => absurd h (by simp)
theorem RdI.keep (h : RdI w lo hi A xs) (hk : ∀ b o, lo ≤ b → b < hi → w'.cell? ⟨b, o, none⟩ = w.cell? ⟨b, o, none⟩) : RdI w' lo hi A xs := fun hn => by
  obtain ⟨b, o, rfl, h1, h2, hc⟩ := h hn
  exact ⟨b, o, rfl, h1, h2, fun i hi => (hk b _ h1 h2).trans (hc i hi)⟩
theorem RdI.rd (h : RdI w lo hi A xs) : Rd w hi A xs := fun hn => by
  obtain ⟨b, o, rfl, h1, h2, hc⟩ := h hn
  exact ⟨b, o, rfl, h2, hc⟩
theorem RdI.mono (h : RdI w lo hi A xs) (h1 : lo' ≤ lo) (h2 : hi ≤ hi') : RdI w lo' hi' A xs := fun hn => by
  obtain ⟨b, o, rfl, h3, h4, hc⟩ := h hn
  exact ⟨b, o, rfl, by omega, by omega, hc⟩
theorem RdI.q (h : RdI w lo hi A xs) (hq : Q w w') (hh : hi ≤ w.heap.size) : RdI w' lo hi A xs := h.keep fun b o _ hb => hq.cell b o (by omega)
theorem RdI.draw (h : RdI w lo hi A xs) (hg : w.grownBy w' (some g)) (hh : hi ≤ w.heap.size) (hd : g < lo ∨ hi ≤ g) : RdI w' lo hi A xs :=
  h.keep fun b o h1 h2 => World.cell?_of_block (a := ⟨b, o, none⟩) (hg.block b (by omega) (fun e => by cases e; omega))
theorem RdI.mark (h : RdI w lo hi A xs) (h' : OwnI w lo' hi' v' n ys) (hg : w.grownBy w' v'.ownBlock) (hh : hi ≤ w.heap.size) (hd : hi ≤ lo' ∨ hi' ≤ lo) : RdI w' lo hi A xs :=
  h.keep fun b o h1 h2 => World.cell?_of_block (a := ⟨b, o, none⟩) (hg.block b (by omega) (fun e => by
    have h3 := (h'.1.2.lt b e.symm).1
    have h4 := h'.2 b e.symm
    omega))
theorem RdI.far (h : RdI w lo hi A xs) {p : Addr} (hp : p.block < lo ∨ hi ≤ p.block) (u : Value) : RdI (w.setCell p u) lo hi A xs :=
  h.keep fun b o h1 h2 => World.cell?_of_block (a := ⟨b, o, none⟩) (Below.heap_setCell w p u b (by show b ≠ p.block; omega))
theorem OwnI.rdi (h : OwnI w lo hi (.slice A n c) n xs) : RdI w lo hi A xs := fun hn => by
  have hl := h.1.1
  rcases h.1.form' with ⟨h', hz⟩ | ⟨g, cap, h', hB, hg, _⟩
  · omega
  · have hA : A = some ⟨g, 0, none⟩ := by injection h'
    subst hA
    refine ⟨g, 0, rfl, hB, h.2 g (by simp [Value.ownBlock]), fun i hi => ?_⟩
    rw [Nat.zero_add]
    exact h.1.at i (by omega)
theorem RdI.tail (h : RdI w lo hi (some ⟨g, 0, none⟩) xs) : RdI w lo hi (some ⟨g, 1, none⟩) (xs.drop 1) := fun hn => by
  simp only [List.length_drop] at hn
  obtain ⟨b, o, e, h3, h4, hc⟩ := h (by omega)
  cases e
  refine ⟨g, 1, rfl, h3, h4, fun i hi => ?_⟩
  simp only [List.length_drop] at hi
  have := hc (1 + i) (by omega)
  rw [Nat.zero_add] at this
  rw [this]
  simp [Nat.add_comm]
end

/-- a drawn picture -/
def PicR (w0 w' : World) (e : Ending) : Prop := ∃ (W H : Int) (A : Option Addr) (m c : Nat) (xs : List Int), e = .returned (.agg #[.int .i64 W, .int .i64 H, .slice A m c]) ∧ RdI w' w0.heap.size w'.heap.size A xs ∧ xs.length = m ∧ m ≤ 1024 ∧ -100 ≤ W ∧ W ≤ 100 ∧ -100 ≤ H ∧ H ≤ 100 ∧ m ≤ c ∧ c ≤ 9223372036854775807

theorem nat_side {s : Int} (h : 8 ≤ s ∧ s ≤ 32 ∧ s % 8 = 0) : ∃ k : Nat, s = (k : Int) ∧ 8 ≤ k ∧ k ≤ 32 := ⟨s.toNat, by omega, by omega, by omega⟩

set_option maxRecDepth 100000 in
set_option maxHeartbeats 8000000 in
theorem l20Picture (g P : Nat) (N : Int) (w : World) (h : Rdr w g P) (hP : P ≤ 700000) (hN : 1 ≤ N) (hN' : N ≤ 1000) :
    Calls Try.prog 58 #[.pointer (some ⟨g, 0, none⟩), .int .i64 N] w fun e w' => PicR w w' e ∧ Rdr w' g (P + 3000) ∧ Dr g w w' := by
  have hl := h.lt
  have hs : (w.alloc (.cells #[.int .i64 0, .int .i64 0, .slice none 0 0] 27)).heap.size = w.heap.size + 1 := by simp
  have ba := Blk.new w 27 #[.int .i64 0, .int .i64 0, .slice none 0 0]
  have DD : Dr g w (w.alloc (.cells #[.int .i64 0, .int .i64 0, .slice none 0 0] 27)) := Dr.of_q (by repeat (first | exact Q.refl _ | assumption | refine Q.drewN ?_ _ | refine Q.drew ?_ | refine Q.alloc ?_ _ | refine Q.trans ?_ (by assumption) | refine Q.set ?_ (by first | exact Nat.le_refl _ | omega | (simp; done) | (simp; omega)) _))
  go_enter Try.func58, Try.ntmps58
  go_wp2_with fail
  refine (l20Size _ _ _ (h.alloc _) (by omega)).mono ?_; rintro e wv ⟨W, rfl, hW, r1, g1⟩
  replace ba := ba.draw g1 (by omega)
  replace DD := DD.trans g1
  have s1 := g1.size
  go_wp2_with fail
  refine (l20Size _ _ _ r1 (by omega)).mono ?_; rintro e wv ⟨H, rfl, hH, r2, g2⟩
  replace ba := ba.draw g2 (by omega)
  replace DD := DD.trans g2
  have s2 := g2.size
  obtain ⟨wn, rfl, w1, w2⟩ := nat_side hW
  obtain ⟨hn, rfl, h1, h2⟩ := nat_side hH
  clear hW hH r1 h g1 g2
  go_wp2_with fail
  refine (l20Pic _ _ _ _ wn hn _ r2 (by omega) rfl rfl (by omega) (by omega) (by omega)).mono ?_; rintro e w3 ⟨v, xs, rfl, o3, hsm, r3, g3⟩
  obtain ⟨A, c, rfl⟩ := o3.form
  have s3 := g3.size
  replace ba := (ba.draw g3 (by omega)).alloc (.cells #[.int .i64 (wn : Int), .int .i64 (hn : Int), .slice A (hn * wn) c] 27)
  have bb := Blk.new w3 27 #[.int .i64 (wn : Int), .int .i64 (hn : Int), .slice A (hn * wn) c]
  have o4 := o3.i.q ((Q.refl w3).alloc (.cells #[.int .i64 (wn : Int), .int .i64 (hn : Int), .slice A (hn * wn) c] 27))
  have s4 : (w3.alloc (.cells #[.int .i64 (wn : Int), .int .i64 (hn : Int), .slice A (hn * wn) c] 27)).heap.size = w3.heap.size + 1 := by simp
  replace DD := (DD.trans g3).q ((Q.refl w3).alloc (.cells #[.int .i64 (wn : Int), .int .i64 (hn : Int), .slice A (hn * wn) c] 27))
  have hm1 : hn * wn ≤ 32 * 32 := Nat.mul_le_mul h2 w2
  have hm2 : 8 * 8 ≤ hn * wn := Nat.mul_le_mul h1 w1
  have s5 : w.heap.size < wv.heap.size := by omega
  clear r2 g3 o3 hsm s1 s2
  generalize hn * wn = m at hm1 hm2 ba bb o4 DD s4 ⊢
  go_wp2_with fail
  refine (odd _ _ _ _ (r3.alloc _) (by omega) (by omega) (by omega)).mono ?_; rintro e w5 ⟨t, rfl, r5, g5⟩
  replace ba := ba.draw g5 (by omega)
  replace bb := bb.draw g5 (by omega)
  have o5 := o4.draw g5 (.inl (by omega))
  replace DD := DD.trans g5
  have s6 := World.grownBy.size g5
  have s8 : w3.heap.size < w5.heap.size := by omega
  have HL := o5.1.1
  have hcc : m ≤ c ∧ c ≤ 9223372036854775807 := by
    rcases o5.1.form' with ⟨_, hz⟩ | ⟨gb, cb, he, hb1, hb2, hb3, hb4⟩
    · omega
    · cases he; unfold maxLen at hb4; omega
  clear r3 g5 o4 s4
  cases t
  · have o6 := o5.rdi
    have bc := bb.cell; have ac := ba.cell; have af := ba.free; have O6 := Lib.hid o6; have R5 := Lib.hid (r5.more (P' := P + 3000) (by omega)); have D5 := Lib.hid DD; have B5 := Lib.hid bb; clear o6 r5 DD bb ba; go_wp2_with fail; refine bodyPost_ret (v := .agg #[.int .i64 wn, .int .i64 hn, .slice A m c]) (by simp [results, Try.results58, go_sem, ac]) rfl ⟨⟨_, _, A, m, c, xs, rfl, (by refine RdI.mono (lo := wv.heap.size) (hi := w3.heap.size) ?_ (by omega) (by simp [World.setCell]; omega); repeat (first | exact O6.out | refine RdI.far ?_ (by first | exact .inl (by show w.heap.size < _; omega) | exact .inr (by show _ ≤ w3.heap.size; omega)) _)), HL, by omega, by omega, by omega, by omega, by omega, by omega, by omega⟩, (by repeat (first | exact R5.out | refine Rdr.set ?_ (by first | (show g < w.heap.size; omega) | (show g < w3.heap.size; omega)) _)), (by repeat (first | exact D5.out | refine Dr.set ?_ (by first | (show w.heap.size ≤ w.heap.size; omega) | (show w.heap.size ≤ w3.heap.size; omega)) _))⟩
  · go_wp2_with fail
    refine (pick _ _ _ _ r5 (by omega) (by omega) (by omega)).mono ?_; rintro e w6 ⟨k, rfl, k1, k2, r6, g6⟩
    replace ba := ba.draw g6 (by omega)
    replace bb := bb.draw g6 (by omega)
    have o6 := o5.draw g6 (.inl (by omega))
    replace DD := DD.trans g6
    have s7 := World.grownBy.size g6
    clear r5 g6 o5
    rcases (by omega : k = 0 ∨ k = 1 ∨ k = 2 ∨ k = 3 ∨ k = 4) with rfl | rfl | rfl | rfl | rfl
    · go_wp2_with fail
      refine (pick _ _ _ _ (r6.alloc _) (by omega) (by omega) (by omega)).mono ?_; rintro e w7 ⟨k, rfl, k1, k2, r5, g7⟩
      have l7 := ((Blk.new w6 3 #[.int .i64 0, .int .i64 7, .int .i64 12, .int .i64 40, .int .i64 (-8)]).draw g7 (by omega)).cell
      obtain ⟨V, hV, v1, v2⟩ : ∃ V : Int, w7.cell? ⟨w6.heap.size, k.toNat, none⟩ = some (.int .i64 V) ∧ -100 ≤ V ∧ V ≤ 100 := by
        rcases (by omega : k = 0 ∨ k = 1 ∨ k = 2 ∨ k = 3 ∨ k = 4) with rfl | rfl | rfl | rfl | rfl
        all_goals exact ⟨_, l7 _, by omega, by omega⟩
      have s9 := World.grownBy.size g7; rw [World.size_alloc] at s9; replace ba := (ba.alloc _).draw g7 (by omega); replace bb := (bb.alloc _).draw g7 (by omega); replace o6 := (o6.q ((Q.refl _).alloc _)).draw g7 (.inl (by omega)); replace o6 := o6.rdi; replace DD := (DD.q ((Q.refl _).alloc _)).trans g7; clear g7 l7 r6
      have bf := bb.free
      have bc := bb.cell; have ac := ba.cell; have af := ba.free; have O6 := Lib.hid o6; have R5 := Lib.hid (r5.more (P' := P + 3000) (by omega)); have D5 := Lib.hid DD; have B5 := Lib.hid bb; clear o6 r5 DD bb ba; go_wp2_with fail; refine bodyPost_ret (v := .agg #[.int .i64 V, .int .i64 hn, .slice A m c]) (by simp [results, Try.results58, go_sem, ac]) rfl ⟨⟨_, _, A, m, c, xs, rfl, (by refine RdI.mono (lo := wv.heap.size) (hi := w3.heap.size) ?_ (by omega) (by simp [World.setCell]; omega); repeat (first | exact O6.out | refine RdI.far ?_ (by first | exact .inl (by show w.heap.size < _; omega) | exact .inr (by show _ ≤ w3.heap.size; omega)) _)), HL, by omega, by omega, by omega, by omega, by omega, by omega, by omega⟩, (by repeat (first | exact R5.out | refine Rdr.set ?_ (by first | (show g < w.heap.size; omega) | (show g < w3.heap.size; omega)) _)), (by repeat (first | exact D5.out | refine Dr.set ?_ (by first | (show w.heap.size ≤ w.heap.size; omega) | (show w.heap.size ≤ w3.heap.size; omega)) _))⟩
    · go_wp2_with fail
      refine (pick _ _ _ _ (r6.alloc _) (by omega) (by omega) (by omega)).mono ?_; rintro e w7 ⟨k, rfl, k1, k2, r5, g7⟩
      have l7 := ((Blk.new w6 3 #[.int .i64 0, .int .i64 9, .int .i64 40]).draw g7 (by omega)).cell
      obtain ⟨V, hV, v1, v2⟩ : ∃ V : Int, w7.cell? ⟨w6.heap.size, k.toNat, none⟩ = some (.int .i64 V) ∧ -100 ≤ V ∧ V ≤ 100 := by
        rcases (by omega : k = 0 ∨ k = 1 ∨ k = 2) with rfl | rfl | rfl
        all_goals exact ⟨_, l7 _, by omega, by omega⟩
      have s9 := World.grownBy.size g7; rw [World.size_alloc] at s9; replace ba := (ba.alloc _).draw g7 (by omega); replace bb := (bb.alloc _).draw g7 (by omega); replace o6 := (o6.q ((Q.refl _).alloc _)).draw g7 (.inl (by omega)); replace o6 := o6.rdi; replace DD := (DD.q ((Q.refl _).alloc _)).trans g7; clear g7 l7 r6
      have bf := bb.free
      have bc := bb.cell; have ac := ba.cell; have af := ba.free; have O6 := Lib.hid o6; have R5 := Lib.hid (r5.more (P' := P + 3000) (by omega)); have D5 := Lib.hid DD; have B5 := Lib.hid bb; clear o6 r5 DD bb ba; go_wp2_with fail; refine bodyPost_ret (v := .agg #[.int .i64 wn, .int .i64 V, .slice A m c]) (by simp [results, Try.results58, go_sem, ac]) rfl ⟨⟨_, _, A, m, c, xs, rfl, (by refine RdI.mono (lo := wv.heap.size) (hi := w3.heap.size) ?_ (by omega) (by simp [World.setCell]; omega); repeat (first | exact O6.out | refine RdI.far ?_ (by first | exact .inl (by show w.heap.size < _; omega) | exact .inr (by show _ ≤ w3.heap.size; omega)) _)), HL, by omega, by omega, by omega, by omega, by omega, by omega, by omega⟩, (by repeat (first | exact R5.out | refine Rdr.set ?_ (by first | (show g < w.heap.size; omega) | (show g < w3.heap.size; omega)) _)), (by repeat (first | exact D5.out | refine Dr.set ?_ (by first | (show w.heap.size ≤ w.heap.size; omega) | (show w.heap.size ≤ w3.heap.size; omega)) _))⟩
    · rcases o6.1.form' with ⟨_, hz⟩ | ⟨gb, cb, he, hb1, hb2, hb3, hb4⟩
      · omega
      cases he
      have r5 := r6
      have bf := bb.free
      unfold maxLen at hb4
      have hgb := o6.2 gb (by simp [Value.ownBlock])
      have k0 : w6.cell? ⟨w3.heap.size, 2, none⟩ = some (.slice (some ⟨gb, 0, none⟩) m c) := bb.cell 2
      have hw6 : w6.heap.size ≤ w6.drew.heap.size := Nat.le_refl _
      replace ba := ba.drewN 1
      replace bb := bb.drewN 1
      replace o6 := o6.q ((Q.refl w6).drew)
      replace DD := DD.q ((Q.refl w6).drew)
      replace r5 := r5.drew
      clear r6
      have bc := bb.cell
      go_wp2_with fail
      refine wp_region_x (fun ww => ww.cell? ⟨w3.heap.size, 2, none⟩ = some (.slice (some ⟨gb, 0, none⟩) m c)) (fun j => decide (12 ≤ j)) (by kernel_rfl) k0 (fun hS => ?_)
      refine wpAnyX_take (i := 0) (v := ?vv1) rfl (by kernel_rfl) (by kernel_rfl) (by kernel_rfl) (by kernel_rfl) (fun _ _ _ h => h) (Or.inl ⟨by rfl, ?hy1⟩) hS ?rest1
      case hy1 => (intro ww hSw; (try dsimp only at hSw); go_split_ands; go_simp; try with_reducible rfl)
      try simp only [Act.put, List.setIfInBounds_toArray, List.set_cons_zero, List.set_cons_succ]
      refine wpAnyX_take (i := 1) (v := ?vv2) rfl (by kernel_rfl) (by kernel_rfl) (by kernel_rfl) (by kernel_rfl) (fun _ _ _ h => h) (Or.inl ⟨by rfl, ?hy2⟩) hS ?rest2
      case hy2 => (intro ww hSw; (try dsimp only at hSw); go_split_ands; go_simp; try with_reducible rfl)
      try simp only [Act.put, List.setIfInBounds_toArray, List.set_cons_zero, List.set_cons_succ]
      refine wpAnyX_take (i := 2) (v := ?vv3) rfl (by kernel_rfl) (by kernel_rfl) (by kernel_rfl) (by kernel_rfl) (fun _ _ _ h => h) (Or.inl ⟨by rfl, ?hy3⟩) hS ?rest3
      case hy3 => (intro ww hSw; (try dsimp only at hSw); go_split_ands; go_simp; try with_reducible rfl)
      try simp only [Act.put, List.setIfInBounds_toArray, List.set_cons_zero, List.set_cons_succ]
      refine wpAnyX_take (i := 3) (v := ?vv4) rfl (by kernel_rfl) (by kernel_rfl) (by kernel_rfl) (by kernel_rfl) (fun _ _ _ h => h) (Or.inl ⟨by rfl, ?hy4⟩) hS ?rest4
      case hy4 => (intro ww hSw; (try dsimp only at hSw); go_split_ands; go_simp; try with_reducible rfl)
      try simp only [Act.put, List.setIfInBounds_toArray, List.set_cons_zero, List.set_cons_succ]
      refine wpAnyX_take (i := 4) (v := ?vv5) rfl (by kernel_rfl) (by kernel_rfl) (by kernel_rfl) (by kernel_rfl) (fun _ _ _ h => h) (Or.inl ⟨by rfl, ?hy5⟩) hS ?rest5
      case hy5 => (intro ww hSw; (try dsimp only at hSw); go_split_ands; go_simp; try with_reducible rfl)
      try simp only [Act.put, List.setIfInBounds_toArray, List.set_cons_zero, List.set_cons_succ]
      refine wpAnyX_take (i := 5) (v := ?vv6) rfl (by kernel_rfl) (by kernel_rfl) (by kernel_rfl) (by kernel_rfl) (fun _ _ _ h => h) (Or.inl ⟨by rfl, ?hy6⟩) hS ?rest6
      case hy6 => (intro ww hSw; (try dsimp only at hSw); go_split_ands; go_simp; try with_reducible rfl)
      try simp only [Act.put, List.setIfInBounds_toArray, List.set_cons_zero, List.set_cons_succ]
      refine wpAnyX_take (i := 8) (v := ?vv7) rfl (by kernel_rfl) (by kernel_rfl) (by kernel_rfl) (by kernel_rfl) (fun _ _ _ h => h) (Or.inl ⟨by rfl, ?hy7⟩) hS ?rest7
      case hy7 => (intro ww hSw; (try dsimp only at hSw); go_split_ands; go_simp; try with_reducible rfl)
      try simp only [Act.put, List.setIfInBounds_toArray, List.set_cons_zero, List.set_cons_succ]
      clear bc
      change Dr g w w6.drew at DD
      change Blk w6.drew _ _ _ at ba
      change Blk w6.drew _ _ _ at bb
      generalize w6.drew = wz at ba bb o6 DD r5 hS hw6 ⊢
      have hm1' : (1 : Int) ≤ (m : Int) := by omega
      refine wpAnyX_two (i := 6) (j := 7) (by kernel_rfl) rfl rfl rfl rfl (fun K hK => ?_) (fun K hK => ?_)
      · go_simp
        refine (pick _ _ _ _ r5 (by omega) (by omega) (by omega)).mono ?_; rintro e wz ⟨j, rfl, j1, j2, r5, gz⟩
        have sz := World.grownBy.size gz
        replace ba := ba.draw gz (by omega)
        replace bb := bb.draw gz (by omega)
        replace o6 := o6.draw gz (.inl (by omega))
        replace DD := DD.trans gz
        (try replace lb := lb.draw gz (by omega))
        clear gz
        refine hK.out _ _ (bb.cell 2) (fun hS => ?_)
        clear hK K
        try simp only [Act.put, List.setIfInBounds_toArray, List.set_cons_zero, List.set_cons_succ]
        refine wpAnyX_two (i := 7) (j := 9) (by kernel_rfl) rfl rfl rfl rfl (fun K hK => ?_) (fun K hK => ?_)
        · go_simp
          refine hK.out _ _ ((bb.alloc _).cell 2) (fun hS => ?_)
          clear hK K
          try simp only [Act.put, List.setIfInBounds_toArray, List.set_cons_zero, List.set_cons_succ]
          have lb := Blk.new wz 3 #[.int .i64 (-1), .int .i64 256]
          have lbl : w3.heap.size < wz.heap.size := by omega
          generalize hwb : wz.heap.size = nb at lb lbl ⊢
          have sz : (wz.alloc (.cells #[.int .i64 (-1), .int .i64 256] 3)).heap.size = nb + 1 := by simp [hwb]
          replace ba := ba.alloc (.cells #[.int .i64 (-1), .int .i64 256] 3)
          replace bb := bb.alloc (.cells #[.int .i64 (-1), .int .i64 256] 3)
          replace o6 := o6.q ((Q.refl wz).alloc (.cells #[.int .i64 (-1), .int .i64 256] 3))
          replace DD := DD.q ((Q.refl wz).alloc (.cells #[.int .i64 (-1), .int .i64 256] 3))
          replace r5 := r5.alloc (.cells #[.int .i64 (-1), .int .i64 256] 3)
          generalize wz.alloc (.cells #[.int .i64 (-1), .int .i64 256] 3) = wz at lb ba bb o6 DD r5 sz hS ⊢
          refine wpAnyX_step (k := 9) (by kernel_rfl) rfl rfl (fun K hK => ?_)
          go_simp
          refine (pick _ _ _ _ r5 (by omega) (by omega) (by omega)).mono ?_; rintro e wz ⟨q, rfl, q1, q2, r5, gz⟩
          have sz := World.grownBy.size gz
          replace ba := ba.draw gz (by omega)
          replace bb := bb.draw gz (by omega)
          replace o6 := o6.draw gz (.inl (by omega))
          replace DD := DD.trans gz
          (try replace lb := lb.draw gz (by omega))
          clear gz
          refine hK.out _ _ (bb.cell 2) (fun hS => ?_)
          clear hK K
          try simp only [Act.put, List.setIfInBounds_toArray, List.set_cons_zero, List.set_cons_succ]
          refine wpAnyX_take (i := 10) (v := ?vv8) rfl (by kernel_rfl) (by kernel_rfl) (by kernel_rfl) (by kernel_rfl) (fun _ _ _ h => h) (Or.inl ⟨by rfl, ?hy8⟩) hS ?rest8
          case hy8 => (intro ww hSw; (try dsimp only at hSw); go_split_ands; go_simp; try with_reducible rfl)
          try simp only [Act.put, List.setIfInBounds_toArray, List.set_cons_zero, List.set_cons_succ]
          obtain ⟨V, hV⟩ : ∃ V : Int, wz.cell? ⟨nb, q.toNat, none⟩ = some (.int .i64 V) := by
            rcases (by omega : q = 0 ∨ q = 1) with rfl | rfl
            all_goals exact ⟨_, lb.cell _⟩
          refine wpAnyX_step (k := 11) (by kernel_rfl) rfl rfl (fun K hK => ?_)
          go_simp
          refine hK.out _ _ (bb.cell 2) (fun hS => ?_)
          clear hK K
          try simp only [Act.put, List.setIfInBounds_toArray, List.set_cons_zero, List.set_cons_succ]
          refine wpAnyX_tail [12, 13] 12 (by kernel_rfl) (by decide) rfl ?_
          have oc := o6.1.at j.toNat (by omega)
          have of := o6.1.free j.toNat
          replace o6 : OwnI (wz.setCell ⟨gb, j.toNat, none⟩ (.int .i64 V)) _ _ _ _ _ := ⟨o6.1.set j.toNat V, o6.2⟩
          have HL' : (xs.set j.toNat V).length = m := by rw [List.length_set, HL]
          replace ba := ba.far (p := ⟨gb, j.toNat, none⟩) (by show w.heap.size ≠ gb; omega) (.int .i64 V)
          replace bb := bb.far (p := ⟨gb, j.toNat, none⟩) (by show w3.heap.size ≠ gb; omega) (.int .i64 V)
          replace r5 := r5.set (q := ⟨gb, j.toNat, none⟩) (by show g < gb; omega) (.int .i64 V)
          replace DD := DD.set (p := ⟨gb, j.toNat, none⟩) (by show w.heap.size ≤ gb; omega) (.int .i64 V)
          replace o6 := o6.rdi
          have bc := bb.cell; have ac := ba.cell; have af := ba.free; have O6 := Lib.hid o6; have R5 := Lib.hid (r5.more (P' := P + 3000) (by omega)); have D5 := Lib.hid DD; have B5 := Lib.hid bb; clear o6 r5 DD bb ba; go_wp2_with fail; refine bodyPost_ret (v := .agg #[.int .i64 wn, .int .i64 hn, .slice (some ⟨gb, 0, none⟩) m c]) (by simp [results, Try.results58, go_sem, ac]) rfl ⟨⟨_, _, (some ⟨gb, 0, none⟩), m, c, (xs.set j.toNat V), rfl, (by refine RdI.mono (lo := wv.heap.size) (hi := w3.heap.size) ?_ (by omega) (by simp [World.setCell]; omega); repeat (first | exact O6.out | refine RdI.far ?_ (by first | exact .inl (by show w.heap.size < _; omega) | exact .inr (by show _ ≤ w3.heap.size; omega)) _)), HL', by omega, by omega, by omega, by omega, by omega, by omega, by omega⟩, (by repeat (first | exact R5.out | refine Rdr.set ?_ (by first | (show g < w.heap.size; omega) | (show g < w3.heap.size; omega)) _)), (by repeat (first | exact D5.out | refine Dr.set ?_ (by first | (show w.heap.size ≤ w.heap.size; omega) | (show w.heap.size ≤ w3.heap.size; omega)) _))⟩
        · go_simp
          refine (pick _ _ _ _ r5 (by omega) (by omega) (by omega)).mono ?_; rintro e wz ⟨q, rfl, q1, q2, r5, gz⟩
          have sz := World.grownBy.size gz
          replace ba := ba.draw gz (by omega)
          replace bb := bb.draw gz (by omega)
          replace o6 := o6.draw gz (.inl (by omega))
          replace DD := DD.trans gz
          (try replace lb := lb.draw gz (by omega))
          clear gz
          refine hK.out _ _ (bb.cell 2) (fun hS => ?_)
          clear hK K
          try simp only [Act.put, List.setIfInBounds_toArray, List.set_cons_zero, List.set_cons_succ]
          refine wpAnyX_step (k := 7) (by kernel_rfl) rfl rfl (fun K hK => ?_)
          go_simp
          refine hK.out _ _ ((bb.alloc _).cell 2) (fun hS => ?_)
          clear hK K
          try simp only [Act.put, List.setIfInBounds_toArray, List.set_cons_zero, List.set_cons_succ]
          have lb := Blk.new wz 3 #[.int .i64 (-1), .int .i64 256]
          have lbl : w3.heap.size < wz.heap.size := by omega
          generalize hwb : wz.heap.size = nb at lb lbl ⊢
          have sz : (wz.alloc (.cells #[.int .i64 (-1), .int .i64 256] 3)).heap.size = nb + 1 := by simp [hwb]
          replace ba := ba.alloc (.cells #[.int .i64 (-1), .int .i64 256] 3)
          replace bb := bb.alloc (.cells #[.int .i64 (-1), .int .i64 256] 3)
          replace o6 := o6.q ((Q.refl wz).alloc (.cells #[.int .i64 (-1), .int .i64 256] 3))
          replace DD := DD.q ((Q.refl wz).alloc (.cells #[.int .i64 (-1), .int .i64 256] 3))
          replace r5 := r5.alloc (.cells #[.int .i64 (-1), .int .i64 256] 3)
          generalize wz.alloc (.cells #[.int .i64 (-1), .int .i64 256] 3) = wz at lb ba bb o6 DD r5 sz hS ⊢
          refine wpAnyX_take (i := 10) (v := ?vv9) rfl (by kernel_rfl) (by kernel_rfl) (by kernel_rfl) (by kernel_rfl) (fun _ _ _ h => h) (Or.inl ⟨by rfl, ?hy9⟩) hS ?rest9
          case hy9 => (intro ww hSw; (try dsimp only at hSw); go_split_ands; go_simp; try with_reducible rfl)
          try simp only [Act.put, List.setIfInBounds_toArray, List.set_cons_zero, List.set_cons_succ]
          obtain ⟨V, hV⟩ : ∃ V : Int, wz.cell? ⟨nb, q.toNat, none⟩ = some (.int .i64 V) := by
            rcases (by omega : q = 0 ∨ q = 1) with rfl | rfl
            all_goals exact ⟨_, lb.cell _⟩
          refine wpAnyX_step (k := 11) (by kernel_rfl) rfl rfl (fun K hK => ?_)
          go_simp
          refine hK.out _ _ (bb.cell 2) (fun hS => ?_)
          clear hK K
          try simp only [Act.put, List.setIfInBounds_toArray, List.set_cons_zero, List.set_cons_succ]
          refine wpAnyX_tail [12, 13] 12 (by kernel_rfl) (by decide) rfl ?_
          have oc := o6.1.at j.toNat (by omega)
          have of := o6.1.free j.toNat
          replace o6 : OwnI (wz.setCell ⟨gb, j.toNat, none⟩ (.int .i64 V)) _ _ _ _ _ := ⟨o6.1.set j.toNat V, o6.2⟩
          have HL' : (xs.set j.toNat V).length = m := by rw [List.length_set, HL]
          replace ba := ba.far (p := ⟨gb, j.toNat, none⟩) (by show w.heap.size ≠ gb; omega) (.int .i64 V)
          replace bb := bb.far (p := ⟨gb, j.toNat, none⟩) (by show w3.heap.size ≠ gb; omega) (.int .i64 V)
          replace r5 := r5.set (q := ⟨gb, j.toNat, none⟩) (by show g < gb; omega) (.int .i64 V)
          replace DD := DD.set (p := ⟨gb, j.toNat, none⟩) (by show w.heap.size ≤ gb; omega) (.int .i64 V)
          replace o6 := o6.rdi
          have bc := bb.cell; have ac := ba.cell; have af := ba.free; have O6 := Lib.hid o6; have R5 := Lib.hid (r5.more (P' := P + 3000) (by omega)); have D5 := Lib.hid DD; have B5 := Lib.hid bb; clear o6 r5 DD bb ba; go_wp2_with fail; refine bodyPost_ret (v := .agg #[.int .i64 wn, .int .i64 hn, .slice (some ⟨gb, 0, none⟩) m c]) (by simp [results, Try.results58, go_sem, ac]) rfl ⟨⟨_, _, (some ⟨gb, 0, none⟩), m, c, (xs.set j.toNat V), rfl, (by refine RdI.mono (lo := wv.heap.size) (hi := w3.heap.size) ?_ (by omega) (by simp [World.setCell]; omega); repeat (first | exact O6.out | refine RdI.far ?_ (by first | exact .inl (by show w.heap.size < _; omega) | exact .inr (by show _ ≤ w3.heap.size; omega)) _)), HL', by omega, by omega, by omega, by omega, by omega, by omega, by omega⟩, (by repeat (first | exact R5.out | refine Rdr.set ?_ (by first | (show g < w.heap.size; omega) | (show g < w3.heap.size; omega)) _)), (by repeat (first | exact D5.out | refine Dr.set ?_ (by first | (show w.heap.size ≤ w.heap.size; omega) | (show w.heap.size ≤ w3.heap.size; omega)) _))⟩
      · go_simp
        refine hK.out _ _ ((bb.alloc _).cell 2) (fun hS => ?_)
        clear hK K
        try simp only [Act.put, List.setIfInBounds_toArray, List.set_cons_zero, List.set_cons_succ]
        have lb := Blk.new wz 3 #[.int .i64 (-1), .int .i64 256]
        have lbl : w3.heap.size < wz.heap.size := by omega
        generalize hwb : wz.heap.size = nb at lb lbl ⊢
        have sz : (wz.alloc (.cells #[.int .i64 (-1), .int .i64 256] 3)).heap.size = nb + 1 := by simp [hwb]
        replace ba := ba.alloc (.cells #[.int .i64 (-1), .int .i64 256] 3)
        replace bb := bb.alloc (.cells #[.int .i64 (-1), .int .i64 256] 3)
        replace o6 := o6.q ((Q.refl wz).alloc (.cells #[.int .i64 (-1), .int .i64 256] 3))
        replace DD := DD.q ((Q.refl wz).alloc (.cells #[.int .i64 (-1), .int .i64 256] 3))
        replace r5 := r5.alloc (.cells #[.int .i64 (-1), .int .i64 256] 3)
        generalize wz.alloc (.cells #[.int .i64 (-1), .int .i64 256] 3) = wz at lb ba bb o6 DD r5 sz hS ⊢
        refine wpAnyX_step (k := 6) (by kernel_rfl) rfl rfl (fun K hK => ?_)
        go_simp
        refine (pick _ _ _ _ r5 (by omega) (by omega) (by omega)).mono ?_; rintro e wz ⟨j, rfl, j1, j2, r5, gz⟩
        have sz := World.grownBy.size gz
        replace ba := ba.draw gz (by omega)
        replace bb := bb.draw gz (by omega)
        replace o6 := o6.draw gz (.inl (by omega))
        replace DD := DD.trans gz
        (try replace lb := lb.draw gz (by omega))
        clear gz
        refine hK.out _ _ (bb.cell 2) (fun hS => ?_)
        clear hK K
        try simp only [Act.put, List.setIfInBounds_toArray, List.set_cons_zero, List.set_cons_succ]
        refine wpAnyX_step (k := 9) (by kernel_rfl) rfl rfl (fun K hK => ?_)
        go_simp
        refine (pick _ _ _ _ r5 (by omega) (by omega) (by omega)).mono ?_; rintro e wz ⟨q, rfl, q1, q2, r5, gz⟩
        have sz := World.grownBy.size gz
        replace ba := ba.draw gz (by omega)
        replace bb := bb.draw gz (by omega)
        replace o6 := o6.draw gz (.inl (by omega))
        replace DD := DD.trans gz
        (try replace lb := lb.draw gz (by omega))
        clear gz
        refine hK.out _ _ (bb.cell 2) (fun hS => ?_)
        clear hK K
        try simp only [Act.put, List.setIfInBounds_toArray, List.set_cons_zero, List.set_cons_succ]
        refine wpAnyX_take (i := 10) (v := ?vv10) rfl (by kernel_rfl) (by kernel_rfl) (by kernel_rfl) (by kernel_rfl) (fun _ _ _ h => h) (Or.inl ⟨by rfl, ?hy10⟩) hS ?rest10
        case hy10 => (intro ww hSw; (try dsimp only at hSw); go_split_ands; go_simp; try with_reducible rfl)
        try simp only [Act.put, List.setIfInBounds_toArray, List.set_cons_zero, List.set_cons_succ]
        obtain ⟨V, hV⟩ : ∃ V : Int, wz.cell? ⟨nb, q.toNat, none⟩ = some (.int .i64 V) := by
          rcases (by omega : q = 0 ∨ q = 1) with rfl | rfl
          all_goals exact ⟨_, lb.cell _⟩
        refine wpAnyX_step (k := 11) (by kernel_rfl) rfl rfl (fun K hK => ?_)
        go_simp
        refine hK.out _ _ (bb.cell 2) (fun hS => ?_)
        clear hK K
        try simp only [Act.put, List.setIfInBounds_toArray, List.set_cons_zero, List.set_cons_succ]
        refine wpAnyX_tail [12, 13] 12 (by kernel_rfl) (by decide) rfl ?_
        have oc := o6.1.at j.toNat (by omega)
        have of := o6.1.free j.toNat
        replace o6 : OwnI (wz.setCell ⟨gb, j.toNat, none⟩ (.int .i64 V)) _ _ _ _ _ := ⟨o6.1.set j.toNat V, o6.2⟩
        have HL' : (xs.set j.toNat V).length = m := by rw [List.length_set, HL]
        replace ba := ba.far (p := ⟨gb, j.toNat, none⟩) (by show w.heap.size ≠ gb; omega) (.int .i64 V)
        replace bb := bb.far (p := ⟨gb, j.toNat, none⟩) (by show w3.heap.size ≠ gb; omega) (.int .i64 V)
        replace r5 := r5.set (q := ⟨gb, j.toNat, none⟩) (by show g < gb; omega) (.int .i64 V)
        replace DD := DD.set (p := ⟨gb, j.toNat, none⟩) (by show w.heap.size ≤ gb; omega) (.int .i64 V)
        replace o6 := o6.rdi
        have bc := bb.cell; have ac := ba.cell; have af := ba.free; have O6 := Lib.hid o6; have R5 := Lib.hid (r5.more (P' := P + 3000) (by omega)); have D5 := Lib.hid DD; have B5 := Lib.hid bb; clear o6 r5 DD bb ba; go_wp2_with fail; refine bodyPost_ret (v := .agg #[.int .i64 wn, .int .i64 hn, .slice (some ⟨gb, 0, none⟩) m c]) (by simp [results, Try.results58, go_sem, ac]) rfl ⟨⟨_, _, (some ⟨gb, 0, none⟩), m, c, (xs.set j.toNat V), rfl, (by refine RdI.mono (lo := wv.heap.size) (hi := w3.heap.size) ?_ (by omega) (by simp [World.setCell]; omega); repeat (first | exact O6.out | refine RdI.far ?_ (by first | exact .inl (by show w.heap.size < _; omega) | exact .inr (by show _ ≤ w3.heap.size; omega)) _)), HL', by omega, by omega, by omega, by omega, by omega, by omega, by omega⟩, (by repeat (first | exact R5.out | refine Rdr.set ?_ (by first | (show g < w.heap.size; omega) | (show g < w3.heap.size; omega)) _)), (by repeat (first | exact D5.out | refine Dr.set ?_ (by first | (show w.heap.size ≤ w.heap.size; omega) | (show w.heap.size ≤ w3.heap.size; omega)) _))⟩
    · rcases o6.1.form' with ⟨_, hz⟩ | ⟨gb, cb, he, hb1, hb2, hb3, hb4⟩
      · omega
      cases he
      have o6' := o6.rdi.tail
      replace o6 := o6'
      have r5 := r6
      have bf := bb.free
      have hc1 : (1 : Int) ≤ (m : Int) := by omega
      have hc2 : (m : Int) ≤ (c : Int) := by omega
      have hc3 : ¬ c = 1 := by omega
      unfold maxLen at hb4
      clear r6 o6'
      have bc := bb.cell; have ac := ba.cell; have af := ba.free; have O6 := Lib.hid o6; have R5 := Lib.hid (r5.more (P' := P + 3000) (by omega)); have D5 := Lib.hid DD; have B5 := Lib.hid bb; clear o6 r5 DD bb ba; go_wp2_with fail; refine bodyPost_ret (v := .agg #[.int .i64 wn, .int .i64 hn, .slice (some ⟨gb, 1, none⟩) (m - 1) (c - 1)]) (by simp [results, Try.results58, go_sem, ac]) rfl ⟨⟨_, _, (some ⟨gb, 1, none⟩), (m - 1), (c - 1), (xs.drop 1), rfl, (by refine RdI.mono (lo := wv.heap.size) (hi := w3.heap.size) ?_ (by omega) (by simp [World.setCell]; omega); repeat (first | exact O6.out | refine RdI.far ?_ (by first | exact .inl (by show w.heap.size < _; omega) | exact .inr (by show _ ≤ w3.heap.size; omega)) _)), (by rw [List.length_drop, HL]), by omega, by omega, by omega, by omega, by omega, by omega, by omega⟩, (by repeat (first | exact R5.out | refine Rdr.set ?_ (by first | (show g < w.heap.size; omega) | (show g < w3.heap.size; omega)) _)), (by repeat (first | exact D5.out | refine Dr.set ?_ (by first | (show w.heap.size ≤ w.heap.size; omega) | (show w.heap.size ≤ w3.heap.size; omega)) _))⟩
    · replace o6 := o6.rdi
      have r5 := r6
      clear r6
      have hl0 : ([] : List Int).length = 0 := rfl
      replace o6 := RdI.nil w6 wv.heap.size w3.heap.size none
      have bc := bb.cell; have ac := ba.cell; have af := ba.free; have O6 := Lib.hid o6; have R5 := Lib.hid (r5.more (P' := P + 3000) (by omega)); have D5 := Lib.hid DD; have B5 := Lib.hid bb; clear o6 r5 DD bb ba; go_wp2_with fail; refine bodyPost_ret (v := .agg #[.int .i64 0, .int .i64 0, .slice none 0 0]) (by simp [results, Try.results58, go_sem, ac]) rfl ⟨⟨_, _, none, 0, 0, [], rfl, (by refine RdI.mono (lo := wv.heap.size) (hi := w3.heap.size) ?_ (by omega) (by simp [World.setCell]; omega); repeat (first | exact O6.out | refine RdI.far ?_ (by first | exact .inl (by show w.heap.size < _; omega) | exact .inr (by show _ ≤ w3.heap.size; omega)) _)), hl0, by omega, by omega, by omega, by omega, by omega, by omega, by omega⟩, (by repeat (first | exact R5.out | refine Rdr.set ?_ (by first | (show g < w.heap.size; omega) | (show g < w3.heap.size; omega)) _)), (by repeat (first | exact D5.out | refine Dr.set ?_ (by first | (show w.heap.size ≤ w.heap.size; omega) | (show w.heap.size ≤ w3.heap.size; omega)) _))⟩
end Go.Proofs.Ytoipcfpbkjanhaa

/-
  The drawing of pictures: one that is similar to another; a pair.
-/
import Derived.Test.YtoipcfpbkjanhaaDrawQ
import Derived.Test.YtoipcfpbkjanhaaSmp
namespace Go.Proofs.Ytoipcfpbkjanhaa
open Go.RowKit

theorem step_append_i {w : World} {ops : Array Oper} {o : Oper} {a : Act} {K : Act → World → Prop} {Q' : Exit → Act → World → Prop} {E : Prop} (hgd : o.guard = none) (s x : Operand)
    (ho : o.op = .call { callee := .builtin .append, args := #[s, x], argTypes := #[22, 22] })
    (B n : Nat) (v : Value) (xs : List Int) (hs : a.eval s = v) (hown : Own w B v n xs) (ad : Addr) (y : Int) (c : Nat) (hx : a.eval x = .slice (some ad) 1 c)
    (hn : n ≤ 1000000000000) (hBw : B ≤ w.heap.size) (hc : w.cell? ad = some (.int .i64 y))
    (h : ∀ g cap w', Own w' B (.slice (some ⟨g, 0, none⟩) (n + 1) cap) (n + 1) (xs ++ [y]) → B ≤ w'.heap.size → w.grownBy w' v.ownBlock → K (a.put o.dst (.slice (some ⟨g, 0, none⟩) (n + 1) cap)) w') :
    if Region.wanted o (yielded ops a.tmps) = true then Oper.wp Try.prog o a w K Q' else E := by
  obtain ⟨i0, hi, hz0, hz1, hz2⟩ := info_parts info_int
  refine step_append_lies _ hgd s x 22 ho B 3 i0 (.int .i64 0) 1 8 Try.underlying22 hi hz0 hz1 hz2 rfl (by decide) v n _ hs hown.2 ad 1 c [.int .i64 y] hx rfl ?_ ?_ (by decide) ?_ ?_ hBw _ rfl ?_
  · intro j u hj
    match j, hj with
    | 0, hj => simp at hj; subst hj; simpa [Addr.add] using hc
  · intro u hu; simp at hu; subst hu; rfl
  · unfold maxLen; omega
  · omega
  · intro g cap w' h1 h2 _ _
    exact h g cap w' ⟨by simp [hown.1], by simpa using h1⟩ (Nat.le_trans hBw h2.size) h2

set_option maxRecDepth 100000 in
set_option maxHeartbeats 8000000 in
theorem l20Next_ok (g P : Nat) (W H : Int) (A : Option Addr) (n c lo hi : Nat) (xs : List Int) (w : World) (h : Rdr w g P) (hP : P ≤ 600000) (hx : RdI w lo hi A xs) (hlo : g < lo) (hhi : hi ≤ w.heap.size) (hn : Hid (xs.length = n)) (hp : Hid (picB W H xs = true)) :
    Calls Try.prog 73 #[.pointer (some ⟨g, 0, none⟩), .agg #[.int .i64 W, .int .i64 H, .slice A n c]] w fun e w' => PicR w w' e ∧ Rdr w' g (P + 3000) ∧ Dr g w w' := by
  have hl := h.lt
  have hs : ((w.alloc (.cells #[.int .i64 W, .int .i64 H, .slice A n c] 27)).alloc (.cells #[.int .i64 0, .int .i64 0, .slice none 0 0] 27)).heap.size = w.heap.size + 2 := by simp
  have q0 : Q w ((w.alloc (.cells #[.int .i64 W, .int .i64 H, .slice A n c] 27)).alloc (.cells #[.int .i64 0, .int .i64 0, .slice none 0 0] 27)) := (by repeat (first | exact Q.refl _ | assumption | refine Q.drewN ?_ _ | refine Q.drew ?_ | refine Q.alloc ?_ _ | refine Q.trans ?_ (by assumption) | refine Q.set ?_ (by first | exact Nat.le_refl _ | omega | (simp; done) | (simp; omega)) _))
  have bp := (Blk.new w 27 #[.int .i64 W, .int .i64 H, .slice A n c]).alloc (.cells #[.int .i64 0, .int .i64 0, .slice none 0 0] 27)
  have br := Blk.new (w.alloc (.cells #[.int .i64 W, .int .i64 H, .slice A n c] 27)) 27 #[.int .i64 0, .int .i64 0, .slice none 0 0]
  rw [World.size_alloc] at br
  have dd : Dr g w _ := Dr.of_q q0
  have ox := hx.q q0 hhi
  have rr := (h.alloc (.cells #[.int .i64 W, .int .i64 H, .slice A n c] 27)).alloc (.cells #[.int .i64 0, .int .i64 0, .slice none 0 0] 27)
  obtain ⟨pW, pH, pl, pa⟩ := picB_parts hp.out
  obtain ⟨a1, a2⟩ := area_le pW.1 pW.2.1 pH.1 pH.2.1
  rw [hn.out] at pl
  have n1 : n ≤ 1024 := by omega
  have nn : n ≤ 9223372036854775807 := by omega
  clear h hx q0 pa
  go_enter Try.func73, Try.ntmps73
  go_wp2_with fail
  refine (spec_PictureValid W H A n c _ xs true _ ox.rd (by omega) hn nn hp).mono ?_; rintro e wv ⟨rfl, q1⟩
  have s1 := q1.size
  replace bp := bp.q q1
  replace br := br.q q1
  replace ox := ox.q q1 (by omega)
  replace dd := dd.q q1
  replace rr := rr.q q1
  have bpc := bp.cell
  clear q1
  go_wp2_with fail
  refine (pick _ _ _ _ rr (by omega) (by omega) (by omega)).mono ?_; rintro e wv ⟨dx, rfl, d1, d2, rr, gz⟩
  have s2 := World.grownBy.size gz
  replace bp := bp.draw gz (by omega)
  replace br := br.draw gz (by omega)
  replace ox := ox.draw gz (by omega) (.inl hlo)
  replace dd := dd.trans gz
  clear gz bpc
  go_wp2_with fail
  refine (pick _ _ _ _ rr (by omega) (by omega) (by omega)).mono ?_; rintro e wv ⟨dy, rfl, d3, d4, rr, gz⟩
  have s3 := World.grownBy.size gz
  replace bp := bp.draw gz (by omega)
  replace br := br.draw gz (by omega)
  replace ox := ox.draw gz (by omega) (.inl hlo)
  replace dd := dd.trans gz
  clear gz
  go_wp2_with fail
  refine (pick _ _ _ _ (rr.alloc _) (by omega) (by omega) (by omega)).mono ?_; rintro e w4 ⟨nz, rfl, d5, d6, rr, gz⟩
  have l4 := ((Blk.new wv 3 #[.int .i64 1, .int .i64 1, .int .i64 3, .int .i64 40]).draw gz (by omega)).cell
  have s4 := World.grownBy.size gz
  rw [World.size_alloc] at s4
  replace bp := (bp.alloc _).draw gz (by omega)
  replace br := (br.alloc _).draw gz (by omega)
  replace ox := (ox.q ((Q.refl _).alloc _) (by omega)).draw gz (by rw [World.size_alloc]; omega) (.inl hlo)
  replace dd := (dd.q ((Q.refl _).alloc _)).trans gz
  clear gz
  obtain ⟨N, hN, e1, e2⟩ : ∃ N : Int, w4.cell? ⟨wv.heap.size, nz.toNat, none⟩ = some (.int .i64 N) ∧ 1 ≤ N ∧ N ≤ 40 := by
    rcases (by omega : nz = 0 ∨ nz = 1 ∨ nz = 2 ∨ nz = 3) with rfl | rfl | rfl | rfl
    all_goals exact ⟨_, l4 _, by omega, by omega⟩
  clear l4
  have bpc := bp.cell
  go_wp2_with fail
  have bx := Blk.new w4 27 #[.int .i64 W, .int .i64 H, .slice none 0 0]
  have s5 : (w4.alloc (.cells #[.int .i64 W, .int .i64 H, .slice none 0 0] 27)).heap.size = w4.heap.size + 1 := by simp
  replace bp := bp.alloc (.cells #[.int .i64 W, .int .i64 H, .slice none 0 0] 27)
  replace br := br.alloc (.cells #[.int .i64 W, .int .i64 H, .slice none 0 0] 27)
  replace ox := ox.q ((Q.refl _).alloc (.cells #[.int .i64 W, .int .i64 H, .slice none 0 0] 27)) (by omega)
  replace dd := dd.q ((Q.refl _).alloc (.cells #[.int .i64 W, .int .i64 H, .slice none 0 0] 27))
  replace rr := rr.alloc (.cells #[.int .i64 W, .int .i64 H, .slice none 0 0] 27)
  have hxb : w.heap.size + 2 ≤ w4.heap.size := by omega
  clear hN bpc
  generalize w4.alloc (.cells #[.int .i64 W, .int .i64 H, .slice none 0 0] 27) = w5 at bx bp br ox dd rr s5 ⊢
  generalize w4.heap.size = xb at bx s5 s4 hxb ⊢
  obtain ⟨B0, hB0⟩ : ∃ B0, B0 = w5.heap.size := ⟨_, rfl⟩
  have HA := Lib.hid bx
  have HB := Lib.hid (show Own w5 B0 (.slice none 0 0) 0 [] ∧ Rdr w5 g (P + 3 + 0) ∧ Dr g w w5 ∧ Blk w5 (w.heap.size + 1) 27 #[.int .i64 0, .int .i64 0, .slice none 0 0] ∧ RdI w5 lo hi A xs ∧ Blk w5 w.heap.size 27 #[.int .i64 W, .int .i64 H, .slice A n c] ∧ B0 ≤ w5.heap.size from ⟨Own.nil _ _, rr, dd, br, ox, bp, Nat.le_of_eq hB0⟩)
  have hB1 : xb + 1 = B0 := by omega
  clear bx bp br ox dd rr hB0 s5 s4
  go_loopw [9] (fun i wr => ∃ (k : Nat) (Av : Option Addr) (cv : Nat) (zs : List Int), k ≤ n ∧ i = .int .i64 k ∧ Hid (Own wr B0 (.slice Av k cv) k zs ∧ Rdr wr g (P + 3 + k) ∧ Dr g w wr ∧ Blk wr (w.heap.size + 1) 27 #[.int .i64 0, .int .i64 0, .slice none 0 0] ∧ RdI wr lo hi A xs ∧ Blk wr w.heap.size 27 #[.int .i64 W, .int .i64 H, .slice A n c] ∧ B0 ≤ wr.heap.size) ∧ Hid (Blk wr xb 27 #[.int .i64 W, .int .i64 H, .slice Av k cv])) (fun i _ => n - (intOf i).toNat)
  case atStart => exact ⟨0, none, 0, [], Nat.zero_le _, rfl, HB, HA⟩
  case round =>
    obtain ⟨k, Av, cv, zs, hk, rfl, hK, hx⟩ := hrel
    clear HA HB
    obtain ⟨o1, rr, dd, br, ox, bp, sB⟩ := hK.out
    have bx := hx.out
    have bpc := bp.cell
    have BX := Lib.hid bx
    have BP := Lib.hid bp
    have BR := Lib.hid br
    have OX := Lib.hid ox
    have DD := Lib.hid dd
    have RR := Lib.hid rr
    have OO := Lib.hid o1
    clear o1 rr dd br ox bp bx hK hx
    by_cases hlt : k < n
    · have kn : (k : Int) < (n : Int) := by omega
      have hW0 : (W == 0) = false := by rw [beq_eq_false_iff_ne]; omega
      have hW1 : ¬ W = 0 := by omega
      go_wp2_with fail
      clear bpc
      have hwd : wr.heap.size ≤ wr.drew.heap.size := Nat.le_refl _
      refine wp_region_x (fun ww => ww.cell? ⟨xb, 2, none⟩ = some (.slice Av k cv) ∧ ww.cell? ⟨w.heap.size, 0, none⟩ = some (.int .i64 W) ∧ ww.cell? ⟨w.heap.size, 1, none⟩ = some (.int .i64 H) ∧ ww.cell? ⟨w.heap.size, 2, none⟩ = some (.slice A n c)) (fun j => decide (24 ≤ j)) (by kernel_rfl) ⟨BX.out.cell 2, BP.out.cell 0, BP.out.cell 1, BP.out.cell 2⟩ (fun hS => ?_)
      refine wpAnyX_take (i := 0) (v := ?vv1) rfl (by kernel_rfl) (by kernel_rfl) (by kernel_rfl) (by kernel_rfl) (fun _ _ _ h => h) (Or.inl ⟨by rfl, ?hy1⟩) hS ?rest1
      case hy1 => (intro ww hSw; (try dsimp only at hSw); go_split_ands; go_simp; try with_reducible rfl)
      try simp only [Act.put, List.setIfInBounds_toArray, List.set_cons_zero, List.set_cons_succ]
      refine wpAnyX_take (i := 1) (v := ?vv2) rfl (by kernel_rfl) (by kernel_rfl) (by kernel_rfl) (by kernel_rfl) (fun _ _ _ h => h) (Or.inl ⟨by rfl, ?hy2⟩) hS ?rest2
      case hy2 => (intro ww hSw; (try dsimp only at hSw); go_split_ands; go_simp; try with_reducible rfl)
      try simp only [Act.put, List.setIfInBounds_toArray, List.set_cons_zero, List.set_cons_succ]
      refine wpAnyX_take (i := 2) (v := ?vv3) rfl (by kernel_rfl) (by kernel_rfl) (by kernel_rfl) (by kernel_rfl) (fun _ _ _ h => h) (Or.inl ⟨by rfl, ?hy3⟩) hS ?rest3
      case hy3 => (intro ww hSw; (try dsimp only at hSw); go_split_ands; go_simp; try with_reducible rfl)
      try simp only [Act.put, List.setIfInBounds_toArray, List.set_cons_zero, List.set_cons_succ]
      refine wpAnyX_take (i := 3) (v := ?vv4) rfl (by kernel_rfl) (by kernel_rfl) (by kernel_rfl) (by kernel_rfl) (fun _ _ _ h => h) (Or.inl ⟨by rfl, ?hy4⟩) hS ?rest4
      case hy4 => (intro ww hSw; (try dsimp only at hSw); go_split_ands; go_simp; try with_reducible rfl)
      try simp only [Act.put, List.setIfInBounds_toArray, List.set_cons_zero, List.set_cons_succ]
      refine wpAnyX_take (i := 4) (v := ?vv5) rfl (by kernel_rfl) (by kernel_rfl) (by kernel_rfl) (by kernel_rfl) (fun _ _ _ h => h) (Or.inl ⟨by rfl, ?hy5⟩) hS ?rest5
      case hy5 => (intro ww hSw; (try dsimp only at hSw); go_split_ands; go_simp; try with_reducible rfl)
      try simp only [Act.put, List.setIfInBounds_toArray, List.set_cons_zero, List.set_cons_succ]
      refine wpAnyX_take (i := 5) (v := ?vv6) rfl (by kernel_rfl) (by kernel_rfl) (by kernel_rfl) (by kernel_rfl) (fun _ _ _ h => h) (Or.inl ⟨by rfl, ?hy6⟩) hS ?rest6
      case hy6 => (intro ww hSw; (try dsimp only at hSw); go_split_ands; go_simp; try with_reducible rfl)
      try simp only [Act.put, List.setIfInBounds_toArray, List.set_cons_zero, List.set_cons_succ]
      refine wpAnyX_take (i := 6) (v := ?vv7) rfl (by kernel_rfl) (by kernel_rfl) (by kernel_rfl) (by kernel_rfl) (fun _ _ _ h => h) (Or.inl ⟨by rfl, ?hy7⟩) hS ?rest7
      case hy7 => (intro ww hSw; (try dsimp only at hSw); go_split_ands; go_simp; try with_reducible rfl)
      try simp only [Act.put, List.setIfInBounds_toArray, List.set_cons_zero, List.set_cons_succ]
      refine wpAnyX_take (i := 7) (v := ?vv8) rfl (by kernel_rfl) (by kernel_rfl) (by kernel_rfl) (by kernel_rfl) (fun _ _ _ h => h) (Or.inl ⟨by rfl, ?hy8⟩) hS ?rest8
      case hy8 => (intro ww hSw; (try dsimp only at hSw); go_split_ands; go_simp; try with_reducible rfl)
      try simp only [Act.put, List.setIfInBounds_toArray, List.set_cons_zero, List.set_cons_succ]
      refine wpAnyX_take (i := 8) (v := ?vv9) rfl (by kernel_rfl) (by kernel_rfl) (by kernel_rfl) (by kernel_rfl) (fun _ _ _ h => h) (Or.inl ⟨by rfl, ?hy9⟩) hS ?rest9
      case hy9 => (intro ww hSw; (try dsimp only at hSw); go_split_ands; go_simp; try with_reducible rfl)
      try simp only [Act.put, List.setIfInBounds_toArray, List.set_cons_zero, List.set_cons_succ]
      refine wpAnyX_take (i := 9) (v := ?vv10) rfl (by kernel_rfl) (by kernel_rfl) (by kernel_rfl) (by kernel_rfl) (fun _ _ _ h => h) (Or.inl ⟨by rfl, ?hy10⟩) hS ?rest10
      case hy10 => (intro ww hSw; (try dsimp only at hSw); go_split_ands; go_simp; try with_reducible rfl)
      try simp only [Act.put, List.setIfInBounds_toArray, List.set_cons_zero, List.set_cons_succ]
      refine wpAnyX_take (i := 10) (v := ?vv11) rfl (by kernel_rfl) (by kernel_rfl) (by kernel_rfl) (by kernel_rfl) (fun _ _ _ h => h) (Or.inl ⟨by rfl, ?hy11⟩) hS ?rest11
      case hy11 => (intro ww hSw; (try dsimp only at hSw); go_split_ands; go_simp; try with_reducible rfl)
      try simp only [Act.put, List.setIfInBounds_toArray, List.set_cons_zero, List.set_cons_succ]
      refine wpAnyX_take (i := 11) (v := ?vv12) rfl (by kernel_rfl) (by kernel_rfl) (by kernel_rfl) (by kernel_rfl) (fun _ _ _ h => h) (Or.inl ⟨by rfl, ?hy12⟩) hS ?rest12
      case hy12 => (intro ww hSw; (try dsimp only at hSw); go_split_ands; go_simp; try with_reducible rfl)
      try simp only [Act.put, List.setIfInBounds_toArray, List.set_cons_zero, List.set_cons_succ]
      refine wpAnyX_take (i := 12) (v := ?vv13) rfl (by kernel_rfl) (by kernel_rfl) (by kernel_rfl) (by kernel_rfl) (fun _ _ _ h => h) (Or.inl ⟨by rfl, ?hy13⟩) hS ?rest13
      case hy13 => (intro ww hSw; (try dsimp only at hSw); go_split_ands; go_simp; try with_reducible rfl)
      try simp only [Act.put, List.setIfInBounds_toArray, List.set_cons_zero, List.set_cons_succ]
      refine wpAnyX_take (i := 13) (v := ?vv14) rfl (by kernel_rfl) (by kernel_rfl) (by kernel_rfl) (by kernel_rfl) (fun _ _ _ h => h) (Or.inl ⟨by rfl, ?hy14⟩) hS ?rest14
      case hy14 => (intro ww hSw; (try dsimp only at hSw); go_split_ands; go_simp; try with_reducible rfl)
      try simp only [Act.put, List.setIfInBounds_toArray, List.set_cons_zero, List.set_cons_succ]
      refine wpAnyX_take (i := 14) (v := ?vv15) rfl (by kernel_rfl) (by kernel_rfl) (by kernel_rfl) (by kernel_rfl) (fun _ _ _ h => h) (Or.inl ⟨by rfl, ?hy15⟩) hS ?rest15
      case hy15 => (intro ww hSw; (try dsimp only at hSw); go_split_ands; go_simp; try with_reducible rfl)
      try simp only [Act.put, List.setIfInBounds_toArray, List.set_cons_zero, List.set_cons_succ]
      refine wpAnyX_take (i := 16) (v := ?vv16) rfl (by kernel_rfl) (by kernel_rfl) (by kernel_rfl) (by kernel_rfl) (fun _ _ _ h => h) (Or.inl ⟨by rfl, ?hy16⟩) hS ?rest16
      case hy16 => (intro ww hSw; (try dsimp only at hSw); go_split_ands; go_simp; try with_reducible rfl)
      try simp only [Act.put, List.setIfInBounds_toArray, List.set_cons_zero, List.set_cons_succ]
      refine wpAnyX_take (i := 17) (v := ?vv17) rfl (by kernel_rfl) (by kernel_rfl) (by kernel_rfl) (by kernel_rfl) (fun _ _ _ h => h) (Or.inl ⟨by rfl, ?hy17⟩) hS ?rest17
      case hy17 => (intro ww hSw; (try dsimp only at hSw); go_split_ands; go_simp; try with_reducible rfl)
      try simp only [Act.put, List.setIfInBounds_toArray, List.set_cons_zero, List.set_cons_succ]
      have bx := BX.out.drewN 1
      have bp := BP.out.drewN 1
      have br := BR.out.drewN 1
      have ox := OX.out.q ((Q.refl _).drew) (by omega)
      have dd := DD.out.q ((Q.refl _).drew)
      have rr := RR.out.drew
      have oo := OO.out.i.q ((Q.refl _).drew)
      change Blk wr.drew _ _ _ at bx
      change Blk wr.drew _ _ _ at bp
      change Blk wr.drew _ _ _ at br
      refine wpAnyX_step (k := 15) (by kernel_rfl) rfl rfl (fun K hK => ?_)
      go_simp
      refine (spec_at W H _ _ A n c _ xs _ ox.rd (by omega) hn hp).mono ?_; rintro e wz ⟨rfl, q1⟩
      have s6 := q1.size
      replace bx := bx.q q1
      replace bp := bp.q q1
      replace br := br.q q1
      replace ox := ox.q q1 (by omega)
      replace dd := dd.q q1
      replace rr := rr.q q1
      replace oo := oo.q q1
      clear q1 BX BP BR OX DD RR OO
      refine hK.out _ _ ⟨bx.cell 2, bp.cell 0, bp.cell 1, bp.cell 2⟩ (fun hS => ?_)
      clear hK K
      try simp only [Act.put, List.setIfInBounds_toArray, List.set_cons_zero, List.set_cons_succ]
      generalize hsv : smpAt W H xs _ _ = sv
      have hsv1 : 0 ≤ sv ∧ sv ≤ 255 := by rw [← hsv]; exact smp_in hp.out _ _
      clear hsv
      refine wpAnyX_step (k := 18) (by kernel_rfl) rfl rfl (fun K hK => ?_)
      go_simp
      refine (pick _ _ _ _ rr (by omega) (by omega) (by omega)).mono ?_; rintro e wz ⟨r, rfl, r1, r2, rr, gz⟩
      have s7 := World.grownBy.size gz
      replace bx := bx.draw gz (by omega)
      replace bp := bp.draw gz (by omega)
      replace br := br.draw gz (by omega)
      replace ox := ox.draw gz (by omega) (.inl hlo)
      replace dd := dd.trans gz
      replace oo := oo.draw gz (.inl (by omega))
      clear gz
      refine hK.out _ _ ⟨bx.cell 2, bp.cell 0, bp.cell 1, bp.cell 2⟩ (fun hS => ?_)
      clear hK K
      try simp only [Act.put, List.setIfInBounds_toArray, List.set_cons_zero, List.set_cons_succ]
      obtain ⟨t, ht⟩ : ∃ t, sv + r = t := ⟨_, rfl⟩
      have tw : IntKind.i64.wrap (sv + r) = t := by rw [ht]; exact IntWalk.i64_in _ ⟨by omega, by omega⟩
      have HT := Lib.hid ht
      clear ht
      refine wpAnyX_take (i := 19) (v := ?vv18) rfl (by kernel_rfl) (by kernel_rfl) (by kernel_rfl) (by kernel_rfl) (fun _ _ _ h => h) (Or.inl ⟨by rfl, ?hy18⟩) hS ?rest18
      case hy18 => (intro ww hSw; (try dsimp only at hSw); go_split_ands; go_simp; try with_reducible rfl)
      try simp only [Act.put, List.setIfInBounds_toArray, List.set_cons_zero, List.set_cons_succ]
      clear tw
      rcases (by omega : (0 < t ∧ t < 255) ∨ t ≤ 0 ∨ 255 ≤ t) with ⟨t1, t2⟩ | t1 | t1
      · have t3 := t1
        refine wpAnyX_take (i := 20) (v := ?vv19) rfl (by kernel_rfl) (by kernel_rfl) (by kernel_rfl) (by kernel_rfl) (fun _ _ _ h => h) (Or.inl ⟨by rfl, ?hy19⟩) hS ?rest19
        case hy19 => (intro ww hSw; (try dsimp only at hSw); go_split_ands; go_simp; try with_reducible rfl)
        try simp only [Act.put, List.setIfInBounds_toArray, List.set_cons_zero, List.set_cons_succ]
        refine wpAnyX_take (i := 21) (v := ?vv20) rfl (by kernel_rfl) (by kernel_rfl) (by kernel_rfl) (by kernel_rfl) (fun _ _ _ h => h) (Or.inl ⟨by rfl, ?hy20⟩) hS ?rest20
        case hy20 => (intro ww hSw; (try dsimp only at hSw); go_split_ands; go_simp; try with_reducible rfl)
        try simp only [Act.put, List.setIfInBounds_toArray, List.set_cons_zero, List.set_cons_succ]
        refine wpAnyX_step (k := 22) (by kernel_rfl) rfl rfl (fun K hK => ?_); go_simp; refine hK.out _ _ ⟨(bx.alloc _).cell 2, (bp.alloc _).cell 0, (bp.alloc _).cell 1, (bp.alloc _).cell 2⟩ (fun hS => ?_); clear hK K; (try simp only [Act.put, List.setIfInBounds_toArray, List.set_cons_zero, List.set_cons_succ]); have sz := (World.size_alloc wz (.cells #[.int .i64 t] 3)); refine wpAnyX_step (k := 23) (by kernel_rfl) rfl rfl (fun K hK => ?_); refine step_append_i (by rfl) _ _ (by rfl) B0 _ _ _ (by rfl) (oo.1.alloc _) ⟨wz.heap.size, 0, none⟩ t 1 (by rfl) (by omega) (by first | exact Nat.le_refl _ | omega | (simp; done) | (simp; omega)) (by simp) ?_; intro Az cz wn oz sz' gz; have oi := (oo.q ((Q.refl wz).alloc (.cells #[.int .i64 t] 3))); have bx' := (bx.alloc _).mark oi gz (.inl (by omega)); have bp' := (bp.alloc _).mark oi gz (.inl (by omega)); have br' := (br.alloc _).mark oi gz (.inl (by omega)); have rr' := (rr.alloc _).own oi gz (by omega); have dd' := (dd.q ((Q.refl wz).alloc _)).mark oi gz (by omega); have ox' := (ox.q ((Q.refl wz).alloc _) (by omega)).mark oi gz (by omega) (.inl (by omega)); have s9 := gz.size; refine hK.out _ _ ⟨bx'.cell 2, bp'.cell 0, bp'.cell 1, bp'.cell 2⟩ (fun hS => ?_); clear hK K hS; (try simp only [Act.put, List.setIfInBounds_toArray, List.set_cons_zero, List.set_cons_succ]); have bc := bx'.cell; have bf := bx'.free; have BX := Lib.hid (bx'.set 2 (.slice (some ⟨Az, 0, none⟩) (k + 1) cz)); have BP := Lib.hid (bp'.far (p := ⟨xb, 2, none⟩) (show w.heap.size ≠ xb by omega) (.slice (some ⟨Az, 0, none⟩) (k + 1) cz))
        clear bx' bp' t1 t2 t3
        refine wpAnyX_tail [24, 25] 24 (by kernel_rfl) (by decide) rfl ?_
        have HOZ := Lib.hid (oz.far (p := ⟨xb, 2, none⟩) (by show xb < B0; omega) (.slice (some ⟨Az, 0, none⟩) (k + 1) cz))
        have HRZ := Lib.hid ((rr'.set (q := ⟨xb, 2, none⟩) (by show g < xb; omega) (.slice (some ⟨Az, 0, none⟩) (k + 1) cz)).more (P' := P + 3 + (k + 1)) (by omega))
        have HDZ := Lib.hid (dd'.set (p := ⟨xb, 2, none⟩) (by show w.heap.size ≤ xb; omega) (.slice (some ⟨Az, 0, none⟩) (k + 1) cz))
        have HBZ := Lib.hid (br'.far (p := ⟨xb, 2, none⟩) (by show w.heap.size + 1 ≠ xb; omega) (.slice (some ⟨Az, 0, none⟩) (k + 1) cz))
        have HXZ := Lib.hid (ox'.far (p := ⟨xb, 2, none⟩) (.inr (by show hi ≤ xb; omega)) (.slice (some ⟨Az, 0, none⟩) (k + 1) cz))
        clear oz rr' dd' br' ox' gz oi oo bx bp br ox dd rr
        go_wp2_with fail
        go_roundw
        case rel => exact ⟨k + 1, _, cz, _, by omega, by go_num, ⟨HOZ.out, HRZ.out, HDZ.out, HBZ.out, HXZ.out, BP.out, by simpa [World.setCell] using sz'⟩, BX.out⟩
        case measure => simp [intOf]; omega
      · have t2 : t < 255 := by omega
        have t3 : ¬ 0 < t := by omega
        refine wpAnyX_take (i := 20) (v := ?vv21) rfl (by kernel_rfl) (by kernel_rfl) (by kernel_rfl) (by kernel_rfl) (fun _ _ _ h => h) (Or.inl ⟨by rfl, ?hy21⟩) hS ?rest21
        case hy21 => (intro ww hSw; (try dsimp only at hSw); go_split_ands; go_simp; try with_reducible rfl)
        try simp only [Act.put, List.setIfInBounds_toArray, List.set_cons_zero, List.set_cons_succ]
        refine wpAnyX_take (i := 21) (v := ?vv22) rfl (by kernel_rfl) (by kernel_rfl) (by kernel_rfl) (by kernel_rfl) (fun _ _ _ h => h) (Or.inl ⟨by rfl, ?hy22⟩) hS ?rest22
        case hy22 => (intro ww hSw; (try dsimp only at hSw); go_split_ands; go_simp; try with_reducible rfl)
        try simp only [Act.put, List.setIfInBounds_toArray, List.set_cons_zero, List.set_cons_succ]
        refine wpAnyX_step (k := 22) (by kernel_rfl) rfl rfl (fun K hK => ?_); go_simp; refine hK.out _ _ ⟨(bx.alloc _).cell 2, (bp.alloc _).cell 0, (bp.alloc _).cell 1, (bp.alloc _).cell 2⟩ (fun hS => ?_); clear hK K; (try simp only [Act.put, List.setIfInBounds_toArray, List.set_cons_zero, List.set_cons_succ]); have sz := (World.size_alloc wz (.cells #[.int .i64 0] 3)); refine wpAnyX_step (k := 23) (by kernel_rfl) rfl rfl (fun K hK => ?_); refine step_append_i (by rfl) _ _ (by rfl) B0 _ _ _ (by rfl) (oo.1.alloc _) ⟨wz.heap.size, 0, none⟩ 0 1 (by rfl) (by omega) (by first | exact Nat.le_refl _ | omega | (simp; done) | (simp; omega)) (by simp) ?_; intro Az cz wn oz sz' gz; have oi := (oo.q ((Q.refl wz).alloc (.cells #[.int .i64 0] 3))); have bx' := (bx.alloc _).mark oi gz (.inl (by omega)); have bp' := (bp.alloc _).mark oi gz (.inl (by omega)); have br' := (br.alloc _).mark oi gz (.inl (by omega)); have rr' := (rr.alloc _).own oi gz (by omega); have dd' := (dd.q ((Q.refl wz).alloc _)).mark oi gz (by omega); have ox' := (ox.q ((Q.refl wz).alloc _) (by omega)).mark oi gz (by omega) (.inl (by omega)); have s9 := gz.size; refine hK.out _ _ ⟨bx'.cell 2, bp'.cell 0, bp'.cell 1, bp'.cell 2⟩ (fun hS => ?_); clear hK K hS; (try simp only [Act.put, List.setIfInBounds_toArray, List.set_cons_zero, List.set_cons_succ]); have bc := bx'.cell; have bf := bx'.free; have BX := Lib.hid (bx'.set 2 (.slice (some ⟨Az, 0, none⟩) (k + 1) cz)); have BP := Lib.hid (bp'.far (p := ⟨xb, 2, none⟩) (show w.heap.size ≠ xb by omega) (.slice (some ⟨Az, 0, none⟩) (k + 1) cz))
        clear bx' bp' t1 t2
        refine wpAnyX_tail [24, 25] 24 (by kernel_rfl) (by decide) rfl ?_
        have HOZ := Lib.hid (oz.far (p := ⟨xb, 2, none⟩) (by show xb < B0; omega) (.slice (some ⟨Az, 0, none⟩) (k + 1) cz))
        have HRZ := Lib.hid ((rr'.set (q := ⟨xb, 2, none⟩) (by show g < xb; omega) (.slice (some ⟨Az, 0, none⟩) (k + 1) cz)).more (P' := P + 3 + (k + 1)) (by omega))
        have HDZ := Lib.hid (dd'.set (p := ⟨xb, 2, none⟩) (by show w.heap.size ≤ xb; omega) (.slice (some ⟨Az, 0, none⟩) (k + 1) cz))
        have HBZ := Lib.hid (br'.far (p := ⟨xb, 2, none⟩) (by show w.heap.size + 1 ≠ xb; omega) (.slice (some ⟨Az, 0, none⟩) (k + 1) cz))
        have HXZ := Lib.hid (ox'.far (p := ⟨xb, 2, none⟩) (.inr (by show hi ≤ xb; omega)) (.slice (some ⟨Az, 0, none⟩) (k + 1) cz))
        clear oz rr' dd' br' ox' gz oi oo bx bp br ox dd rr
        go_wp2_with fail
        go_roundw
        case rel => exact ⟨k + 1, _, cz, _, by omega, by go_num, ⟨HOZ.out, HRZ.out, HDZ.out, HBZ.out, HXZ.out, BP.out, by simpa [World.setCell] using sz'⟩, BX.out⟩
        case measure => simp [intOf]; omega
      · have t2 : ¬ t < 255 := by omega
        refine wpAnyX_take (i := 20) (v := ?vv23) rfl (by kernel_rfl) (by kernel_rfl) (by kernel_rfl) (by kernel_rfl) (fun _ _ _ h => h) (Or.inl ⟨by rfl, ?hy23⟩) hS ?rest23
        case hy23 => (intro ww hSw; (try dsimp only at hSw); go_split_ands; go_simp; try with_reducible rfl)
        try simp only [Act.put, List.setIfInBounds_toArray, List.set_cons_zero, List.set_cons_succ]
        refine wpAnyX_take (i := 21) (v := ?vv24) rfl (by kernel_rfl) (by kernel_rfl) (by kernel_rfl) (by kernel_rfl) (fun _ _ _ h => h) (Or.inl ⟨by rfl, ?hy24⟩) hS ?rest24
        case hy24 => (intro ww hSw; (try dsimp only at hSw); go_split_ands; go_simp; try with_reducible rfl)
        try simp only [Act.put, List.setIfInBounds_toArray, List.set_cons_zero, List.set_cons_succ]
        refine wpAnyX_step (k := 22) (by kernel_rfl) rfl rfl (fun K hK => ?_); go_simp; refine hK.out _ _ ⟨(bx.alloc _).cell 2, (bp.alloc _).cell 0, (bp.alloc _).cell 1, (bp.alloc _).cell 2⟩ (fun hS => ?_); clear hK K; (try simp only [Act.put, List.setIfInBounds_toArray, List.set_cons_zero, List.set_cons_succ]); have sz := (World.size_alloc wz (.cells #[.int .i64 255] 3)); refine wpAnyX_step (k := 23) (by kernel_rfl) rfl rfl (fun K hK => ?_); refine step_append_i (by rfl) _ _ (by rfl) B0 _ _ _ (by rfl) (oo.1.alloc _) ⟨wz.heap.size, 0, none⟩ 255 1 (by rfl) (by omega) (by first | exact Nat.le_refl _ | omega | (simp; done) | (simp; omega)) (by simp) ?_; intro Az cz wn oz sz' gz; have oi := (oo.q ((Q.refl wz).alloc (.cells #[.int .i64 255] 3))); have bx' := (bx.alloc _).mark oi gz (.inl (by omega)); have bp' := (bp.alloc _).mark oi gz (.inl (by omega)); have br' := (br.alloc _).mark oi gz (.inl (by omega)); have rr' := (rr.alloc _).own oi gz (by omega); have dd' := (dd.q ((Q.refl wz).alloc _)).mark oi gz (by omega); have ox' := (ox.q ((Q.refl wz).alloc _) (by omega)).mark oi gz (by omega) (.inl (by omega)); have s9 := gz.size; refine hK.out _ _ ⟨bx'.cell 2, bp'.cell 0, bp'.cell 1, bp'.cell 2⟩ (fun hS => ?_); clear hK K hS; (try simp only [Act.put, List.setIfInBounds_toArray, List.set_cons_zero, List.set_cons_succ]); have bc := bx'.cell; have bf := bx'.free; have BX := Lib.hid (bx'.set 2 (.slice (some ⟨Az, 0, none⟩) (k + 1) cz)); have BP := Lib.hid (bp'.far (p := ⟨xb, 2, none⟩) (show w.heap.size ≠ xb by omega) (.slice (some ⟨Az, 0, none⟩) (k + 1) cz))
        clear bx' bp' t1 t2
        refine wpAnyX_tail [24, 25] 24 (by kernel_rfl) (by decide) rfl ?_
        have HOZ := Lib.hid (oz.far (p := ⟨xb, 2, none⟩) (by show xb < B0; omega) (.slice (some ⟨Az, 0, none⟩) (k + 1) cz))
        have HRZ := Lib.hid ((rr'.set (q := ⟨xb, 2, none⟩) (by show g < xb; omega) (.slice (some ⟨Az, 0, none⟩) (k + 1) cz)).more (P' := P + 3 + (k + 1)) (by omega))
        have HDZ := Lib.hid (dd'.set (p := ⟨xb, 2, none⟩) (by show w.heap.size ≤ xb; omega) (.slice (some ⟨Az, 0, none⟩) (k + 1) cz))
        have HBZ := Lib.hid (br'.far (p := ⟨xb, 2, none⟩) (by show w.heap.size + 1 ≠ xb; omega) (.slice (some ⟨Az, 0, none⟩) (k + 1) cz))
        have HXZ := Lib.hid (ox'.far (p := ⟨xb, 2, none⟩) (.inr (by show hi ≤ xb; omega)) (.slice (some ⟨Az, 0, none⟩) (k + 1) cz))
        clear oz rr' dd' br' ox' gz oi oo bx bp br ox dd rr
        go_wp2_with fail
        go_roundw
        case rel => exact ⟨k + 1, _, cz, _, by omega, by go_num, ⟨HOZ.out, HRZ.out, HDZ.out, HBZ.out, HXZ.out, BP.out, by simpa [World.setCell] using sz'⟩, BX.out⟩
        case measure => simp [intOf]; omega
    · have hkn : k = n := by omega
      subst hkn
      have brc := BR.out.cell
      have brf := BR.out.free
      have bxc := BX.out.cell
      have ol := OO.out.1
      have hcc : k ≤ cv ∧ cv ≤ 9223372036854775807 := by
        rcases OO.out.form' with ⟨_, hz⟩ | ⟨gb, cb, he, hb1, hb2, hb3, hb4⟩
        · omega
        · cases he; unfold maxLen at hb4; omega
      have OI := Lib.hid OO.out.i.rdi
      clear BX BP BR OX
      go_wp2_with fail
      refine bodyPost_ret (v := .agg #[.int .i64 W, .int .i64 H, .slice Av k cv]) (by simp [results, Try.results73, go_sem, brc]) rfl ⟨⟨_, _, Av, k, cv, zs, rfl, (by refine RdI.mono (lo := B0) (hi := wr.heap.size) ?_ (by omega) (by simp [World.setCell]); repeat (first | exact OI.out | refine RdI.far ?_ (.inl (by show w.heap.size + 1 < _; omega)) _)), ol, by omega, by omega, by omega, by omega, by omega, by omega, by omega⟩, (by have h := RR.out.more (P' := P + 3000) (by omega); repeat (first | exact h | refine Rdr.set ?_ (by show g < w.heap.size + 1; omega) _)), (by repeat (first | exact DD.out | refine Dr.set ?_ (by show w.heap.size ≤ w.heap.size + 1; omega) _))⟩
end Go.Proofs.Ytoipcfpbkjanhaa

/-
  FadePicture of the reference.
-/
import Derived.Test.YtoipcfpbkjanhaaFade2
import Derived.Test.YtoipcfpbkjanhaaTakes
namespace Go.Proofs.Ytoipcfpbkjanhaa
open Go.RowKit

theorem cell_far {w : World} {p : Addr} {u : Value} {b o : Nat} (h : b ≠ p.block) : (w.setCell p u).cell? ⟨b, o, none⟩ = w.cell? ⟨b, o, none⟩ := World.cell?_of_block (a := ⟨b, o, none⟩) (Below.heap_setCell w p u b h)

set_option maxRecDepth 100000 in
set_option maxHeartbeats 4000000 in
theorem spec_Fade_ok (W H W' H' t : Int) (A A' : Option Addr) (n n' c c' B B' : Nat) (xs ys : List Int) (w : World) (hx : Rd w B A xs) (hB : B ≤ w.heap.size) (hy : Rd w B' A' ys) (hB' : B' ≤ w.heap.size)
    (hn : Hid (xs.length = n)) (hn' : Hid (ys.length = n')) (hs : Hid (sameB W H xs W' H' ys = true)) (t1 : 0 ≤ t) (t2 : t ≤ 8) :
    Calls Try.prog 24 #[.agg #[.int .i64 W, .int .i64 H, .slice A n c], .agg #[.int .i64 W', .int .i64 H', .slice A' n' c'], .int .i64 t] w fun e w' => ∃ v, e = .returned (.agg #[.int .i64 W, .int .i64 H, v]) ∧ Own w' w.heap.size v n (fadeL t xs ys) ∧ Q w w' := by
  obtain ⟨rfl, rfl, hl, l1, l2, pa, pb⟩ := same_parts hs.out
  obtain rfl : n' = n := by rw [← hn.out, ← hn'.out, hl]
  rw [hn.out] at l1 l2
  have PA := Lib.hid (allB_get pa)
  have PB := Lib.hid (allB_get pb)
  have FG := Lib.hid (fun k h1 h2 => fadeL_get t xs ys k h1 h2)
  have FL := Lib.hid ((fadeL_len t xs ys hl).trans hn.out)
  generalize fadeL t xs ys = fs at FG FL ⊢
  clear hl pa pb
  have q0 : Q w (((w.alloc (.cells #[.int .i64 W', .int .i64 H', .slice A n' c] 27)).alloc (.cells #[.int .i64 W', .int .i64 H', .slice A' n' c'] 27)).alloc (.cells #[.int .i64 0, .int .i64 0, .slice none 0 0] 27)) := (by repeat (first | exact Q.refl _ | assumption | refine Q.drewN ?_ _ | refine Q.drew ?_ | refine Q.alloc ?_ _ | refine Q.trans ?_ (by assumption) | refine Q.set ?_ (by first | exact Nat.le_refl _ | omega | (simp; done) | (simp; omega)) _))
  have b0 := ((Blk.new w 27 #[.int .i64 W', .int .i64 H', .slice A n' c]).alloc (.cells #[.int .i64 W', .int .i64 H', .slice A' n' c'] 27)).alloc (.cells #[.int .i64 0, .int .i64 0, .slice none 0 0] 27)
  have d0 := (Blk.new (w.alloc (.cells #[.int .i64 W', .int .i64 H', .slice A n' c] 27)) 27 #[.int .i64 W', .int .i64 H', .slice A' n' c']).alloc (.cells #[.int .i64 0, .int .i64 0, .slice none 0 0] 27)
  have r0 := Blk.new ((w.alloc (.cells #[.int .i64 W', .int .i64 H', .slice A n' c] 27)).alloc (.cells #[.int .i64 W', .int .i64 H', .slice A' n' c'] 27)) 27 #[.int .i64 0, .int .i64 0, .slice none 0 0]
  simp only [World.size_alloc] at d0 r0
  have s0 : w.heap.size + 3 ≤ (((w.alloc (.cells #[.int .i64 W', .int .i64 H', .slice A n' c] 27)).alloc (.cells #[.int .i64 W', .int .i64 H', .slice A' n' c'] 27)).alloc (.cells #[.int .i64 0, .int .i64 0, .slice none 0 0] 27)).heap.size := by simp
  have HX := Lib.hid (hx.q q0 hB)
  have HY := Lib.hid (hy.q q0 hB')
  clear hx hy
  go_enter Try.func24, Try.ntmps24
  go_wp2_with fail
  refine (spec_l1Same W' H' W' H' A A' n' n' c c' _ _ xs ys true _ HX.out (by omega) HY.out (by omega) hn hn' (by omega) (by omega) hs).mono ?_; rintro e w4 ⟨rfl, q4⟩
  have b4 := b0.q q4
  have d4 := d0.q q4
  have r4 := r0.q q4
  have X4 := Lib.hid (HX.out.q q4 (by omega))
  have Y4 := Lib.hid (HY.out.q q4 (by omega))
  have Q4 := q0.trans q4
  have s4 := Nat.le_trans s0 q4.size
  have bc4 := b4.cell
  clear b0 d0 r0 HX HY s0 q0 q4
  go_wp2_with fail
  refine (l1In_tt _ _ _ _ t1 t2).mono ?_; rintro e w' ⟨rfl, rfl⟩
  have e5 := Blk.new w4 27 #[.int .i64 W', .int .i64 H', .slice none 0 0]
  have q5 : Q w4 (w4.alloc (.cells #[.int .i64 W', .int .i64 H', .slice none 0 0] 27)) := (Q.refl _).alloc _
  have hsz : (w4.alloc (.cells #[.int .i64 W', .int .i64 H', .slice none 0 0] 27)).heap.size = w4.heap.size + 1 := by simp
  have bc5 := (b4.q q5).cell
  go_wp2_with fail
  generalize w4.alloc (.cells #[.int .i64 W', .int .i64 H', .slice none 0 0] 27) = w5 at e5 q5 hsz bc5 ⊢
  have HE := Lib.hid e5
  have HQ5 := Lib.hid q5
  have HB4 := Lib.hid b4
  have HD4 := Lib.hid d4
  have HR4 := Lib.hid r4
  have HQ4 := Lib.hid Q4
  clear e5 q5 b4 d4 r4 Q4 bc4 bc5
  go_loopw [8] (fun i wr => ∃ (k : Nat) (Av : Option Addr) (cv : Nat), k ≤ n' ∧ i = .int .i64 k ∧ Own wr (w4.heap.size + 1) (.slice Av k cv) k (fs.take k) ∧ Q w4 wr ∧ Blk wr w4.heap.size 27 #[.int .i64 W', .int .i64 H', .slice Av k cv] ∧ w4.heap.size + 1 ≤ wr.heap.size) (fun i _ => n' - (intOf i).toNat)
  case atStart => exact ⟨0, none, 0, Nat.zero_le _, rfl, by rw [List.take_zero]; exact Own.nil _ _, HQ5.out, HE.out, by omega⟩
  case round =>
    obtain ⟨k, Av, cv, hk, rfl, ho, hq, he, hws⟩ := hrel
    have hbr := (HB4.out.q hq).cell
    by_cases hlt : k < n'
    · obtain ⟨ga, oa, rfl, hba, hca⟩ := X4.out (by rw [hn.out]; omega)
      obtain ⟨gb, ob, rfl, hbb, hcb⟩ := Y4.out (by rw [hn'.out]; omega)
      have hc1 := (hq.cell ga (oa + k) (by omega)).trans (hca k (by rw [hn.out]; exact hlt))
      have hc2 := (hq.cell gb (ob + k) (by omega)).trans (hcb k (by rw [hn'.out]; exact hlt))
      obtain ⟨x1, x2⟩ := PA.out k (by rw [hn.out]; exact hlt)
      obtain ⟨y1, y2⟩ := PB.out k (by rw [hn'.out]; exact hlt)
      have hf := FG.out k (by rw [hn.out]; exact hlt) (by rw [hn'.out]; exact hlt)
      generalize xs[k]?.getD 0 = x at hc1 x1 x2 hf
      generalize ys[k]?.getD 0 = y at hc2 y1 y2 hf
      obtain ⟨p1, p2, p3, p4⟩ := fade_in t1 t2 x1 x2 y1 y2
      have hfv : fadeAt t x y = ((8 - t) * x + t * y + 4) / 8 := rfl
      obtain ⟨p, hp⟩ : ∃ p, (8 - t) * x = p := ⟨_, rfl⟩
      obtain ⟨q, hq'⟩ : ∃ q, t * y = q := ⟨_, rfl⟩
      rw [hp] at p1 p2 hfv
      rw [hq'] at p3 p4 hfv
      rw [hfv] at hf
      have HF := Lib.hid hf
      have tp : IntKind.i64.wrap ((8 - t) * x) = p := by rw [hp]; exact IntWalk.i64_in _ ⟨by omega, by omega⟩
      have tp2 : wrap64 ((8 - t) * x) = p := by rw [← IntWalk.i64_left, tp]
      have tq : IntKind.i64.wrap (t * y) = q := by rw [hq']; exact IntWalk.i64_in _ ⟨by omega, by omega⟩
      have m1 : (p + q + 4).tdiv 8 = (p + q + 4) / 8 := Int.tdiv_eq_ediv_of_nonneg (by omega)
      have m2 : IntKind.i64.wrap ((p + q + 4) / 8) = (p + q + 4) / 8 := IntWalk.i64_in _ ⟨by omega, by omega⟩
      have hdr := (HD4.out.q hq).cell
      have her := he.cell
      have HO := Lib.hid ho
      have HQ := Lib.hid hq
      have HEE := Lib.hid he
      have z1 : ∀ i, ({ heap := wr.heap, tape := wr.tape, drawn := wr.drawn + 1, os := wr.os, output := wr.output } : World).cell? ⟨w.heap.size, i, none⟩ = _ := hbr
      have z2 : ∀ i, ({ heap := wr.heap, tape := wr.tape, drawn := wr.drawn + 1, os := wr.os, output := wr.output } : World).cell? ⟨w4.heap.size, i, none⟩ = _ := her
      have z3 : ({ heap := wr.heap, tape := wr.tape, drawn := wr.drawn + 1, os := wr.os, output := wr.output } : World).cell? ⟨ga, oa + k, none⟩ = _ := hc1
      have z4 : ({ heap := wr.heap, tape := wr.tape, drawn := wr.drawn + 1, os := wr.os, output := wr.output } : World).cell? ⟨gb, ob + k, none⟩ = _ := hc2
      have z5 : ∀ i, ({ heap := wr.heap, tape := wr.tape, drawn := wr.drawn + 1, os := wr.os, output := wr.output } : World).cell? ⟨w.heap.size + 1, i, none⟩ = _ := hdr
      have kn : (k : Int) < (n' : Int) := by omega
      clear ho hq he hf hp hq' hfv hca hcb
      go_wp2_with fail
      have hsk : w4.heap.size < wr.heap.size := by omega
      have k1 : wr.cell? ⟨w.heap.size, 2, none⟩ = some (.slice (some ⟨ga, oa, none⟩) n' c) := hbr 2
      have k2 : wr.cell? ⟨w.heap.size + 1, 2, none⟩ = some (.slice (some ⟨gb, ob, none⟩) n' c') := hdr 2
      have r1 : IntKind.i64.wrap (8 - t) = 8 - t := IntWalk.i64_in _ ⟨by omega, by omega⟩
      have r2 : IntKind.i64.wrap (p + q) = p + q := IntWalk.i64_in _ ⟨by omega, by omega⟩
      have r3 : IntKind.i64.wrap (p + q + 4) = p + q + 4 := IntWalk.i64_in _ ⟨by omega, by omega⟩
      have k0 : wr.cell? ⟨w4.heap.size, 2, none⟩ = some (.slice Av k cv) := her 2
      refine wp_region_x (fun ww => ww.cell? ⟨w4.heap.size, 2, none⟩ = some (.slice Av k cv) ∧ ww.cell? ⟨w.heap.size, 2, none⟩ = some (.slice (some ⟨ga, oa, none⟩) n' c) ∧ ww.cell? ⟨w.heap.size + 1, 2, none⟩ = some (.slice (some ⟨gb, ob, none⟩) n' c') ∧ ww.cell? ⟨ga, oa + k, none⟩ = some (.int .i64 x) ∧ ww.cell? ⟨gb, ob + k, none⟩ = some (.int .i64 y)) (fun j => decide (22 ≤ j)) (by kernel_rfl) ⟨k0, k1, k2, hc1, hc2⟩ (fun hS => ?_)
      refine wpAnyX_take (i := 0) (v := ?vv1) rfl (by kernel_rfl) (by kernel_rfl) (by kernel_rfl) (by kernel_rfl) (fun _ _ _ h => h) (Or.inl ⟨by rfl, ?hy1⟩) hS ?rest1
      case hy1 => (intro ww hSw; (try dsimp only at hSw); go_split_ands; go_simp; try with_reducible rfl)
      try simp only [Act.put, List.setIfInBounds_toArray, List.set_cons_zero, List.set_cons_succ]
      refine wpAnyX_take (i := 1) (v := ?vv2) rfl (by kernel_rfl) (by kernel_rfl) (by kernel_rfl) (by kernel_rfl) (fun _ _ _ h => h) (Or.inl ⟨by rfl, ?hy2⟩) hS ?rest2
      case hy2 => (intro ww hSw; (try dsimp only at hSw); go_split_ands; go_simp; try with_reducible rfl)
      try simp only [Act.put, List.setIfInBounds_toArray, List.set_cons_zero, List.set_cons_succ]
      refine wpAnyX_take (i := 2) (v := ?vv3) rfl (by kernel_rfl) (by kernel_rfl) (by kernel_rfl) (by kernel_rfl) (fun _ _ _ h => h) (Or.inl ⟨by rfl, ?hy3⟩) hS ?rest3
      case hy3 => (intro ww hSw; (try dsimp only at hSw); go_split_ands; go_simp; try with_reducible rfl)
      try simp only [Act.put, List.setIfInBounds_toArray, List.set_cons_zero, List.set_cons_succ]
      refine wpAnyX_take (i := 3) (v := ?vv4) rfl (by kernel_rfl) (by kernel_rfl) (by kernel_rfl) (by kernel_rfl) (fun _ _ _ h => h) (Or.inl ⟨by rfl, ?hy4⟩) hS ?rest4
      case hy4 => (intro ww hSw; (try dsimp only at hSw); go_split_ands; go_simp; try with_reducible rfl)
      try simp only [Act.put, List.setIfInBounds_toArray, List.set_cons_zero, List.set_cons_succ]
      refine wpAnyX_take (i := 4) (v := ?vv5) rfl (by kernel_rfl) (by kernel_rfl) (by kernel_rfl) (by kernel_rfl) (fun _ _ _ h => h) (Or.inl ⟨by rfl, ?hy5⟩) hS ?rest5
      case hy5 => (intro ww hSw; (try dsimp only at hSw); go_split_ands; go_simp; try with_reducible rfl)
      try simp only [Act.put, List.setIfInBounds_toArray, List.set_cons_zero, List.set_cons_succ]
      refine wpAnyX_take (i := 5) (v := ?vv6) rfl (by kernel_rfl) (by kernel_rfl) (by kernel_rfl) (by kernel_rfl) (fun _ _ _ h => h) (Or.inl ⟨by rfl, ?hy6⟩) hS ?rest6
      case hy6 => (intro ww hSw; (try dsimp only at hSw); go_split_ands; go_simp; try with_reducible rfl)
      try simp only [Act.put, List.setIfInBounds_toArray, List.set_cons_zero, List.set_cons_succ]
      refine wpAnyX_take (i := 6) (v := ?vv7) rfl (by kernel_rfl) (by kernel_rfl) (by kernel_rfl) (by kernel_rfl) (fun _ _ _ h => h) (Or.inl ⟨by rfl, ?hy7⟩) hS ?rest7
      case hy7 => (intro ww hSw; (try dsimp only at hSw); go_split_ands; go_simp; try with_reducible rfl)
      try simp only [Act.put, List.setIfInBounds_toArray, List.set_cons_zero, List.set_cons_succ]
      refine wpAnyX_take (i := 7) (v := ?vv8) rfl (by kernel_rfl) (by kernel_rfl) (by kernel_rfl) (by kernel_rfl) (fun _ _ _ h => h) (Or.inl ⟨by rfl, ?hy8⟩) hS ?rest8
      case hy8 => (intro ww hSw; (try dsimp only at hSw); go_split_ands; go_simp; try with_reducible rfl)
      try simp only [Act.put, List.setIfInBounds_toArray, List.set_cons_zero, List.set_cons_succ]
      refine wpAnyX_take (i := 8) (v := ?vv9) rfl (by kernel_rfl) (by kernel_rfl) (by kernel_rfl) (by kernel_rfl) (fun _ _ _ h => h) (Or.inl ⟨by rfl, ?hy9⟩) hS ?rest9
      case hy9 => (intro ww hSw; (try dsimp only at hSw); go_split_ands; go_simp; try with_reducible rfl)
      try simp only [Act.put, List.setIfInBounds_toArray, List.set_cons_zero, List.set_cons_succ]
      refine wpAnyX_take (i := 9) (v := ?vv10) rfl (by kernel_rfl) (by kernel_rfl) (by kernel_rfl) (by kernel_rfl) (fun _ _ _ h => h) (Or.inl ⟨by rfl, ?hy10⟩) hS ?rest10
      case hy10 => (intro ww hSw; (try dsimp only at hSw); go_split_ands; go_simp; try with_reducible rfl)
      try simp only [Act.put, List.setIfInBounds_toArray, List.set_cons_zero, List.set_cons_succ]
      refine wpAnyX_take (i := 10) (v := ?vv11) rfl (by kernel_rfl) (by kernel_rfl) (by kernel_rfl) (by kernel_rfl) (fun _ _ _ h => h) (Or.inl ⟨by rfl, ?hy11⟩) hS ?rest11
      case hy11 => (intro ww hSw; (try dsimp only at hSw); go_split_ands; go_simp; try with_reducible rfl)
      try simp only [Act.put, List.setIfInBounds_toArray, List.set_cons_zero, List.set_cons_succ]
      refine wpAnyX_take (i := 11) (v := ?vv12) rfl (by kernel_rfl) (by kernel_rfl) (by kernel_rfl) (by kernel_rfl) (fun _ _ _ h => h) (Or.inl ⟨by rfl, ?hy12⟩) hS ?rest12
      case hy12 => (intro ww hSw; (try dsimp only at hSw); go_split_ands; go_simp; try with_reducible rfl)
      try simp only [Act.put, List.setIfInBounds_toArray, List.set_cons_zero, List.set_cons_succ]
      refine wpAnyX_take (i := 12) (v := ?vv13) rfl (by kernel_rfl) (by kernel_rfl) (by kernel_rfl) (by kernel_rfl) (fun _ _ _ h => h) (Or.inl ⟨by rfl, ?hy13⟩) hS ?rest13
      case hy13 => (intro ww hSw; (try dsimp only at hSw); go_split_ands; go_simp; try with_reducible rfl)
      try simp only [Act.put, List.setIfInBounds_toArray, List.set_cons_zero, List.set_cons_succ]
      refine wpAnyX_take (i := 13) (v := ?vv14) rfl (by kernel_rfl) (by kernel_rfl) (by kernel_rfl) (by kernel_rfl) (fun _ _ _ h => h) (Or.inl ⟨by rfl, ?hy14⟩) hS ?rest14
      case hy14 => (intro ww hSw; (try dsimp only at hSw); go_split_ands; go_simp; try with_reducible rfl)
      try simp only [Act.put, List.setIfInBounds_toArray, List.set_cons_zero, List.set_cons_succ]
      refine wpAnyX_take (i := 14) (v := ?vv15) rfl (by kernel_rfl) (by kernel_rfl) (by kernel_rfl) (by kernel_rfl) (fun _ _ _ h => h) (Or.inl ⟨by rfl, ?hy15⟩) hS ?rest15
      case hy15 => (intro ww hSw; (try dsimp only at hSw); go_split_ands; go_simp; try with_reducible rfl)
      try simp only [Act.put, List.setIfInBounds_toArray, List.set_cons_zero, List.set_cons_succ]
      refine wpAnyX_take (i := 15) (v := ?vv16) rfl (by kernel_rfl) (by kernel_rfl) (by kernel_rfl) (by kernel_rfl) (fun _ _ _ h => h) (Or.inl ⟨by rfl, ?hy16⟩) hS ?rest16
      case hy16 => (intro ww hSw; (try dsimp only at hSw); go_split_ands; go_simp; try with_reducible rfl)
      try simp only [Act.put, List.setIfInBounds_toArray, List.set_cons_zero, List.set_cons_succ]
      refine wpAnyX_take (i := 16) (v := ?vv17) rfl (by kernel_rfl) (by kernel_rfl) (by kernel_rfl) (by kernel_rfl) (fun _ _ _ h => h) (Or.inl ⟨by rfl, ?hy17⟩) hS ?rest17
      case hy17 => (intro ww hSw; (try dsimp only at hSw); go_split_ands; go_simp; try with_reducible rfl)
      try simp only [Act.put, List.setIfInBounds_toArray, List.set_cons_zero, List.set_cons_succ]
      refine wpAnyX_take (i := 17) (v := ?vv18) rfl (by kernel_rfl) (by kernel_rfl) (by kernel_rfl) (by kernel_rfl) (fun _ _ _ h => h) (Or.inl ⟨by rfl, ?hy18⟩) hS ?rest18
      case hy18 => (intro ww hSw; (try dsimp only at hSw); go_split_ands; go_simp; try with_reducible rfl)
      try simp only [Act.put, List.setIfInBounds_toArray, List.set_cons_zero, List.set_cons_succ]
      refine wpAnyX_take (i := 18) (v := ?vv19) rfl (by kernel_rfl) (by kernel_rfl) (by kernel_rfl) (by kernel_rfl) (fun _ _ _ h => h) (Or.inl ⟨by rfl, ?hy19⟩) hS ?rest19
      case hy19 => (intro ww hSw; (try dsimp only at hSw); go_split_ands; go_simp; try with_reducible rfl)
      try simp only [Act.put, List.setIfInBounds_toArray, List.set_cons_zero, List.set_cons_succ]
      refine wpAnyX_take (i := 19) (v := ?vv20) rfl (by kernel_rfl) (by kernel_rfl) (by kernel_rfl) (by kernel_rfl) (fun _ _ _ h => h) (Or.inl ⟨by rfl, ?hy20⟩) hS ?rest20
      case hy20 => (intro ww hSw; (try dsimp only at hSw); go_split_ands; go_simp; try with_reducible rfl)
      try simp only [Act.put, List.setIfInBounds_toArray, List.set_cons_zero, List.set_cons_succ]
      refine wpAnyX_step (k := 20) (by kernel_rfl) rfl rfl (fun K hK => ?_)
      go_simp
      refine hK.out _ _ ?_ (fun hS => ?_)
      · simp [*, World.cell?_alloc_some]
      clear hK K
      try simp only [Act.put, List.setIfInBounds_toArray, List.set_cons_zero, List.set_cons_succ]
      refine wpAnyX_step (k := 21) (by kernel_rfl) rfl rfl (fun K hK => ?_)
      refine step_append_int (by rfl) _ _ (by rfl) w4 (w4.heap.size + 1) _ _ _ (by rfl) (HO.out.alloc _).drew ⟨wr.heap.size, 0, none⟩ ((p + q + 4) / 8) 1 (by rfl) (by omega) (by omega) (by show _ ≤ (World.alloc wr _).heap.size; rw [World.size_alloc]; omega) ((HQ.out.alloc _).drew) (by simp) ?_
      intro A7 c7 w3 o7 hq3 s7 g7
      have e7 : Blk w3 w4.heap.size 27 #[.int .i64 W', .int .i64 H', .slice Av k cv] := ((HEE.out.alloc _).drewN 1).grown g7 (fun e => by have := HO.out.below w4.heap.size e.symm; omega)
      have KK : ∀ b o, b < w4.heap.size → w3.cell? ⟨b, o, none⟩ = wr.cell? ⟨b, o, none⟩ := fun b o h => (hq3.cell b o h).trans (HQ.out.cell b o h).symm
      refine hK.out _ _ ⟨e7.cell 2, (KK w.heap.size 2 (by omega)).trans k1, (KK (w.heap.size + 1) 2 (by omega)).trans k2, (KK ga (oa + k) (by omega)).trans hc1, (KK gb (ob + k) (by omega)).trans hc2⟩ (fun _ => ?_)
      clear hK K hS KK
      try simp only [Act.put, List.setIfInBounds_toArray, List.set_cons_zero, List.set_cons_succ]
      have ec7 := e7.cell
      have ef7 := e7.free
      have O7 := Lib.hid o7
      have Q7 := Lib.hid hq3
      have E7 := Lib.hid (e7.set 2 (.slice (some ⟨A7, 0, none⟩) (k + 1) c7))
      clear o7 e7 hq3 g7
      refine wpAnyX_tail [22, 23] 22 (by kernel_rfl) (by decide) rfl ?_
      go_wp2_with fail
      go_roundw
      case rel => exact ⟨k + 1, _, c7, by omega, by go_num, by rw [take_succ_getD _ _ (by rw [FL.out]; exact hlt), HF.out]; exact O7.out.far (by simp) _, Q7.out.set (Nat.le_refl _) _, E7.out, by simp; omega⟩
      case measure => simp [intOf]; omega
    · have hkn : k = n' := by omega
      subst hkn
      rw [List.take_of_length_le (Nat.le_of_eq FL.out)] at ho
      have her := he.cell
      have hr := HR4.out.q hq
      have hrf := hr.free
      have hrc := hr.cell
      have HO := Lib.hid ho
      have Q7 := Lib.hid (HQ4.out.trans hq)
      clear ho hq hr he
      go_wp2_with fail
      refine bodyPost_ret (v := .agg #[.int .i64 W', .int .i64 H', .slice Av k cv]) (by simp [results, Try.results24, go_sem, hrc]) rfl ⟨_, rfl, ?_, ?_⟩
      · exact Own.mono (B := w4.heap.size + 1) (by repeat (first | exact HO.out | refine Own.far ?_ (by simp; omega) _)) (by omega)
      · have hq := Q7.out
        exact (by repeat (first | exact Q.refl _ | assumption | refine Q.drewN ?_ _ | refine Q.drew ?_ | refine Q.alloc ?_ _ | refine Q.trans ?_ (by assumption) | refine Q.set ?_ (by first | exact Nat.le_refl _ | omega | (simp; done) | (simp; omega)) _))
end Go.Proofs.Ytoipcfpbkjanhaa

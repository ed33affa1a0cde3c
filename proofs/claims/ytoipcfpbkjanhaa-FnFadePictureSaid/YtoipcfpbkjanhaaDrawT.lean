/-
  What the law of fades draws.
-/
import Derived.Test.YtoipcfpbkjanhaaDrawS
import Derived.Test.YtoipcfpbkjanhaaTakes
namespace Go.Proofs.Ytoipcfpbkjanhaa
open Go.RowKit

set_option maxRecDepth 100000 in
set_option maxHeartbeats 4000000 in
theorem DrawFadePicture (v : Value) (x : Option Addr × Nat × List Int) (w : World) (h : ArgBytes w v x) :
    Calls Try.prog 41 #[v] w fun e w' => ∃ (W H W' H' : Int) (A A' : Option Addr) (m c m' c' : Nat) (xs ys : List Int) (t : Int), e = .returned (.tuple #[.agg #[.int .i64 W, .int .i64 H, .slice A m c], .agg #[.int .i64 W', .int .i64 H', .slice A' m' c'], .int .i64 t]) ∧ RdI w' w.heap.size w'.heap.size A xs ∧ RdI w' w.heap.size w'.heap.size A' ys ∧ (xs.length = m ∧ m ≤ 1024) ∧ (ys.length = m' ∧ m' ≤ 1024) ∧ (-10 ≤ t ∧ t ≤ 10) ∧ Q w w' := by
  have q0 : Q w ((w.alloc (.cells #[.int .i64 0, .int .i64 0, .slice none 0 0] 27)).alloc (.cells #[.int .i64 0, .int .i64 0, .slice none 0 0] 27)) := (by repeat (first | exact Q.refl _ | assumption | refine Q.drewN ?_ _ | refine Q.drew ?_ | refine Q.alloc ?_ _ | refine Q.trans ?_ (by assumption) | refine Q.set ?_ (by first | exact Nat.le_refl _ | omega | (simp; done) | (simp; omega)) _))
  have h0 := h.q q0
  have bp := (Blk.new w 27 #[.int .i64 0, .int .i64 0, .slice none 0 0]).alloc (.cells #[.int .i64 0, .int .i64 0, .slice none 0 0] 27)
  have br := Blk.new (w.alloc (.cells #[.int .i64 0, .int .i64 0, .slice none 0 0] 27)) 27 #[.int .i64 0, .int .i64 0, .slice none 0 0]
  rw [World.size_alloc] at br
  have s0 : ((w.alloc (.cells #[.int .i64 0, .int .i64 0, .slice none 0 0] 27)).alloc (.cells #[.int .i64 0, .int .i64 0, .slice none 0 0] 27)).heap.size = w.heap.size + 2 := by simp
  go_enter Try.func41, Try.ntmps41
  go_wp2_with fail
  refine (openCode _ _ _ h0).mono ?_; rintro e w1 ⟨g, rfl, hg, r1, q1⟩
  have s1 := q1.size
  replace bp := bp.q q1
  replace br := br.q q1
  have QQ := q0.trans q1
  clear q0 q1 h0 h
  go_wp2_with fail
  refine (l20Pair _ _ _ _ r1 (by omega) (by omega) (by omega)).mono ?_; rintro e w3 ⟨⟨W, H, W', H', A, A', m, c, m', c', xs, ys, rfl, ox, oy, ⟨l1, l2, l3, l4⟩, ⟨l5, l6, l7, l8⟩, ⟨i1, i2, i3, i4⟩, ⟨j1, j2, j3, j4⟩⟩, rr, g3⟩
  have s3 := g3.size
  have q4 : Q w3 ((w3.alloc (.cells #[.int .i64 W, .int .i64 H, .slice A m c] 27)).alloc (.cells #[.int .i64 W', .int .i64 H', .slice A' m' c'] 27)) := (by repeat (first | exact Q.refl _ | assumption | refine Q.drewN ?_ _ | refine Q.drew ?_ | refine Q.alloc ?_ _ | refine Q.trans ?_ (by assumption) | refine Q.set ?_ (by first | exact Nat.le_refl _ | omega | (simp; done) | (simp; omega)) _))
  replace bp := (bp.draw g3 (by omega)).q q4
  replace br := (br.draw g3 (by omega)).q q4
  replace QQ := (g3.toQ QQ (by omega)).trans q4
  have ba := (Blk.new w3 27 #[.int .i64 W, .int .i64 H, .slice A m c]).alloc (.cells #[.int .i64 W', .int .i64 H', .slice A' m' c'] 27)
  have bb := Blk.new (w3.alloc (.cells #[.int .i64 W, .int .i64 H, .slice A m c] 27)) 27 #[.int .i64 W', .int .i64 H', .slice A' m' c']
  rw [World.size_alloc] at bb
  replace rr := rr.q q4
  replace ox := ox.q q4 (Nat.le_refl _)
  replace oy := oy.q q4 (Nat.le_refl _)
  have s4 : ((w3.alloc (.cells #[.int .i64 W, .int .i64 H, .slice A m c] 27)).alloc (.cells #[.int .i64 W', .int .i64 H', .slice A' m' c'] 27)).heap.size = w3.heap.size + 2 := by simp
  have gl := r1.lt
  have HL1 := Lib.hid l1
  have HL5 := Lib.hid l5
  clear r1 g3 q4 l1 l5
  go_wp2_with fail
  generalize (w3.alloc (.cells #[.int .i64 W, .int .i64 H, .slice A m c] 27)).alloc (.cells #[.int .i64 W', .int .i64 H', .slice A' m' c'] 27) = w4 at bp br QQ ba bb rr ox oy s4 ⊢
  generalize w3.heap.size = k3 at s3 ba bb s4 ox oy ⊢
  have gw : g < k3 := by omega
  refine wp_region_x (fun ww => (∀ i, ww.cell? ⟨k3, i, none⟩ = (#[.int .i64 W, .int .i64 H, .slice A m c] : Array Value)[i]?) ∧ (∀ i, ww.cell? ⟨k3 + 1, i, none⟩ = (#[.int .i64 W', .int .i64 H', .slice A' m' c'] : Array Value)[i]?)) (fun _ => false) (by kernel_rfl) ⟨ba.cell, bb.cell⟩ (fun hS => ?_)
  refine wpAnyX_take (i := 0) (v := ?vv1) rfl (by kernel_rfl) (by kernel_rfl) (by kernel_rfl) (by kernel_rfl) (fun _ _ _ h => h) (Or.inl ⟨by rfl, ?hy1⟩) hS ?rest1
  case hy1 => (intro ww hSw; (try dsimp only at hSw); go_split_ands; go_simp; try with_reducible rfl)
  try simp only [Act.put, List.setIfInBounds_toArray, List.set_cons_zero, List.set_cons_succ]
  refine wpAnyX_take (i := 1) (v := ?vv2) rfl (by kernel_rfl) (by kernel_rfl) (by kernel_rfl) (by kernel_rfl) (fun _ _ _ h => h) (Or.inl ⟨by rfl, ?hy2⟩) hS ?rest2
  case hy2 => (intro ww hSw; (try dsimp only at hSw); go_split_ands; go_simp; try with_reducible rfl)
  try simp only [Act.put, List.setIfInBounds_toArray, List.set_cons_zero, List.set_cons_succ]
  refine wpAnyX_take (i := 2) (v := ?vv3) rfl (by kernel_rfl) (by kernel_rfl) (by kernel_rfl) (by kernel_rfl) (fun _ _ _ h => h) (Or.inl ⟨by rfl, ?hy3⟩) hS ?rest3
  case hy3 => (intro ww hSw; (try dsimp only at hSw); go_split_ands; go_simp; try with_reducible rfl)
  try simp only [Act.put, List.setIfInBounds_toArray, List.set_cons_zero, List.set_cons_succ]
  refine wpAnyX_take (i := 4) (v := ?vv4) rfl (by kernel_rfl) (by kernel_rfl) (by kernel_rfl) (by kernel_rfl) (fun _ _ _ h => h) (Or.inl ⟨by rfl, ?hy4⟩) hS ?rest4
  case hy4 => (intro ww hSw; (try dsimp only at hSw); go_split_ands; go_simp; try with_reducible rfl)
  try simp only [Act.put, List.setIfInBounds_toArray, List.set_cons_zero, List.set_cons_succ]
  have rr' := rr.drew
  have d4 : Q w4 w4.drew := (Q.refl _).drew
  replace bp := bp.q d4
  replace br := br.q d4
  replace ba := ba.q d4
  replace bb := bb.q d4
  replace ox := ox.q d4 (by omega)
  replace oy := oy.q d4 (by omega)
  replace QQ := QQ.trans d4
  have s5 : w4.drew.heap.size = k3 + 2 := s4
  clear rr d4 s4
  generalize w4.drew = w5 at bp br ba bb ox oy QQ rr' s5 hS ⊢
  refine wpAnyX_step (k := 3) (by kernel_rfl) rfl rfl (fun K2 hK2 => ?_); go_simp
  refine (pick _ _ _ _ rr' (by omega) (by omega) (by omega)).mono ?_; rintro e w6 ⟨a, rfl, a1, a2, r6, g6⟩
  have s6 := World.grownBy.size g6
  replace bp := bp.draw g6 (by omega)
  replace br := br.draw g6 (by omega)
  replace ba := ba.draw g6 (by omega)
  replace bb := bb.draw g6 (by omega)
  replace ox := ox.draw g6 (by omega) (.inl (by omega))
  replace oy := oy.draw g6 (by omega) (.inl (by omega))
  replace QQ := Dr.toQ g6 QQ (by omega)
  clear g6 rr'
  refine hK2.out _ _ ⟨ba.cell, bb.cell⟩ (fun hS => ?_)
  clear hK2 K2; (try simp only [Act.put, List.setIfInBounds_toArray, List.set_cons_zero, List.set_cons_succ])
  refine wpAnyX_step (k := 5) (by kernel_rfl) rfl rfl (fun K2 hK2 => ?_); go_simp
  refine (pick _ _ _ _ r6 (by omega) (by omega) (by omega)).mono ?_; rintro e w7 ⟨b, rfl, b1, b2, r7, g7⟩
  have s7 := World.grownBy.size g7
  replace bp := bp.draw g7 (by omega)
  replace br := br.draw g7 (by omega)
  replace ba := ba.draw g7 (by omega)
  replace bb := bb.draw g7 (by omega)
  replace ox := ox.draw g7 (by omega) (.inl (by omega))
  replace oy := oy.draw g7 (by omega) (.inl (by omega))
  replace QQ := Dr.toQ g7 QQ (by omega)
  clear g7 r6 r7
  refine hK2.out _ _ ⟨ba.cell, bb.cell⟩ (fun hS => ?_)
  clear hK2 K2; (try simp only [Act.put, List.setIfInBounds_toArray, List.set_cons_zero, List.set_cons_succ])
  obtain ⟨d, hd⟩ : ∃ d, b.tdiv 8 = d := ⟨_, rfl⟩
  have hd2 : 0 ≤ d ∧ d ≤ 1 := by
    rw [← hd, Int.tdiv_eq_ediv_of_nonneg b1]; omega
  have w1' : IntKind.i64.wrap d = d := IntWalk.i64_in _ ⟨by omega, by omega⟩
  have w2' : IntKind.i64.wrap (a - d) = a - d := IntWalk.i64_in _ ⟨by omega, by omega⟩
  have hd3 : b / 8 = d := by rw [← hd, Int.tdiv_eq_ediv_of_nonneg b1]
  refine wpAnyX_take (i := 6) (v := ?vv5) rfl (by kernel_rfl) (by kernel_rfl) (by kernel_rfl) (by kernel_rfl) (fun _ _ _ h => h) (Or.inl ⟨by rfl, ?hy5⟩) hS ?rest5
  case hy5 => (intro ww hSw; (try dsimp only at hSw); go_split_ands; go_simp; try with_reducible rfl)
  try simp only [Act.put, List.setIfInBounds_toArray, List.set_cons_zero, List.set_cons_succ]
  refine wpAnyX_take (i := 7) (v := ?vv6) rfl (by kernel_rfl) (by kernel_rfl) (by kernel_rfl) (by kernel_rfl) (fun _ _ _ h => h) (Or.inl ⟨by rfl, ?hy6⟩) hS ?rest6
  case hy6 => (intro ww hSw; (try dsimp only at hSw); go_split_ands; go_simp; try with_reducible rfl)
  try simp only [Act.put, List.setIfInBounds_toArray, List.set_cons_zero, List.set_cons_succ]
  obtain ⟨t, ht⟩ : ∃ t, a - d = t := ⟨_, rfl⟩
  have htt : -10 ≤ t ∧ t ≤ 10 := by omega
  rw [ht]
  have b1c := bp.cell
  have b1f := bp.free
  refine wpAnyX_step (k := 8) (by kernel_rfl) rfl rfl (fun K2 hK2 => ?_); go_simp
  have HD1 := Lib.hid (Q.put3 (b := w.heap.size) QQ (by omega) (.int .i64 W) (.int .i64 H) (.slice A m c))
  have HP1 := Lib.hid (bp.put3_same (.int .i64 W) (.int .i64 H) (.slice A m c))
  have br1 := br.put3 (b := w.heap.size) (by omega) (.int .i64 W) (.int .i64 H) (.slice A m c)
  have ba1 := ba.put3 (b := w.heap.size) (by omega) (.int .i64 W) (.int .i64 H) (.slice A m c)
  have bb1 := bb.put3 (b := w.heap.size) (by omega) (.int .i64 W) (.int .i64 H) (.slice A m c)
  have ox1 := Lib.hid (ox.put3 (b := w.heap.size) (.inl (by omega)) (.int .i64 W) (.int .i64 H) (.slice A m c))
  have oy1 := Lib.hid (oy.put3 (b := w.heap.size) (.inl (by omega)) (.int .i64 W) (.int .i64 H) (.slice A m c))
  have z1 := st3_size w7 w.heap.size (.int .i64 W) (.int .i64 H) (.slice A m c)
  clear bp br ba bb ox oy QQ b1c b1f
  change K2 _ (st3 w7 w.heap.size (.int .i64 W) (.int .i64 H) (.slice A m c))
  generalize st3 w7 w.heap.size (.int .i64 W) (.int .i64 H) (.slice A m c) = w8 at HD1 HP1 br1 ba1 bb1 ox1 oy1 z1 ⊢
  refine hK2.out _ _ ⟨ba1.cell, bb1.cell⟩ (fun hS => ?_)
  clear hK2 K2; (try simp only [Act.put, List.setIfInBounds_toArray, List.set_cons_zero, List.set_cons_succ])
  have b1c := br1.cell
  have b1f := br1.free
  refine wpAnyX_step (k := 9) (by kernel_rfl) rfl rfl (fun K2 hK2 => ?_); go_simp
  have HD2 := Lib.hid (Q.put3 (b := w.heap.size + 1) HD1.out (by omega) (.int .i64 W') (.int .i64 H') (.slice A' m' c'))
  have HP2 := Lib.hid (HP1.out.put3 (b := w.heap.size + 1) (by omega) (.int .i64 W') (.int .i64 H') (.slice A' m' c'))
  have HR2 := Lib.hid (br1.put3_same (.int .i64 W') (.int .i64 H') (.slice A' m' c'))
  have ba2 := ba1.put3 (b := w.heap.size + 1) (by omega) (.int .i64 W') (.int .i64 H') (.slice A' m' c')
  have bb2 := bb1.put3 (b := w.heap.size + 1) (by omega) (.int .i64 W') (.int .i64 H') (.slice A' m' c')
  have ox2 := Lib.hid (ox1.out.put3 (b := w.heap.size + 1) (.inl (by omega)) (.int .i64 W') (.int .i64 H') (.slice A' m' c'))
  have oy2 := Lib.hid (oy1.out.put3 (b := w.heap.size + 1) (.inl (by omega)) (.int .i64 W') (.int .i64 H') (.slice A' m' c'))
  have z2 := st3_size w8 (w.heap.size + 1) (.int .i64 W') (.int .i64 H') (.slice A' m' c')
  clear br1 ba1 bb1 b1c b1f HD1 HP1 ox1 oy1
  change K2 _ (st3 w8 (w.heap.size + 1) (.int .i64 W') (.int .i64 H') (.slice A' m' c'))
  generalize st3 w8 (w.heap.size + 1) (.int .i64 W') (.int .i64 H') (.slice A' m' c') = w9 at HD2 HP2 HR2 ba2 bb2 ox2 oy2 z2 ⊢
  refine hK2.out _ _ ⟨ba2.cell, bb2.cell⟩ (fun hS => ?_)
  clear hK2 K2; (try simp only [Act.put, List.setIfInBounds_toArray, List.set_cons_zero, List.set_cons_succ])
  refine wpAnyX_take (i := 10) (v := ?vv7) rfl (by kernel_rfl) (by kernel_rfl) (by kernel_rfl) (by kernel_rfl) (fun _ _ _ h => h) (Or.inl ⟨by rfl, ?hy7⟩) hS ?rest7
  case hy7 => (intro ww hSw; (try dsimp only at hSw); go_split_ands; go_simp; try with_reducible rfl)
  try simp only [Act.put, List.setIfInBounds_toArray, List.set_cons_zero, List.set_cons_succ]
  refine wpAnyX_done (by kernel_rfl) ?_ _
  clear hS ba2 bb2
  have cc1 := HP2.out.cell
  have cc2 := HR2.out.cell
  go_wp2_with fail
  exact bodyPost_ret (v := .tuple #[.agg #[.int .i64 W, .int .i64 H, .slice A m c], .agg #[.int .i64 W', .int .i64 H', .slice A' m' c'], .int .i64 t]) (by simp [results, Try.results41, go_sem, cc1, cc2]) rfl ⟨W, H, W', H', A, A', m, c, m', c', xs, ys, t, rfl, ox2.out.mono (by omega) (by omega), oy2.out.mono (by omega) (by omega), ⟨HL1.out, l2⟩, ⟨HL5.out, l6⟩, htt, HD2.out⟩
end Go.Proofs.Ytoipcfpbkjanhaa

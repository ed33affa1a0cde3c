/-
  What the law of scene cuts draws.
-/
import Derived.Test.YtoipcfpbkjanhaaDrawS
import Derived.Test.YtoipcfpbkjanhaaDrawU
import Derived.Test.YtoipcfpbkjanhaaTakes
namespace Go.Proofs.Ytoipcfpbkjanhaa
open Go.RowKit

set_option maxRecDepth 100000 in
set_option maxHeartbeats 8000000 in
theorem DrawSceneCut (v : Value) (x : Option Addr × Nat × List Int) (w : World) (h : ArgBytes w v x) :
    Calls Try.prog 42 #[v] w fun e w' => PairR w w' e ∧ Q w w' := by
  have q0 : Q w ((w.alloc (.cells #[.int .i64 0, .int .i64 0, .slice none 0 0] 27)).alloc (.cells #[.int .i64 0, .int .i64 0, .slice none 0 0] 27)) := (by repeat (first | exact Q.refl _ | assumption | refine Q.drewN ?_ _ | refine Q.drew ?_ | refine Q.alloc ?_ _ | refine Q.trans ?_ (by assumption) | refine Q.set ?_ (by first | exact Nat.le_refl _ | omega | (simp; done) | (simp; omega)) _))
  have h0 := h.q q0
  have bp := (Blk.new w 27 #[.int .i64 0, .int .i64 0, .slice none 0 0]).alloc (.cells #[.int .i64 0, .int .i64 0, .slice none 0 0] 27)
  have br := Blk.new (w.alloc (.cells #[.int .i64 0, .int .i64 0, .slice none 0 0] 27)) 27 #[.int .i64 0, .int .i64 0, .slice none 0 0]
  rw [World.size_alloc] at br
  have s0 : ((w.alloc (.cells #[.int .i64 0, .int .i64 0, .slice none 0 0] 27)).alloc (.cells #[.int .i64 0, .int .i64 0, .slice none 0 0] 27)).heap.size = w.heap.size + 2 := by simp
  go_enter Try.func42, Try.ntmps42
  go_wp2_with fail
  refine (openCode _ _ _ h0).mono ?_; rintro e w1 ⟨g, rfl, hg, r1, q1⟩
  have s1 := q1.size
  replace bp := bp.q q1
  replace br := br.q q1
  have QQ := q0.trans q1
  clear q0 q1 h0 h
  go_wp2_with fail
  refine (l20Pair _ _ _ _ r1 (by omega) (by omega) (by omega)).mono ?_; rintro e w3 ⟨⟨W, H, W', H', A, A', m, c, m', c', xs, ys, rfl, ox, oy, ⟨l1, l2, l3, l4⟩, ⟨l5, l6, l7, l8⟩, ⟨i1, i2, i3, i4⟩, ⟨j1, j2, j3, j4⟩⟩, rr, g3⟩
  have s3 := g3.size
  have q4 : Q w3 ((w3.alloc (.cells #[.int .i64 W, .int .i64 H, .slice A m c] 27)).alloc (.cells #[.int .i64 W', .int .i64 H', .slice A' m' c'] 27)) := (by repeat (first | exact Q.refl _ | assumption | refine Q.drewN ?_ _ | refine Q.drew ?_ | refine Q.alloc ?_ _ | refine Q.trans ?_ (by assumption) | refine Q.set ?_ (by first | exact Nat.le_refl _ | omega | (simp; done) | (simp; omega)) _))
  replace bp := (bp.draw g3 (by omega)).q q4
  replace br := (br.draw g3 (by omega)).q q4
  replace QQ := (g3.toQ QQ (by omega)).trans q4
  have ba := (Blk.new w3 27 #[.int .i64 W, .int .i64 H, .slice A m c]).alloc (.cells #[.int .i64 W', .int .i64 H', .slice A' m' c'] 27)
  have bb := Blk.new (w3.alloc (.cells #[.int .i64 W, .int .i64 H, .slice A m c] 27)) 27 #[.int .i64 W', .int .i64 H', .slice A' m' c']
  rw [World.size_alloc] at bb
  replace rr := rr.q q4
  replace ox := ox.q q4 (Nat.le_refl _)
  replace oy := oy.q q4 (Nat.le_refl _)
  have s4 : ((w3.alloc (.cells #[.int .i64 W, .int .i64 H, .slice A m c] 27)).alloc (.cells #[.int .i64 W', .int .i64 H', .slice A' m' c'] 27)).heap.size = w3.heap.size + 2 := by simp
  have gl := r1.lt
  have HL1 : Hid (xs.length = m) := l1
  have HL5 : Hid (ys.length = m') := l5
  clear r1 g3 q4 l1 l5
  have bac := ba.cell
  go_wp2_with fail
  generalize (w3.alloc (.cells #[.int .i64 W, .int .i64 H, .slice A m c] 27)).alloc (.cells #[.int .i64 W', .int .i64 H', .slice A' m' c'] 27) = w4 at bp br QQ ba bb rr ox oy s4 ⊢
  generalize w3.heap.size = k3 at s3 ba bb s4 ox oy ⊢
  have gw : g < k3 := by omega
  clear bac
  cases hp : picB W H xs
  · have HPV := Lib.hid hp
    clear hp
    refine (spec_PictureValid W H A m c _ xs false _ ox.rd (by omega) HL1 (by omega) HPV).mono ?_; rintro e w5 ⟨rfl, q5⟩
    have s5 := q5.size
    replace bp := bp.q q5
    replace br := br.q q5
    replace ba := ba.q q5
    replace bb := bb.q q5
    replace ox := ox.q q5 (by omega)
    (try replace oy := oy.q q5 (by omega))
    replace QQ := QQ.trans q5
    replace rr := rr.q q5
    clear q5
    have bac := ba.cell
    go_wp2_with fail
    refine wp_region_x (fun ww => (∀ i, ww.cell? ⟨k3, i, none⟩ = (#[.int .i64 W, .int .i64 H, .slice A m c] : Array Value)[i]?) ∧ (∀ i, ww.cell? ⟨k3 + 1, i, none⟩ = (#[.int .i64 W', .int .i64 H', .slice A' m' c'] : Array Value)[i]?)) (fun _ => false) (by kernel_rfl) ⟨ba.cell, bb.cell⟩ (fun hS => ?_)
    refine wpAnyX_take (i := 0) (v := ?vv1) rfl (by kernel_rfl) (by kernel_rfl) (by kernel_rfl) (by kernel_rfl) (fun _ _ _ h => h) (Or.inl ⟨by rfl, ?hy1⟩) hS ?rest1
    case hy1 => (intro ww hSw; (try dsimp only at hSw); go_split_ands; go_simp; try with_reducible rfl)
    try simp only [Act.put, List.setIfInBounds_toArray, List.set_cons_zero, List.set_cons_succ]
    refine wpAnyX_take (i := 1) (v := ?vv2) rfl (by kernel_rfl) (by kernel_rfl) (by kernel_rfl) (by kernel_rfl) (fun _ _ _ h => h) (Or.inl ⟨by rfl, ?hy2⟩) hS ?rest2
    case hy2 => (intro ww hSw; (try dsimp only at hSw); go_split_ands; go_simp; try with_reducible rfl)
    try simp only [Act.put, List.setIfInBounds_toArray, List.set_cons_zero, List.set_cons_succ]
    have d4 : Q w5 w5.drew := (Q.refl _).drew
    replace bp := bp.q d4
    replace br := br.q d4
    replace ba := ba.q d4
    replace bb := bb.q d4
    replace ox := ox.q d4 (by omega)
    (try replace oy := oy.q d4 (by omega))
    replace QQ := QQ.trans d4
    (try replace rr := rr.q d4)
    have s7 : w5.drew.heap.size = w5.heap.size := rfl
    clear d4
    generalize w5.drew = w7 at *
    have b1c := bp.cell
    have b1f := bp.free
    refine wpAnyX_step (k := 2) (by kernel_rfl) rfl rfl (fun K2 hK2 => ?_); go_simp
    have HD1 := Lib.hid (Q.put3 (b := w.heap.size) QQ (by omega) (.int .i64 W) (.int .i64 H) (.slice A m c))
    have HP1 := Lib.hid (bp.put3_same (.int .i64 W) (.int .i64 H) (.slice A m c))
    have br1 := br.put3 (b := w.heap.size) (by omega) (.int .i64 W) (.int .i64 H) (.slice A m c)
    have ba1 := ba.put3 (b := w.heap.size) (by omega) (.int .i64 W) (.int .i64 H) (.slice A m c)
    have bb1 := bb.put3 (b := w.heap.size) (by omega) (.int .i64 W) (.int .i64 H) (.slice A m c)
    have ox1 := Lib.hid (ox.put3 (b := w.heap.size) (.inl (by omega)) (.int .i64 W) (.int .i64 H) (.slice A m c))
    have oy1 := Lib.hid (oy.put3 (b := w.heap.size) (.inl (by omega)) (.int .i64 W) (.int .i64 H) (.slice A m c))
    have z1 := st3_size w7 w.heap.size (.int .i64 W) (.int .i64 H) (.slice A m c)
    clear bp br ba bb ox oy QQ b1c b1f
    change K2 _ (st3 w7 w.heap.size (.int .i64 W) (.int .i64 H) (.slice A m c))
    generalize st3 w7 w.heap.size (.int .i64 W) (.int .i64 H) (.slice A m c) = w8 at HD1 HP1 br1 ba1 bb1 ox1 oy1 z1 ⊢
    refine hK2.out _ _ ⟨ba1.cell, bb1.cell⟩ (fun hS => ?_)
    clear hK2 K2; (try simp only [Act.put, List.setIfInBounds_toArray, List.set_cons_zero, List.set_cons_succ])
    have b1c := br1.cell
    have b1f := br1.free
    refine wpAnyX_step (k := 3) (by kernel_rfl) rfl rfl (fun K2 hK2 => ?_); go_simp
    have HD2 := Lib.hid (Q.put3 (b := w.heap.size + 1) HD1.out (by omega) (.int .i64 W') (.int .i64 H') (.slice A' m' c'))
    have HP2 := Lib.hid (HP1.out.put3 (b := w.heap.size + 1) (by omega) (.int .i64 W') (.int .i64 H') (.slice A' m' c'))
    have HR2 := Lib.hid (br1.put3_same (.int .i64 W') (.int .i64 H') (.slice A' m' c'))
    have ba2 := ba1.put3 (b := w.heap.size + 1) (by omega) (.int .i64 W') (.int .i64 H') (.slice A' m' c')
    have bb2 := bb1.put3 (b := w.heap.size + 1) (by omega) (.int .i64 W') (.int .i64 H') (.slice A' m' c')
    have ox2 := Lib.hid (ox1.out.put3 (b := w.heap.size + 1) (.inl (by omega)) (.int .i64 W') (.int .i64 H') (.slice A' m' c'))
    have oy2 := Lib.hid (oy1.out.put3 (b := w.heap.size + 1) (.inl (by omega)) (.int .i64 W') (.int .i64 H') (.slice A' m' c'))
    have z2 := st3_size w8 (w.heap.size + 1) (.int .i64 W') (.int .i64 H') (.slice A' m' c')
    clear br1 ba1 bb1 b1c b1f HD1 HP1 ox1 oy1
    change K2 _ (st3 w8 (w.heap.size + 1) (.int .i64 W') (.int .i64 H') (.slice A' m' c'))
    generalize st3 w8 (w.heap.size + 1) (.int .i64 W') (.int .i64 H') (.slice A' m' c') = w9 at HD2 HP2 HR2 ba2 bb2 ox2 oy2 z2 ⊢
    refine hK2.out _ _ ⟨ba2.cell, bb2.cell⟩ (fun hS => ?_)
    clear hK2 K2; (try simp only [Act.put, List.setIfInBounds_toArray, List.set_cons_zero, List.set_cons_succ])
    refine wpAnyX_done (by kernel_rfl) ?_ _
    clear hS ba2 bb2
    have cc1 := HP2.out.cell
    have cc2 := HR2.out.cell
    go_wp2_with fail
    exact bodyPost_ret (v := .tuple #[.agg #[.int .i64 W, .int .i64 H, .slice A m c], .agg #[.int .i64 W', .int .i64 H', .slice A' m' c']]) (by simp [results, Try.results42, go_sem, cc1, cc2]) rfl ⟨⟨W, H, W', H', A, A', m, c, m', c', xs, ys, rfl, ox2.out.mono (by omega) (by omega), oy2.out.mono (by omega) (by omega), ⟨HL1.out, l2, l3, l4⟩, ⟨HL5.out, l6, l7, l8⟩, ⟨i1, i2, i3, i4⟩, ⟨j1, j2, j3, j4⟩⟩, HD2.out⟩
  · obtain ⟨pW, pH, -, -⟩ := picB_parts hp
    obtain ⟨u1, u2, u3⟩ := pW
    obtain ⟨u4, u5, u6⟩ := pH
    have HPV := Lib.hid hp
    clear hp
    refine (spec_PictureValid W H A m c _ xs true _ ox.rd (by omega) HL1 (by omega) HPV).mono ?_; rintro e w5 ⟨rfl, q5⟩
    have s5 := q5.size
    replace bp := bp.q q5
    replace br := br.q q5
    replace ba := ba.q q5
    replace bb := bb.q q5
    replace ox := ox.q q5 (by omega)
    (try replace oy := oy.q q5 (by omega))
    replace QQ := QQ.trans q5
    replace rr := rr.q q5
    clear q5
    have bac := ba.cell
    go_wp2_with fail
    refine (pick _ _ _ _ rr (by omega) (by omega) (by omega)).mono ?_; rintro e w6 ⟨a, rfl, a1, a2, r6, g6⟩
    have s6 := World.grownBy.size g6
    replace bp := bp.draw g6 (by omega)
    replace br := br.draw g6 (by omega)
    replace ba := ba.draw g6 (by omega)
    replace bb := bb.draw g6 (by omega)
    replace ox := ox.draw g6 (by omega) (.inl (by omega))
    (try replace oy := oy.draw g6 (by omega) (.inl (by omega)))
    replace QQ := Dr.toQ g6 QQ (by omega)
    clear g6 rr
    have rr := r6
    clear r6
    by_cases ha : a = 0
    · subst ha
      obtain ⟨wn, rfl⟩ : ∃ wn : Nat, W = (wn : Int) := ⟨W.toNat, by omega⟩
      obtain ⟨hn, rfl⟩ : ∃ hn : Nat, H = (hn : Int) := ⟨H.toNat, by omega⟩
      clear oy
      go_wp2_with fail
      refine wp_region_x (fun ww => (∀ i, ww.cell? ⟨k3, i, none⟩ = (#[.int .i64 (wn : Int), .int .i64 (hn : Int), .slice A m c] : Array Value)[i]?) ∧ (∀ i, ww.cell? ⟨k3 + 1, i, none⟩ = (#[.int .i64 W', .int .i64 H', .slice A' m' c'] : Array Value)[i]?)) (fun _ => false) (by kernel_rfl) ⟨ba.cell, bb.cell⟩ (fun hS => ?_)
      refine wpAnyX_take (i := 0) (v := ?vv3) rfl (by kernel_rfl) (by kernel_rfl) (by kernel_rfl) (by kernel_rfl) (fun _ _ _ h => h) (Or.inl ⟨by rfl, ?hy3⟩) hS ?rest3
      case hy3 => (intro ww hSw; (try dsimp only at hSw); go_split_ands; go_simp; try with_reducible rfl)
      try simp only [Act.put, List.setIfInBounds_toArray, List.set_cons_zero, List.set_cons_succ]
      refine wpAnyX_take (i := 1) (v := ?vv4) rfl (by kernel_rfl) (by kernel_rfl) (by kernel_rfl) (by kernel_rfl) (fun _ _ _ h => h) (Or.inl ⟨by rfl, ?hy4⟩) hS ?rest4
      case hy4 => (intro ww hSw; (try dsimp only at hSw); go_split_ands; go_simp; try with_reducible rfl)
      try simp only [Act.put, List.setIfInBounds_toArray, List.set_cons_zero, List.set_cons_succ]
      refine wpAnyX_take (i := 2) (v := ?vv5) rfl (by kernel_rfl) (by kernel_rfl) (by kernel_rfl) (by kernel_rfl) (fun _ _ _ h => h) (Or.inl ⟨by rfl, ?hy5⟩) hS ?rest5
      case hy5 => (intro ww hSw; (try dsimp only at hSw); go_split_ands; go_simp; try with_reducible rfl)
      try simp only [Act.put, List.setIfInBounds_toArray, List.set_cons_zero, List.set_cons_succ]
      refine wpAnyX_take (i := 3) (v := ?vv6) rfl (by kernel_rfl) (by kernel_rfl) (by kernel_rfl) (by kernel_rfl) (fun _ _ _ h => h) (Or.inl ⟨by rfl, ?hy6⟩) hS ?rest6
      case hy6 => (intro ww hSw; (try dsimp only at hSw); go_split_ands; go_simp; try with_reducible rfl)
      try simp only [Act.put, List.setIfInBounds_toArray, List.set_cons_zero, List.set_cons_succ]
      refine wpAnyX_take (i := 4) (v := ?vv7) rfl (by kernel_rfl) (by kernel_rfl) (by kernel_rfl) (by kernel_rfl) (fun _ _ _ h => h) (Or.inl ⟨by rfl, ?hy7⟩) hS ?rest7
      case hy7 => (intro ww hSw; (try dsimp only at hSw); go_split_ands; go_simp; try with_reducible rfl)
      try simp only [Act.put, List.setIfInBounds_toArray, List.set_cons_zero, List.set_cons_succ]
      refine wpAnyX_take (i := 5) (v := ?vv8) rfl (by kernel_rfl) (by kernel_rfl) (by kernel_rfl) (by kernel_rfl) (fun _ _ _ h => h) (Or.inl ⟨by rfl, ?hy8⟩) hS ?rest8
      case hy8 => (intro ww hSw; (try dsimp only at hSw); go_split_ands; go_simp; try with_reducible rfl)
      try simp only [Act.put, List.setIfInBounds_toArray, List.set_cons_zero, List.set_cons_succ]
      have d4 : Q w6 w6.drew := (Q.refl _).drew
      replace bp := bp.q d4
      replace br := br.q d4
      replace ba := ba.q d4
      replace bb := bb.q d4
      replace ox := ox.q d4 (by omega)
      (try replace oy := oy.q d4 (by omega))
      replace QQ := QQ.trans d4
      (try replace rr := rr.q d4)
      have s7 : w6.drew.heap.size = w6.heap.size := rfl
      clear d4
      generalize w6.drew = w7 at *
      obtain ⟨w6, rfl⟩ : ∃ w6, w6 = w7 := ⟨_, rfl⟩
      refine wpAnyX_step (k := 6) (by kernel_rfl) rfl rfl (fun K2 hK2 => ?_); go_simp
      refine (l20Pic _ _ _ _ wn hn _ rr (by omega) rfl rfl (by omega) (by omega) (by omega)).mono ?_; rintro e w7 ⟨v2, zs, rfl, o8, hsm, r8, g8⟩
      have hm0 : 0 < hn * wn := Nat.mul_pos (by omega) (by omega)
      have hm1 : hn * wn ≤ 1024 := Nat.mul_le_mul (by omega : hn ≤ 32) (by omega : wn ≤ 32)
      have hzl := o8.1
      generalize hn * wn = m2 at o8 hm0 hm1 hzl
      obtain ⟨gz, c2, rfl, k1, k2⟩ := own_parts o8 hm0
      have s8 := World.grownBy.size g8
      replace bp := bp.draw g8 (by omega)
      replace br := br.draw g8 (by omega)
      replace ba := ba.draw g8 (by omega)
      replace bb := bb.draw g8 (by omega)
      replace ox := ox.draw g8 (by omega) (.inl (by omega))
      (try replace oy := oy.draw g8 (by omega) (.inl (by omega)))
      replace QQ := Dr.toQ g8 QQ (by omega)
      have oy := o8.i.rdi
      clear g8 o8 r8 rr
      refine hK2.out _ _ ⟨ba.cell, bb.cell⟩ (fun hS => ?_)
      clear hK2 K2; (try simp only [Act.put, List.setIfInBounds_toArray, List.set_cons_zero, List.set_cons_succ])
      have b1c := bp.cell
      have b1f := bp.free
      refine wpAnyX_step (k := 7) (by kernel_rfl) rfl rfl (fun K2 hK2 => ?_); go_simp
      have HD1 := Lib.hid (Q.put3 (b := w.heap.size) QQ (by omega) (.int .i64 (wn : Int)) (.int .i64 (hn : Int)) (.slice A m c))
      have HP1 := Lib.hid (bp.put3_same (.int .i64 (wn : Int)) (.int .i64 (hn : Int)) (.slice A m c))
      have br1 := br.put3 (b := w.heap.size) (by omega) (.int .i64 (wn : Int)) (.int .i64 (hn : Int)) (.slice A m c)
      have ba1 := ba.put3 (b := w.heap.size) (by omega) (.int .i64 (wn : Int)) (.int .i64 (hn : Int)) (.slice A m c)
      have bb1 := bb.put3 (b := w.heap.size) (by omega) (.int .i64 (wn : Int)) (.int .i64 (hn : Int)) (.slice A m c)
      have ox1 := Lib.hid (ox.put3 (b := w.heap.size) (.inl (by omega)) (.int .i64 (wn : Int)) (.int .i64 (hn : Int)) (.slice A m c))
      have oy1 := Lib.hid (oy.put3 (b := w.heap.size) (.inl (by omega)) (.int .i64 (wn : Int)) (.int .i64 (hn : Int)) (.slice A m c))
      have z1 := st3_size w7 w.heap.size (.int .i64 (wn : Int)) (.int .i64 (hn : Int)) (.slice A m c)
      clear bp br ba bb ox oy QQ b1c b1f
      change K2 _ (st3 w7 w.heap.size (.int .i64 (wn : Int)) (.int .i64 (hn : Int)) (.slice A m c))
      generalize st3 w7 w.heap.size (.int .i64 (wn : Int)) (.int .i64 (hn : Int)) (.slice A m c) = w8 at HD1 HP1 br1 ba1 bb1 ox1 oy1 z1 ⊢
      refine hK2.out _ _ ⟨ba1.cell, bb1.cell⟩ (fun hS => ?_)
      clear hK2 K2; (try simp only [Act.put, List.setIfInBounds_toArray, List.set_cons_zero, List.set_cons_succ])
      have b1c := br1.cell
      have b1f := br1.free
      refine wpAnyX_step (k := 8) (by kernel_rfl) rfl rfl (fun K2 hK2 => ?_); go_simp
      have HD2 := Lib.hid (Q.put3 (b := w.heap.size + 1) HD1.out (by omega) (.int .i64 wn) (.int .i64 hn) (.slice (some ⟨gz, 0, none⟩) m2 c2))
      have HP2 := Lib.hid (HP1.out.put3 (b := w.heap.size + 1) (by omega) (.int .i64 wn) (.int .i64 hn) (.slice (some ⟨gz, 0, none⟩) m2 c2))
      have HR2 := Lib.hid (br1.put3_same (.int .i64 wn) (.int .i64 hn) (.slice (some ⟨gz, 0, none⟩) m2 c2))
      have ba2 := ba1.put3 (b := w.heap.size + 1) (by omega) (.int .i64 wn) (.int .i64 hn) (.slice (some ⟨gz, 0, none⟩) m2 c2)
      have bb2 := bb1.put3 (b := w.heap.size + 1) (by omega) (.int .i64 wn) (.int .i64 hn) (.slice (some ⟨gz, 0, none⟩) m2 c2)
      have ox2 := Lib.hid (ox1.out.put3 (b := w.heap.size + 1) (.inl (by omega)) (.int .i64 wn) (.int .i64 hn) (.slice (some ⟨gz, 0, none⟩) m2 c2))
      have oy2 := Lib.hid (oy1.out.put3 (b := w.heap.size + 1) (.inl (by omega)) (.int .i64 wn) (.int .i64 hn) (.slice (some ⟨gz, 0, none⟩) m2 c2))
      have z2 := st3_size w8 (w.heap.size + 1) (.int .i64 wn) (.int .i64 hn) (.slice (some ⟨gz, 0, none⟩) m2 c2)
      clear br1 ba1 bb1 b1c b1f HD1 HP1 ox1 oy1
      change K2 _ (st3 w8 (w.heap.size + 1) (.int .i64 wn) (.int .i64 hn) (.slice (some ⟨gz, 0, none⟩) m2 c2))
      generalize st3 w8 (w.heap.size + 1) (.int .i64 wn) (.int .i64 hn) (.slice (some ⟨gz, 0, none⟩) m2 c2) = w9 at HD2 HP2 HR2 ba2 bb2 ox2 oy2 z2 ⊢
      refine hK2.out _ _ ⟨ba2.cell, bb2.cell⟩ (fun hS => ?_)
      clear hK2 K2; (try simp only [Act.put, List.setIfInBounds_toArray, List.set_cons_zero, List.set_cons_succ])
      refine wpAnyX_done (by kernel_rfl) ?_ _
      clear hS ba2 bb2
      have cc1 := HP2.out.cell
      have cc2 := HR2.out.cell
      go_wp2_with fail
      exact bodyPost_ret (v := .tuple #[.agg #[.int .i64 (wn : Int), .int .i64 (hn : Int), .slice A m c], .agg #[.int .i64 wn, .int .i64 hn, .slice (some ⟨gz, 0, none⟩) m2 c2]]) (by simp [results, Try.results42, go_sem, cc1, cc2]) rfl ⟨⟨_, _, _, _, A, (some ⟨gz, 0, none⟩), m, c, m2, c2, xs, zs, rfl, ox2.out.mono (by omega) (by omega), oy2.out.mono (by omega) (by omega), ⟨HL1.out, l2, l3, l4⟩, ⟨hzl, hm1, k1, k2⟩, ⟨i1, i2, i3, i4⟩, ⟨by omega, by omega, by omega, by omega⟩⟩, HD2.out⟩
    · have hab : (a == 0) = false := by rw [beq_eq_false_iff_ne]; exact ha
      clear ha
      go_wp2_with fail
      refine wp_region_x (fun ww => (∀ i, ww.cell? ⟨k3, i, none⟩ = (#[.int .i64 W, .int .i64 H, .slice A m c] : Array Value)[i]?) ∧ (∀ i, ww.cell? ⟨k3 + 1, i, none⟩ = (#[.int .i64 W', .int .i64 H', .slice A' m' c'] : Array Value)[i]?)) (fun _ => false) (by kernel_rfl) ⟨ba.cell, bb.cell⟩ (fun hS => ?_)
      refine wpAnyX_take (i := 0) (v := ?vv9) rfl (by kernel_rfl) (by kernel_rfl) (by kernel_rfl) (by kernel_rfl) (fun _ _ _ h => h) (Or.inl ⟨by rfl, ?hy9⟩) hS ?rest9
      case hy9 => (intro ww hSw; (try dsimp only at hSw); go_split_ands; go_simp; try with_reducible rfl)
      try simp only [Act.put, List.setIfInBounds_toArray, List.set_cons_zero, List.set_cons_succ]
      refine wpAnyX_take (i := 1) (v := ?vv10) rfl (by kernel_rfl) (by kernel_rfl) (by kernel_rfl) (by kernel_rfl) (fun _ _ _ h => h) (Or.inl ⟨by rfl, ?hy10⟩) hS ?rest10
      case hy10 => (intro ww hSw; (try dsimp only at hSw); go_split_ands; go_simp; try with_reducible rfl)
      try simp only [Act.put, List.setIfInBounds_toArray, List.set_cons_zero, List.set_cons_succ]
      have d4 : Q w6 w6.drew := (Q.refl _).drew
      replace bp := bp.q d4
      replace br := br.q d4
      replace ba := ba.q d4
      replace bb := bb.q d4
      replace ox := ox.q d4 (by omega)
      (try replace oy := oy.q d4 (by omega))
      replace QQ := QQ.trans d4
      (try replace rr := rr.q d4)
      have s7 : w6.drew.heap.size = w6.heap.size := rfl
      clear d4
      generalize w6.drew = w7 at *
      have b1c := bp.cell
      have b1f := bp.free
      refine wpAnyX_step (k := 2) (by kernel_rfl) rfl rfl (fun K2 hK2 => ?_); go_simp
      have HD1 := Lib.hid (Q.put3 (b := w.heap.size) QQ (by omega) (.int .i64 W) (.int .i64 H) (.slice A m c))
      have HP1 := Lib.hid (bp.put3_same (.int .i64 W) (.int .i64 H) (.slice A m c))
      have br1 := br.put3 (b := w.heap.size) (by omega) (.int .i64 W) (.int .i64 H) (.slice A m c)
      have ba1 := ba.put3 (b := w.heap.size) (by omega) (.int .i64 W) (.int .i64 H) (.slice A m c)
      have bb1 := bb.put3 (b := w.heap.size) (by omega) (.int .i64 W) (.int .i64 H) (.slice A m c)
      have ox1 := Lib.hid (ox.put3 (b := w.heap.size) (.inl (by omega)) (.int .i64 W) (.int .i64 H) (.slice A m c))
      have oy1 := Lib.hid (oy.put3 (b := w.heap.size) (.inl (by omega)) (.int .i64 W) (.int .i64 H) (.slice A m c))
      have z1 := st3_size w7 w.heap.size (.int .i64 W) (.int .i64 H) (.slice A m c)
      clear bp br ba bb ox oy QQ b1c b1f
      change K2 _ (st3 w7 w.heap.size (.int .i64 W) (.int .i64 H) (.slice A m c))
      generalize st3 w7 w.heap.size (.int .i64 W) (.int .i64 H) (.slice A m c) = w8 at HD1 HP1 br1 ba1 bb1 ox1 oy1 z1 ⊢
      refine hK2.out _ _ ⟨ba1.cell, bb1.cell⟩ (fun hS => ?_)
      clear hK2 K2; (try simp only [Act.put, List.setIfInBounds_toArray, List.set_cons_zero, List.set_cons_succ])
      have b1c := br1.cell
      have b1f := br1.free
      refine wpAnyX_step (k := 3) (by kernel_rfl) rfl rfl (fun K2 hK2 => ?_); go_simp
      have HD2 := Lib.hid (Q.put3 (b := w.heap.size + 1) HD1.out (by omega) (.int .i64 W') (.int .i64 H') (.slice A' m' c'))
      have HP2 := Lib.hid (HP1.out.put3 (b := w.heap.size + 1) (by omega) (.int .i64 W') (.int .i64 H') (.slice A' m' c'))
      have HR2 := Lib.hid (br1.put3_same (.int .i64 W') (.int .i64 H') (.slice A' m' c'))
      have ba2 := ba1.put3 (b := w.heap.size + 1) (by omega) (.int .i64 W') (.int .i64 H') (.slice A' m' c')
      have bb2 := bb1.put3 (b := w.heap.size + 1) (by omega) (.int .i64 W') (.int .i64 H') (.slice A' m' c')
      have ox2 := Lib.hid (ox1.out.put3 (b := w.heap.size + 1) (.inl (by omega)) (.int .i64 W') (.int .i64 H') (.slice A' m' c'))
      have oy2 := Lib.hid (oy1.out.put3 (b := w.heap.size + 1) (.inl (by omega)) (.int .i64 W') (.int .i64 H') (.slice A' m' c'))
      have z2 := st3_size w8 (w.heap.size + 1) (.int .i64 W') (.int .i64 H') (.slice A' m' c')
      clear br1 ba1 bb1 b1c b1f HD1 HP1 ox1 oy1
      change K2 _ (st3 w8 (w.heap.size + 1) (.int .i64 W') (.int .i64 H') (.slice A' m' c'))
      generalize st3 w8 (w.heap.size + 1) (.int .i64 W') (.int .i64 H') (.slice A' m' c') = w9 at HD2 HP2 HR2 ba2 bb2 ox2 oy2 z2 ⊢
      refine hK2.out _ _ ⟨ba2.cell, bb2.cell⟩ (fun hS => ?_)
      clear hK2 K2; (try simp only [Act.put, List.setIfInBounds_toArray, List.set_cons_zero, List.set_cons_succ])
      refine wpAnyX_done (by kernel_rfl) ?_ _
      clear hS ba2 bb2
      have cc1 := HP2.out.cell
      have cc2 := HR2.out.cell
      go_wp2_with fail
      exact bodyPost_ret (v := .tuple #[.agg #[.int .i64 W, .int .i64 H, .slice A m c], .agg #[.int .i64 W', .int .i64 H', .slice A' m' c']]) (by simp [results, Try.results42, go_sem, cc1, cc2]) rfl ⟨⟨W, H, W', H', A, A', m, c, m', c', xs, ys, rfl, ox2.out.mono (by omega) (by omega), oy2.out.mono (by omega) (by omega), ⟨HL1.out, l2, l3, l4⟩, ⟨HL5.out, l6, l7, l8⟩, ⟨i1, i2, i3, i4⟩, ⟨j1, j2, j3, j4⟩⟩, HD2.out⟩
end Go.Proofs.Ytoipcfpbkjanhaa

/-
  FnSceneCut: for every code of at most 1048576 bytes the law returns true: there is no cut between a picture and itself or its transposed picture, a cut is symmetric, and between black and white there is one; for longer codes the law asks nothing. No condition.
-/
import Derived.Test.YtoipcfpbkjanhaaDrawSC
import Derived.Test.YtoipcfpbkjanhaaCuts
import Derived.Test.YtoipcfpbkjanhaaPict
import Derived.Test.YtoipcfpbkjanhaaCarry
namespace Go.Proofs.Ytoipcfpbkjanhaa
open Go.ChangeShapes Go.WideShapes Go.ChangeAt Go.RowKit

set_option maxRecDepth 100000 in
set_option maxHeartbeats 8000000 in
theorem walk_FnSceneCut (w : World) (v0 : Value) (x0 : Option Addr × Nat × List Int) (h0 : ArgBytes w v0 x0) :
    Calls Try.prog 11 #[v0] w fun e w' => e = .returned (.bool true) ∧ Q w w' := by
  have hv := h0.1; have hm := h0.2.2.1; unfold maxLen at hm; generalize hn : x0.2.2.length = nn at hv hm; have HN := Lib.hid hn; clear hn; by_cases hbig : 1048576 < nn; (subst hv; go_enter Try.func11, Try.ntmps11; go_wp2_with fail; go_ret; exact ⟨rfl, Q.refl _⟩); have H0 : ArgBytes w (.slice x0.1 nn x0.2.1) x0 := (by rw [hv] at h0; exact h0); subst hv; clear h0; go_enter Try.func11, Try.ntmps11; go_wp2_with fail
  refine (DrawSceneCut _ _ _ H0).mono ?_; rintro e wv ⟨⟨W, H, W', H', A, A', m, c, m', c', xs, ys, rfl, ox, oy, ⟨l1, l2, l3, l4⟩, ⟨l5, l6, l7, l8⟩, -, -⟩, QQ⟩
  have HN : Hid (xs.length = m) := l1
  have HN' : Hid (ys.length = m') := l5
  have HTL := Lib.hid (tr_small W H A xs (by omega))
  have sz := QQ.size
  have HX := Lib.hid ox.rd
  have HY := Lib.hid oy.rd
  clear ox oy l1 l5 H0
  have hm1 : m ≤ 9223372036854775807 := by omega
  have hm2 : m' ≤ 9223372036854775807 := by omega
  generalize hB0 : wv.heap.size = B0 at HX HY
  replace hB0 : B0 ≤ wv.heap.size := by omega
  have qz : Q wv ((wv.alloc (.cells #[.int .i64 W, .int .i64 H, .slice A m c] 27)).alloc (.cells #[.int .i64 W', .int .i64 H', .slice A' m' c'] 27)) := (by repeat (first | exact Q.refl _ | assumption | refine Q.drewN ?_ _ | refine Q.drew ?_ | refine Q.alloc ?_ _ | refine Q.trans ?_ (by assumption) | refine Q.set ?_ (by first | exact Nat.le_refl _ | omega | (simp; done) | (simp; omega)) _))
  have ba := (Blk.new wv 27 #[.int .i64 W, .int .i64 H, .slice A m c]).alloc (.cells #[.int .i64 W', .int .i64 H', .slice A' m' c'] 27)
  have bb := Blk.new (wv.alloc (.cells #[.int .i64 W, .int .i64 H, .slice A m c] 27)) 27 #[.int .i64 W', .int .i64 H', .slice A' m' c']
  rw [World.size_alloc] at bb
  have HXX := Lib.hid (HX.out.q qz (by omega))
  have HYY := Lib.hid (HY.out.q qz (by omega))
  have s2 : ((wv.alloc (.cells #[.int .i64 W, .int .i64 H, .slice A m c] 27)).alloc (.cells #[.int .i64 W', .int .i64 H', .slice A' m' c'] 27)).heap.size = wv.heap.size + 2 := by simp
  replace QQ := QQ.trans qz
  clear qz HX HY
  have HX := HXX
  have HY := HYY
  clear HXX HYY
  obtain ⟨wp, rfl⟩ : ∃ wp, wp = wv := ⟨_, rfl⟩
  have ca := ba.cell
  have cb := bb.cell
  have HSELF := Lib.hid (cutB_self W H xs)
  have HTR := Lib.hid (cutB_tr W H xs)
  have HEND := Lib.hid cutB_ends
  cases ht : cutB W H xs W' H' ys
  · have HT := Lib.hid ht
    have HU : Hid (cutB W' H' ys W H xs = false) := (cutB_swap W H W' H' xs ys).trans ht
    clear ht
    go_wp2_with fail
    generalize (wp.alloc (.cells #[.int .i64 W, .int .i64 H, .slice A m c] 27)).alloc (.cells #[.int .i64 W', .int .i64 H', .slice A' m' c'] 27) = wv at ba bb HX HY QQ s2 ca cb sz ⊢
    replace sz := QQ.size
    refine (impl_SceneCut W H W' H' A A' m m' c c' _ _ xs ys false _ HX.out (by omega) HY.out (by omega) HN HN' hm1 hm2 HT).mono ?_; rintro e wv ⟨rfl, q1⟩
    (try replace ba := ba.q q1); (try replace bb := bb.q q1); (try replace bc := bc.q q1); (try replace bd := bd.q q1); (try replace be := be.q q1); (try replace bf := bf.q q1); (try replace oa := oa.q q1); (try replace ob := ob.q q1); (try replace oc := oc.q q1); (try replace od := od.q q1); (try replace oe := oe.q q1); (try replace HX := Lib.hid (HX.out.q q1 (by omega))); (try replace HY := Lib.hid (HY.out.q q1 (by omega))); have sq := q1.size; replace QQ := QQ.trans q1; replace sz := QQ.size; clear q1; (try replace ca := ba.cell); (try replace cb := bb.cell); (try replace cc := bc.cell); (try replace cd := bd.cell); (try replace ce := be.cell); (try replace cf := bf.cell)
    go_wp2_with fail
    refine (spec_SceneCut W H W' H' A A' m m' c c' _ _ xs ys false _ HX.out (by omega) HY.out (by omega) HN HN' hm1 hm2 HT).mono ?_; rintro e wv ⟨rfl, q1⟩
    (try replace ba := ba.q q1); (try replace bb := bb.q q1); (try replace bc := bc.q q1); (try replace bd := bd.q q1); (try replace be := be.q q1); (try replace bf := bf.q q1); (try replace oa := oa.q q1); (try replace ob := ob.q q1); (try replace oc := oc.q q1); (try replace od := od.q q1); (try replace oe := oe.q q1); (try replace HX := Lib.hid (HX.out.q q1 (by omega))); (try replace HY := Lib.hid (HY.out.q q1 (by omega))); have sq := q1.size; replace QQ := QQ.trans q1; replace sz := QQ.size; clear q1; (try replace ca := ba.cell); (try replace cb := bb.cell); (try replace cc := bc.cell); (try replace cd := bd.cell); (try replace ce := be.cell); (try replace cf := bf.cell)
    go_wp2_with fail
    refine (impl_SceneCut W' H' W H A' A m' m c' c _ _ ys xs false _ HY.out (by omega) HX.out (by omega) HN' HN hm2 hm1 HU).mono ?_; rintro e wv ⟨rfl, q1⟩
    (try replace ba := ba.q q1); (try replace bb := bb.q q1); (try replace bc := bc.q q1); (try replace bd := bd.q q1); (try replace be := be.q q1); (try replace bf := bf.q q1); (try replace oa := oa.q q1); (try replace ob := ob.q q1); (try replace oc := oc.q q1); (try replace od := od.q q1); (try replace oe := oe.q q1); (try replace HX := Lib.hid (HX.out.q q1 (by omega))); (try replace HY := Lib.hid (HY.out.q q1 (by omega))); have sq := q1.size; replace QQ := QQ.trans q1; replace sz := QQ.size; clear q1; (try replace ca := ba.cell); (try replace cb := bb.cell); (try replace cc := bc.cell); (try replace cd := bd.cell); (try replace ce := be.cell); (try replace cf := bf.cell)
    obtain ⟨wb, rfl⟩ : ∃ wb, wb = wv := ⟨_, rfl⟩
    clear bb cb HY HT HU
    go_wp2_with fail
    refine wp_region_x (fun ww => Q wb ww ∧ (∀ i, ww.cell? ⟨wp.heap.size, i, none⟩ = (#[.int .i64 W, .int .i64 H, .slice A m c] : Array Value)[i]?)) (fun _ => false) (by kernel_rfl) ⟨(Q.refl _).drew, ba.cell⟩ (fun hS => ?_)
    refine wpAnyX_take (i := 0) (v := ?vv1) rfl (by kernel_rfl) (by kernel_rfl) (by kernel_rfl) (by kernel_rfl) (fun _ _ _ h => h) (Or.inl ⟨by rfl, ?hy1⟩) hS ?rest1
    case hy1 => (intro ww hSw; (try dsimp only at hSw); go_split_ands; go_simp; try with_reducible rfl)
    try simp only [Act.put, List.setIfInBounds_toArray, List.set_cons_zero, List.set_cons_succ]
    refine wpAnyX_take (i := 1) (v := ?vv2) rfl (by kernel_rfl) (by kernel_rfl) (by kernel_rfl) (by kernel_rfl) (fun _ _ _ h => h) (Or.inl ⟨by rfl, ?hy2⟩) hS ?rest2
    case hy2 => (intro ww hSw; (try dsimp only at hSw); go_split_ands; go_simp; try with_reducible rfl)
    try simp only [Act.put, List.setIfInBounds_toArray, List.set_cons_zero, List.set_cons_succ]
    refine wpAnyX_step (k := 2) (by kernel_rfl) rfl rfl (fun K2 hK2 => ?_); go_simp
    refine (impl_SceneCut W H W H A A m m c c _ _ xs xs false _ (HX.out.q hS.1 (by omega)) (Nat.le_trans (by omega) hS.1.size) (HX.out.q hS.1 (by omega)) (Nat.le_trans (by omega) hS.1.size) HN HN hm1 hm1 HSELF).mono ?_; rintro e wz ⟨rfl, q3⟩
    have q4 := hS.1.trans q3
    refine hK2.out _ _ ⟨q4, (ba.q q4).cell⟩ (fun hS => ?_)
    clear hK2 K2; (try simp only [Act.put, List.setIfInBounds_toArray, List.set_cons_zero, List.set_cons_succ])
    refine wpAnyX_take (i := 3) (v := ?vv3) rfl (by kernel_rfl) (by kernel_rfl) (by kernel_rfl) (by kernel_rfl) (fun _ _ _ h => h) (Or.inl ⟨by rfl, ?hy3⟩) hS ?rest3
    case hy3 => (intro ww hSw; (try dsimp only at hSw); go_split_ands; go_simp; try with_reducible rfl)
    try simp only [Act.put, List.setIfInBounds_toArray, List.set_cons_zero, List.set_cons_succ]
    refine wpAnyX_take (i := 4) (v := ?vv4) rfl (by kernel_rfl) (by kernel_rfl) (by kernel_rfl) (by kernel_rfl) (fun _ _ _ h => h) (Or.inl ⟨by rfl, ?hy4⟩) hS ?rest4
    case hy4 => (intro ww hSw; (try dsimp only at hSw); go_split_ands; go_simp; try with_reducible rfl)
    try simp only [Act.put, List.setIfInBounds_toArray, List.set_cons_zero, List.set_cons_succ]
    refine wpAnyX_take (i := 5) (v := ?vv5) rfl (by kernel_rfl) (by kernel_rfl) (by kernel_rfl) (by kernel_rfl) (fun _ _ _ h => h) (Or.inl ⟨by rfl, ?hy5⟩) hS ?rest5
    case hy5 => (intro ww hSw; (try dsimp only at hSw); go_split_ands; go_simp; try with_reducible rfl)
    try simp only [Act.put, List.setIfInBounds_toArray, List.set_cons_zero, List.set_cons_succ]
    refine wpAnyX_take (i := 6) (v := ?vv6) rfl (by kernel_rfl) (by kernel_rfl) (by kernel_rfl) (by kernel_rfl) (fun _ _ _ h => h) (Or.inl ⟨by rfl, ?hy6⟩) hS ?rest6
    case hy6 => (intro ww hSw; (try dsimp only at hSw); go_split_ands; go_simp; try with_reducible rfl)
    try simp only [Act.put, List.setIfInBounds_toArray, List.set_cons_zero, List.set_cons_succ]
    refine wpAnyX_step (k := 7) (by kernel_rfl) rfl rfl (fun K2 hK2 => ?_); go_simp
    refine (Transpose W H A m c _ xs _ (HX.out.q q4 (by omega)) (Nat.le_trans (by omega) q4.size) HN l3 l4).mono ?_; rintro e wy ⟨v, rfl, o5, q5⟩
    obtain ⟨A5, c5, rfl⟩ := o5.form
    have q6 := q4.trans q5
    refine hK2.out _ _ ⟨q6, (ba.q q6).cell⟩ (fun hS => ?_)
    clear hK2 K2; (try simp only [Act.put, List.setIfInBounds_toArray, List.set_cons_zero, List.set_cons_succ])
    refine wpAnyX_step (k := 8) (by kernel_rfl) rfl rfl (fun K2 hK2 => ?_); go_simp
    refine (impl_SceneCut W H _ _ A A5 m _ c c5 _ _ xs _ false _ (HX.out.q q6 (by omega)) (Nat.le_trans (by omega) q6.size) o5.rd (Nat.le_refl _) HN rfl hm1 (by have := HTL.out; omega) HTR).mono ?_; rintro e wx ⟨rfl, q7⟩
    have q8 := q6.trans q7
    refine hK2.out _ _ ⟨q8, (ba.q q8).cell⟩ (fun hS => ?_)
    clear hK2 K2; (try simp only [Act.put, List.setIfInBounds_toArray, List.set_cons_zero, List.set_cons_succ])
    refine wpAnyX_take (i := 9) (v := ?vv7) rfl (by kernel_rfl) (by kernel_rfl) (by kernel_rfl) (by kernel_rfl) (fun _ _ _ h => h) (Or.inl ⟨by rfl, ?hy7⟩) hS ?rest7
    case hy7 => (intro ww hSw; (try dsimp only at hSw); go_split_ands; go_simp; try with_reducible rfl)
    try simp only [Act.put, List.setIfInBounds_toArray, List.set_cons_zero, List.set_cons_succ]
    refine wpAnyX_take (i := 10) (v := ?vv8) rfl (by kernel_rfl) (by kernel_rfl) (by kernel_rfl) (by kernel_rfl) (fun _ _ _ h => h) (Or.inl ⟨by rfl, ?hy8⟩) hS ?rest8
    case hy8 => (intro ww hSw; (try dsimp only at hSw); go_split_ands; go_simp; try with_reducible rfl)
    try simp only [Act.put, List.setIfInBounds_toArray, List.set_cons_zero, List.set_cons_succ]
    refine wpAnyX_take (i := 11) (v := ?vv9) rfl (by kernel_rfl) (by kernel_rfl) (by kernel_rfl) (by kernel_rfl) (fun _ _ _ h => h) (Or.inl ⟨by rfl, ?hy9⟩) hS ?rest9
    case hy9 => (intro ww hSw; (try dsimp only at hSw); go_split_ands; go_simp; try with_reducible rfl)
    try simp only [Act.put, List.setIfInBounds_toArray, List.set_cons_zero, List.set_cons_succ]
    refine wpAnyX_step (k := 12) (by kernel_rfl) rfl rfl (fun K2 hK2 => ?_); go_simp
    refine (newPicture 8 8 0 64 _ (by unfold Hid sideOk; omega) (by unfold Hid sideOk; omega) (by unfold Hid; omega) rfl (by omega)).mono ?_; rintro e wt ⟨v, rfl, o9, q9⟩
    obtain ⟨A9, c9, rfl⟩ := o9.form
    have q10 := q8.trans q9
    refine hK2.out _ _ ⟨q10, (ba.q q10).cell⟩ (fun hS => ?_)
    clear hK2 K2; (try simp only [Act.put, List.setIfInBounds_toArray, List.set_cons_zero, List.set_cons_succ])
    refine wpAnyX_step (k := 13) (by kernel_rfl) rfl rfl (fun K2 hK2 => ?_); go_simp
    refine (newPicture 8 8 255 64 _ (by unfold Hid sideOk; omega) (by unfold Hid sideOk; omega) (by unfold Hid; omega) rfl (by omega)).mono ?_; rintro e ws ⟨v, rfl, o11, q11⟩
    obtain ⟨A11, c11, rfl⟩ := o11.form
    have q12 := q10.trans q11
    refine hK2.out _ _ ⟨q12, (ba.q q12).cell⟩ (fun hS => ?_)
    clear hK2 K2; (try simp only [Act.put, List.setIfInBounds_toArray, List.set_cons_zero, List.set_cons_succ])
    refine wpAnyX_step (k := 14) (by kernel_rfl) rfl rfl (fun K2 hK2 => ?_); go_simp
    refine (impl_SceneCut 8 8 8 8 A9 A11 64 64 c9 c11 _ _ (List.replicate 64 0) (List.replicate 64 255) true _ (o9.q q11).rd (Nat.le_refl _) o11.rd (Nat.le_refl _) List.length_replicate List.length_replicate (by omega) (by omega) HEND).mono ?_; rintro e wr' ⟨rfl, q13⟩
    have q14 := q12.trans q13
    refine hK2.out _ _ ⟨q14, (ba.q q14).cell⟩ (fun hS => ?_)
    clear hK2 K2; (try simp only [Act.put, List.setIfInBounds_toArray, List.set_cons_zero, List.set_cons_succ])
    refine wpAnyX_take (i := 15) (v := ?vv10) rfl (by kernel_rfl) (by kernel_rfl) (by kernel_rfl) (by kernel_rfl) (fun _ _ _ h => h) (Or.inl ⟨by rfl, ?hy10⟩) hS ?rest10
    case hy10 => (intro ww hSw; (try dsimp only at hSw); go_split_ands; go_simp; try with_reducible rfl)
    try simp only [Act.put, List.setIfInBounds_toArray, List.set_cons_zero, List.set_cons_succ]
    refine wpAnyX_take (i := 16) (v := ?vv11) rfl (by kernel_rfl) (by kernel_rfl) (by kernel_rfl) (by kernel_rfl) (fun _ _ _ h => h) (Or.inl ⟨by rfl, ?hy11⟩) hS ?rest11
    case hy11 => (intro ww hSw; (try dsimp only at hSw); go_split_ands; go_simp; try with_reducible rfl)
    try simp only [Act.put, List.setIfInBounds_toArray, List.set_cons_zero, List.set_cons_succ]
    refine wpAnyX_done (by kernel_rfl) ?_ _
    have QZ := QQ.trans q14
    clear hS
    go_wp2_with fail
    go_ret
    exact ⟨rfl, QZ⟩
  · have HT := Lib.hid ht
    have HU : Hid (cutB W' H' ys W H xs = true) := (cutB_swap W H W' H' xs ys).trans ht
    clear ht
    go_wp2_with fail
    generalize (wp.alloc (.cells #[.int .i64 W, .int .i64 H, .slice A m c] 27)).alloc (.cells #[.int .i64 W', .int .i64 H', .slice A' m' c'] 27) = wv at ba bb HX HY QQ s2 ca cb sz ⊢
    replace sz := QQ.size
    refine (impl_SceneCut W H W' H' A A' m m' c c' _ _ xs ys true _ HX.out (by omega) HY.out (by omega) HN HN' hm1 hm2 HT).mono ?_; rintro e wv ⟨rfl, q1⟩
    (try replace ba := ba.q q1); (try replace bb := bb.q q1); (try replace bc := bc.q q1); (try replace bd := bd.q q1); (try replace be := be.q q1); (try replace bf := bf.q q1); (try replace oa := oa.q q1); (try replace ob := ob.q q1); (try replace oc := oc.q q1); (try replace od := od.q q1); (try replace oe := oe.q q1); (try replace HX := Lib.hid (HX.out.q q1 (by omega))); (try replace HY := Lib.hid (HY.out.q q1 (by omega))); have sq := q1.size; replace QQ := QQ.trans q1; replace sz := QQ.size; clear q1; (try replace ca := ba.cell); (try replace cb := bb.cell); (try replace cc := bc.cell); (try replace cd := bd.cell); (try replace ce := be.cell); (try replace cf := bf.cell)
    go_wp2_with fail
    refine (spec_SceneCut W H W' H' A A' m m' c c' _ _ xs ys true _ HX.out (by omega) HY.out (by omega) HN HN' hm1 hm2 HT).mono ?_; rintro e wv ⟨rfl, q1⟩
    (try replace ba := ba.q q1); (try replace bb := bb.q q1); (try replace bc := bc.q q1); (try replace bd := bd.q q1); (try replace be := be.q q1); (try replace bf := bf.q q1); (try replace oa := oa.q q1); (try replace ob := ob.q q1); (try replace oc := oc.q q1); (try replace od := od.q q1); (try replace oe := oe.q q1); (try replace HX := Lib.hid (HX.out.q q1 (by omega))); (try replace HY := Lib.hid (HY.out.q q1 (by omega))); have sq := q1.size; replace QQ := QQ.trans q1; replace sz := QQ.size; clear q1; (try replace ca := ba.cell); (try replace cb := bb.cell); (try replace cc := bc.cell); (try replace cd := bd.cell); (try replace ce := be.cell); (try replace cf := bf.cell)
    go_wp2_with fail
    refine (impl_SceneCut W' H' W H A' A m' m c' c _ _ ys xs true _ HY.out (by omega) HX.out (by omega) HN' HN hm2 hm1 HU).mono ?_; rintro e wv ⟨rfl, q1⟩
    (try replace ba := ba.q q1); (try replace bb := bb.q q1); (try replace bc := bc.q q1); (try replace bd := bd.q q1); (try replace be := be.q q1); (try replace bf := bf.q q1); (try replace oa := oa.q q1); (try replace ob := ob.q q1); (try replace oc := oc.q q1); (try replace od := od.q q1); (try replace oe := oe.q q1); (try replace HX := Lib.hid (HX.out.q q1 (by omega))); (try replace HY := Lib.hid (HY.out.q q1 (by omega))); have sq := q1.size; replace QQ := QQ.trans q1; replace sz := QQ.size; clear q1; (try replace ca := ba.cell); (try replace cb := bb.cell); (try replace cc := bc.cell); (try replace cd := bd.cell); (try replace ce := be.cell); (try replace cf := bf.cell)
    obtain ⟨wb, rfl⟩ : ∃ wb, wb = wv := ⟨_, rfl⟩
    clear bb cb HY HT HU
    go_wp2_with fail
    refine wp_region_x (fun ww => Q wb ww ∧ (∀ i, ww.cell? ⟨wp.heap.size, i, none⟩ = (#[.int .i64 W, .int .i64 H, .slice A m c] : Array Value)[i]?)) (fun _ => false) (by kernel_rfl) ⟨(Q.refl _).drew, ba.cell⟩ (fun hS => ?_)
    refine wpAnyX_take (i := 0) (v := ?vv12) rfl (by kernel_rfl) (by kernel_rfl) (by kernel_rfl) (by kernel_rfl) (fun _ _ _ h => h) (Or.inl ⟨by rfl, ?hy12⟩) hS ?rest12
    case hy12 => (intro ww hSw; (try dsimp only at hSw); go_split_ands; go_simp; try with_reducible rfl)
    try simp only [Act.put, List.setIfInBounds_toArray, List.set_cons_zero, List.set_cons_succ]
    refine wpAnyX_take (i := 1) (v := ?vv13) rfl (by kernel_rfl) (by kernel_rfl) (by kernel_rfl) (by kernel_rfl) (fun _ _ _ h => h) (Or.inl ⟨by rfl, ?hy13⟩) hS ?rest13
    case hy13 => (intro ww hSw; (try dsimp only at hSw); go_split_ands; go_simp; try with_reducible rfl)
    try simp only [Act.put, List.setIfInBounds_toArray, List.set_cons_zero, List.set_cons_succ]
    refine wpAnyX_step (k := 2) (by kernel_rfl) rfl rfl (fun K2 hK2 => ?_); go_simp
    refine (impl_SceneCut W H W H A A m m c c _ _ xs xs false _ (HX.out.q hS.1 (by omega)) (Nat.le_trans (by omega) hS.1.size) (HX.out.q hS.1 (by omega)) (Nat.le_trans (by omega) hS.1.size) HN HN hm1 hm1 HSELF).mono ?_; rintro e wz ⟨rfl, q3⟩
    have q4 := hS.1.trans q3
    refine hK2.out _ _ ⟨q4, (ba.q q4).cell⟩ (fun hS => ?_)
    clear hK2 K2; (try simp only [Act.put, List.setIfInBounds_toArray, List.set_cons_zero, List.set_cons_succ])
    refine wpAnyX_take (i := 3) (v := ?vv14) rfl (by kernel_rfl) (by kernel_rfl) (by kernel_rfl) (by kernel_rfl) (fun _ _ _ h => h) (Or.inl ⟨by rfl, ?hy14⟩) hS ?rest14
    case hy14 => (intro ww hSw; (try dsimp only at hSw); go_split_ands; go_simp; try with_reducible rfl)
    try simp only [Act.put, List.setIfInBounds_toArray, List.set_cons_zero, List.set_cons_succ]
    refine wpAnyX_take (i := 4) (v := ?vv15) rfl (by kernel_rfl) (by kernel_rfl) (by kernel_rfl) (by kernel_rfl) (fun _ _ _ h => h) (Or.inl ⟨by rfl, ?hy15⟩) hS ?rest15
    case hy15 => (intro ww hSw; (try dsimp only at hSw); go_split_ands; go_simp; try with_reducible rfl)
    try simp only [Act.put, List.setIfInBounds_toArray, List.set_cons_zero, List.set_cons_succ]
    refine wpAnyX_take (i := 5) (v := ?vv16) rfl (by kernel_rfl) (by kernel_rfl) (by kernel_rfl) (by kernel_rfl) (fun _ _ _ h => h) (Or.inl ⟨by rfl, ?hy16⟩) hS ?rest16
    case hy16 => (intro ww hSw; (try dsimp only at hSw); go_split_ands; go_simp; try with_reducible rfl)
    try simp only [Act.put, List.setIfInBounds_toArray, List.set_cons_zero, List.set_cons_succ]
    refine wpAnyX_take (i := 6) (v := ?vv17) rfl (by kernel_rfl) (by kernel_rfl) (by kernel_rfl) (by kernel_rfl) (fun _ _ _ h => h) (Or.inl ⟨by rfl, ?hy17⟩) hS ?rest17
    case hy17 => (intro ww hSw; (try dsimp only at hSw); go_split_ands; go_simp; try with_reducible rfl)
    try simp only [Act.put, List.setIfInBounds_toArray, List.set_cons_zero, List.set_cons_succ]
    refine wpAnyX_step (k := 7) (by kernel_rfl) rfl rfl (fun K2 hK2 => ?_); go_simp
    refine (Transpose W H A m c _ xs _ (HX.out.q q4 (by omega)) (Nat.le_trans (by omega) q4.size) HN l3 l4).mono ?_; rintro e wy ⟨v, rfl, o5, q5⟩
    obtain ⟨A5, c5, rfl⟩ := o5.form
    have q6 := q4.trans q5
    refine hK2.out _ _ ⟨q6, (ba.q q6).cell⟩ (fun hS => ?_)
    clear hK2 K2; (try simp only [Act.put, List.setIfInBounds_toArray, List.set_cons_zero, List.set_cons_succ])
    refine wpAnyX_step (k := 8) (by kernel_rfl) rfl rfl (fun K2 hK2 => ?_); go_simp
    refine (impl_SceneCut W H _ _ A A5 m _ c c5 _ _ xs _ false _ (HX.out.q q6 (by omega)) (Nat.le_trans (by omega) q6.size) o5.rd (Nat.le_refl _) HN rfl hm1 (by have := HTL.out; omega) HTR).mono ?_; rintro e wx ⟨rfl, q7⟩
    have q8 := q6.trans q7
    refine hK2.out _ _ ⟨q8, (ba.q q8).cell⟩ (fun hS => ?_)
    clear hK2 K2; (try simp only [Act.put, List.setIfInBounds_toArray, List.set_cons_zero, List.set_cons_succ])
    refine wpAnyX_take (i := 9) (v := ?vv18) rfl (by kernel_rfl) (by kernel_rfl) (by kernel_rfl) (by kernel_rfl) (fun _ _ _ h => h) (Or.inl ⟨by rfl, ?hy18⟩) hS ?rest18
    case hy18 => (intro ww hSw; (try dsimp only at hSw); go_split_ands; go_simp; try with_reducible rfl)
    try simp only [Act.put, List.setIfInBounds_toArray, List.set_cons_zero, List.set_cons_succ]
    refine wpAnyX_take (i := 10) (v := ?vv19) rfl (by kernel_rfl) (by kernel_rfl) (by kernel_rfl) (by kernel_rfl) (fun _ _ _ h => h) (Or.inl ⟨by rfl, ?hy19⟩) hS ?rest19
    case hy19 => (intro ww hSw; (try dsimp only at hSw); go_split_ands; go_simp; try with_reducible rfl)
    try simp only [Act.put, List.setIfInBounds_toArray, List.set_cons_zero, List.set_cons_succ]
    refine wpAnyX_take (i := 11) (v := ?vv20) rfl (by kernel_rfl) (by kernel_rfl) (by kernel_rfl) (by kernel_rfl) (fun _ _ _ h => h) (Or.inl ⟨by rfl, ?hy20⟩) hS ?rest20
    case hy20 => (intro ww hSw; (try dsimp only at hSw); go_split_ands; go_simp; try with_reducible rfl)
    try simp only [Act.put, List.setIfInBounds_toArray, List.set_cons_zero, List.set_cons_succ]
    refine wpAnyX_step (k := 12) (by kernel_rfl) rfl rfl (fun K2 hK2 => ?_); go_simp
    refine (newPicture 8 8 0 64 _ (by unfold Hid sideOk; omega) (by unfold Hid sideOk; omega) (by unfold Hid; omega) rfl (by omega)).mono ?_; rintro e wt ⟨v, rfl, o9, q9⟩
    obtain ⟨A9, c9, rfl⟩ := o9.form
    have q10 := q8.trans q9
    refine hK2.out _ _ ⟨q10, (ba.q q10).cell⟩ (fun hS => ?_)
    clear hK2 K2; (try simp only [Act.put, List.setIfInBounds_toArray, List.set_cons_zero, List.set_cons_succ])
    refine wpAnyX_step (k := 13) (by kernel_rfl) rfl rfl (fun K2 hK2 => ?_); go_simp
    refine (newPicture 8 8 255 64 _ (by unfold Hid sideOk; omega) (by unfold Hid sideOk; omega) (by unfold Hid; omega) rfl (by omega)).mono ?_; rintro e ws ⟨v, rfl, o11, q11⟩
    obtain ⟨A11, c11, rfl⟩ := o11.form
    have q12 := q10.trans q11
    refine hK2.out _ _ ⟨q12, (ba.q q12).cell⟩ (fun hS => ?_)
    clear hK2 K2; (try simp only [Act.put, List.setIfInBounds_toArray, List.set_cons_zero, List.set_cons_succ])
    refine wpAnyX_step (k := 14) (by kernel_rfl) rfl rfl (fun K2 hK2 => ?_); go_simp
    refine (impl_SceneCut 8 8 8 8 A9 A11 64 64 c9 c11 _ _ (List.replicate 64 0) (List.replicate 64 255) true _ (o9.q q11).rd (Nat.le_refl _) o11.rd (Nat.le_refl _) List.length_replicate List.length_replicate (by omega) (by omega) HEND).mono ?_; rintro e wr' ⟨rfl, q13⟩
    have q14 := q12.trans q13
    refine hK2.out _ _ ⟨q14, (ba.q q14).cell⟩ (fun hS => ?_)
    clear hK2 K2; (try simp only [Act.put, List.setIfInBounds_toArray, List.set_cons_zero, List.set_cons_succ])
    refine wpAnyX_take (i := 15) (v := ?vv21) rfl (by kernel_rfl) (by kernel_rfl) (by kernel_rfl) (by kernel_rfl) (fun _ _ _ h => h) (Or.inl ⟨by rfl, ?hy21⟩) hS ?rest21
    case hy21 => (intro ww hSw; (try dsimp only at hSw); go_split_ands; go_simp; try with_reducible rfl)
    try simp only [Act.put, List.setIfInBounds_toArray, List.set_cons_zero, List.set_cons_succ]
    refine wpAnyX_take (i := 16) (v := ?vv22) rfl (by kernel_rfl) (by kernel_rfl) (by kernel_rfl) (by kernel_rfl) (fun _ _ _ h => h) (Or.inl ⟨by rfl, ?hy22⟩) hS ?rest22
    case hy22 => (intro ww hSw; (try dsimp only at hSw); go_split_ands; go_simp; try with_reducible rfl)
    try simp only [Act.put, List.setIfInBounds_toArray, List.set_cons_zero, List.set_cons_succ]
    refine wpAnyX_done (by kernel_rfl) ?_ _
    have QZ := QQ.trans q14
    clear hS
    go_wp2_with fail
    go_ret
    exact ⟨rfl, QZ⟩
set_option maxRecDepth 100000 in
theorem lifted_FnSceneCut (os : Os) (started : os.Started) (H : Type) (enc : TypeId × Value → H) :
    ReturnsInHanded {} Try.checked os 11 .any (Rows.fnSceneCutSpec.pre6 enc Try.prog Try.f11 Rows.fnSceneCutRow.domain false) (Rows.fnSceneCutSpec.post enc Try.prog Try.f11 false true false false) := by
  refine returnsInHanded_of_change (C := Try.checked) own_knob started (by kernel_rfl) Try.func11
    (ChangeSpec.witness6 (enc := enc) (C := Try.checked) false ⟨#[], #[.slice none 0 0], []⟩ 8 (by kernel_rfl) (by kernel_rfl) (by kernel_rfl) (by kernel_rfl)) ?_
  intro W base args ds gs before hval0 hW hcnd _
  have hval : ∀ (j : Nat) t v, Try.f11.params[j]? = some t → args[j]? = some v → Value.okWide Try.prog W .any base t v := hval0
  have hW' := hW
  obtain ⟨p, q, hA0, hV, rfl, hfz, hnd⟩ := hW
  have hA : DataW.TrodAll enc Try.prog W 0 (fun _ => true) true Try.f11.params.toList args.toList ds p := hA0
  rw [Try.params11] at hA hval
  obtain ⟨v0, vs0, d0, ds0, p0, q0, hargs, rfl, rfl, h0, r0⟩ := trodAll_cons hA
  obtain ⟨rfl, rfl, rfl⟩ := trodAll_nil r0
  obtain rfl : args = #[v0] := by cases args; simp_all
  obtain ⟨rfl, rfl⟩ := trodVars_none hV
  have k0 := h0
  have lt0 : ∀ x ∈ p0, x.block < W.heap.size := by obtain ⟨m, hm⟩ := k0; exact DataW.trod_lt m _ _ _ hm
  obtain ⟨x0, o0⟩ := open_bytes (hval 0 38 v0 rfl rfl) h0
  clear hA0 hval0
  refine (walk_FnSceneCut W v0 x0 o0).mono fun e W' ⟨he, bel⟩ => ?_
  subst he
  exact ⟨_, rfl, _, _, _, [], _, [], hW', trodAll_mk1 (shut_bool Try.underlying4 _), (trodAll_cons_mk (Below.trod laid_out (by kernel_rfl) (of_decide_eq_true (by kernel_rfl)) k0 bel lt0) trodAll_mk0), rfl, bel.frame _, fun h => by cases h⟩

/-- The statement. -/
theorem FnSceneCut_holds : Rows.FnSceneCutSaid :=
  OpenClaim.holds_of_wide 11 Try.f11 rfl rfl rfl rfl rfl rfl rfl ⟨rfl, rfl, rfl, rfl, rfl⟩ rfl rfl rfl rfl rfl (by kernel_rfl) Try.func11 (by kernel_rfl)
    (of_decide_eq_true (by kernel_rfl)) (by unfold Func.isWrapper; first | (rw [if_pos (by decide +kernel)]; kernel_rfl) | (rw [if_neg (by decide +kernel)]; exact ⟨rfl, rfl⟩))
    (fun os started H enc _ => lifted_FnSceneCut os started H enc)
#print axioms FnSceneCut_holds
end Go.Proofs.Ytoipcfpbkjanhaa

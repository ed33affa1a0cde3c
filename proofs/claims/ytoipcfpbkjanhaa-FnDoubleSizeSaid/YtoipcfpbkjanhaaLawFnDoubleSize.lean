/-
  FnDoubleSize: for every code of at most 1048576 bytes the law returns true: at even columns and rows the doubled picture has the samples of the picture, and it is valid and has four times as many samples; for longer codes the law asks nothing. No condition.
-/
import Derived.Test.YtoipcfpbkjanhaaDrawU
import Derived.Test.YtoipcfpbkjanhaaScaleL
import Derived.Test.YtoipcfpbkjanhaaSameP
import Derived.Test.YtoipcfpbkjanhaaAbs
namespace Go.Proofs.Ytoipcfpbkjanhaa
open Go.ChangeShapes Go.WideShapes Go.ChangeAt Go.RowKit

set_option maxRecDepth 100000 in
theorem impl_SampleAt_ok (W H x y : Int) (A : Option Addr) (n c B : Nat) (xs : List Int) (w : World) (hx : Rd w B A xs) (hB : B ≤ w.heap.size) (hn : Hid (xs.length = n)) (hm : n ≤ 9223372036854775807) (hp : Hid (picB W H xs = true)) :
    Calls Try.prog 44 #[.agg #[.int .i64 W, .int .i64 H, .slice A n c], .int .i64 x, .int .i64 y] w fun e w' => e = .returned (.int .i64 (smpAt W H xs x y)) ∧ Q w w' := by
  have QQ : Q w (w.alloc (.cells #[.int .i64 W, .int .i64 H, .slice A n c] 27)) := (by repeat (first | exact Q.refl _ | assumption | refine Q.drewN ?_ _ | refine Q.drew ?_ | refine Q.alloc ?_ _ | refine Q.trans ?_ (by assumption) | refine Q.set ?_ (by first | exact Nat.le_refl _ | omega | (simp; done) | (simp; omega)) _))
  have sz := QQ.size
  have ba := Blk.new w 27 #[.int .i64 W, .int .i64 H, .slice A n c]
  have HX := Lib.hid (hx.q QQ hB)
  have hB2 : B ≤ (w.alloc (.cells #[.int .i64 W, .int .i64 H, .slice A n c] 27)).heap.size := by omega
  clear hx
  go_enter Try.func44, Try.ntmps44
  go_wp2_with fail
  refine (impl_PictureValid W H A n c _ xs true _ HX.out hB2 hn hm hp).mono ?_; rintro e wv ⟨rfl, q1⟩
  (try replace ba := ba.q q1); (try replace bb := bb.q q1); (try replace bc := bc.q q1); (try replace bd := bd.q q1); (try replace be := be.q q1); (try replace bf := bf.q q1); (try replace oa := oa.q q1); (try replace ob := ob.q q1); (try replace oc := oc.q q1); (try replace od := od.q q1); (try replace oe := oe.q q1); (try replace HX := Lib.hid (HX.out.q q1 (by omega))); (try replace HY := Lib.hid (HY.out.q q1 (by omega))); have sq := q1.size; replace QQ := QQ.trans q1; replace sz := QQ.size; clear q1; (try replace ca := ba.cell); (try replace cb := bb.cell); (try replace cc := bc.cell); (try replace cd := bd.cell); (try replace ce := be.cell); (try replace cf := bf.cell)
  go_wp2_with fail
  refine (impl_at W H x y A n c _ xs _ HX.out (by omega) hn hp).mono ?_; rintro e wv ⟨rfl, q2⟩
  (try replace ba := ba.q q2); (try replace bb := bb.q q2); (try replace bc := bc.q q2); (try replace bd := bd.q q2); (try replace be := be.q q2); (try replace bf := bf.q q2); (try replace oa := oa.q q2); (try replace ob := ob.q q2); (try replace oc := oc.q q2); (try replace od := od.q q2); (try replace oe := oe.q q2); (try replace HX := Lib.hid (HX.out.q q2 (by omega))); (try replace HY := Lib.hid (HY.out.q q2 (by omega))); have sq := q2.size; replace QQ := QQ.trans q2; replace sz := QQ.size; clear q2; (try replace ca := ba.cell); (try replace cb := bb.cell); (try replace cc := bc.cell); (try replace cd := bd.cell); (try replace ce := be.cell); (try replace cf := bf.cell)
  go_wp2_with fail
  go_ret
  exact ⟨rfl, QQ⟩
set_option maxRecDepth 100000 in
set_option maxHeartbeats 8000000 in
theorem walk_FnDoubleSize (w : World) (v0 : Value) (x0 : Option Addr × Nat × List Int) (h0 : ArgBytes w v0 x0) :
    Calls Try.prog 12 #[v0] w fun e w' => e = .returned (.bool true) ∧ Q w w' := by
  have hv := h0.1; have hm := h0.2.2.1; unfold maxLen at hm; generalize hn : x0.2.2.length = nn at hv hm; have HN := Lib.hid hn; clear hn; by_cases hbig : 1048576 < nn; (subst hv; go_enter Try.func12, Try.ntmps12; go_wp2_with fail; go_ret; exact ⟨rfl, Q.refl _⟩); have H0 : ArgBytes w (.slice x0.1 nn x0.2.1) x0 := (by rw [hv] at h0; exact h0); subst hv; clear h0; go_enter Try.func12, Try.ntmps12; go_wp2_with fail
  refine (DrawDoubleSize _ _ _ H0).mono ?_; rintro e wv ⟨⟨W, H, A, m, c, xs, rfl, o1, hl, hm, i1, i2, i3, i4, i5, i6⟩, QQ⟩
  have HN : Hid (xs.length = m) := hl
  have sz := QQ.size
  have HX := Lib.hid o1.rd
  clear o1 hl H0
  have hm' : m ≤ 9223372036854775807 := by omega
  have hmx : m ≤ maxLen := by unfold maxLen; omega
  generalize hB0 : wv.heap.size = B0 at HX
  replace hB0 : B0 ≤ wv.heap.size := by omega
  have sb : (wv.alloc (.cells #[.int .i64 W, .int .i64 H, .slice A m c] 27)).heap.size = wv.heap.size + 1 := (by simp); have qb : Q wv (wv.alloc (.cells #[.int .i64 W, .int .i64 H, .slice A m c] 27)) := (Q.refl wv).alloc _; (try replace ba := ba.q qb); (try replace bb := bb.q qb); (try replace bc := bc.q qb); (try replace bd := bd.q qb); (try replace be := be.q qb); (try replace bf := bf.q qb); (try replace oa := oa.q qb); (try replace ob := ob.q qb); (try replace oc := oc.q qb); (try replace od := od.q qb); (try replace oe := oe.q qb); (try replace HX := Lib.hid (HX.out.q qb (by omega))); (try replace HY := Lib.hid (HY.out.q qb (by omega))); have sq := qb.size; replace QQ := QQ.trans qb; replace sz := QQ.size; clear qb; (try replace ca := ba.cell); (try replace cb := bb.cell); (try replace cc := bc.cell); (try replace cd := bd.cell); (try replace ce := be.cell); (try replace cf := bf.cell); have ba := Blk.new wv 27 #[.int .i64 W, .int .i64 H, .slice A m c]; (try replace ca := ba.cell); (try replace cb := bb.cell); (try replace cc := bc.cell); (try replace cd := bd.cell); (try replace ce := be.cell); (try replace cf := bf.cell)
  obtain ⟨wp, rfl⟩ : ∃ wp, wp = wv := ⟨_, rfl⟩
  by_cases hok : picB W H xs = true ∧ sideOk (2 * W) ∧ sideOk (2 * H)
  · obtain ⟨hp, hs1, hs2⟩ := hok
    obtain ⟨wn, hn, rfl, rfl, rw1, rh1, l5, hP, hV, l4, hS⟩ := doub_laws hp hs1 hs2
    rw [HN.out] at l4 l5 hS
    obtain ⟨d, hd⟩ : ∃ d, (pixL (dblF (wn : Int) (hn : Int) xs) (2 * wn) (2 * hn)).length = d := ⟨_, rfl⟩
    have lz := hd
    rw [hd] at l4
    generalize pixL (dblF (wn : Int) (hn : Int) xs) (2 * wn) (2 * hn) = zs at hP hV hS lz hd
    obtain ⟨twn, htw⟩ : ∃ twn, 2 * wn = twn := ⟨_, rfl⟩
    obtain ⟨thn, hth⟩ : ∃ thn, 2 * hn = thn := ⟨_, rfl⟩
    rw [htw, hth] at hP hV hS
    have HP := Lib.hid hP
    have HV := Lib.hid hV
    have HS := Lib.hid hS
    have HZ : Hid (zs.length = d) := lz
    have m64 : 64 ≤ m := by rw [l5]; exact Nat.mul_le_mul rh1.1 rw1.1
    have m256 : m ≤ 256 := by rw [l5]; exact Nat.mul_le_mul rh1.2.1 rw1.2.1
    have d64 : 64 ≤ d := by omega
    have d256 : d ≤ 1024 := by omega
    have HL4 := Lib.hid l4
    have w8 : 8 ≤ wn := rw1.1
    have w16 : wn ≤ 16 := rw1.2.1
    have HP0 := Lib.hid hp
    clear l4 hP hV hS hp hs1 hs2 rw1 rh1 l5 hd lz htw hth
    go_wp2_with fail
    refine (impl_DoubleSize _ _ A m c _ xs _ HX.out (by omega) HN hm').mono ?_; rw [HP.out]; dsimp only; rw [HZ.out]; rintro e wv ⟨v, rfl, o2, q2⟩
    obtain ⟨A2, c2, rfl⟩ := o2.form
    (try replace ba := ba.q q2); (try replace bb := bb.q q2); (try replace bc := bc.q q2); (try replace bd := bd.q q2); (try replace be := be.q q2); (try replace bf := bf.q q2); (try replace oa := oa.q q2); (try replace ob := ob.q q2); (try replace oc := oc.q q2); (try replace od := od.q q2); (try replace oe := oe.q q2); (try replace HX := Lib.hid (HX.out.q q2 (by omega))); (try replace HY := Lib.hid (HY.out.q q2 (by omega))); have sq := q2.size; replace QQ := QQ.trans q2; replace sz := QQ.size; clear q2; (try replace ca := ba.cell); (try replace cb := bb.cell); (try replace cc := bc.cell); (try replace cd := bd.cell); (try replace ce := be.cell); (try replace cf := bf.cell)
    have oa := o2.i
    clear o2
    have sb : (wv.alloc (.cells #[.int .i64 twn, .int .i64 thn, .slice A2 d c2] 27)).heap.size = wv.heap.size + 1 := (by simp); have qb : Q wv (wv.alloc (.cells #[.int .i64 twn, .int .i64 thn, .slice A2 d c2] 27)) := (Q.refl wv).alloc _; (try replace ba := ba.q qb); (try replace bb := bb.q qb); (try replace bc := bc.q qb); (try replace bd := bd.q qb); (try replace be := be.q qb); (try replace bf := bf.q qb); (try replace oa := oa.q qb); (try replace ob := ob.q qb); (try replace oc := oc.q qb); (try replace od := od.q qb); (try replace oe := oe.q qb); (try replace HX := Lib.hid (HX.out.q qb (by omega))); (try replace HY := Lib.hid (HY.out.q qb (by omega))); have sq := qb.size; replace QQ := QQ.trans qb; replace sz := QQ.size; clear qb; (try replace ca := ba.cell); (try replace cb := bb.cell); (try replace cc := bc.cell); (try replace cd := bd.cell); (try replace ce := be.cell); (try replace cf := bf.cell); have bb := Blk.new wv 27 #[.int .i64 twn, .int .i64 thn, .slice A2 d c2]; (try replace ca := ba.cell); (try replace cb := bb.cell); (try replace cc := bc.cell); (try replace cd := bd.cell); (try replace ce := be.cell); (try replace cf := bf.cell)
    obtain ⟨wq, rfl⟩ : ∃ wq, wq = wv := ⟨_, rfl⟩
    have hdz : ((d : Int) == 0) = false := by rw [beq_eq_false_iff_ne]; omega
    have hdm : d ≤ maxLen := by unfold maxLen; omega
    go_wp2_with fail
    generalize wq.alloc (.cells #[.int .i64 twn, .int .i64 thn, .slice A2 d c2] 27) = wb at HX QQ sz sq sb ba bb ca cb oa ⊢
    have oa' := Lib.hid oa
    refine wp_region_x (fun ww => Q wb ww ∧ (∀ i, ww.cell? ⟨wp.heap.size, i, none⟩ = (#[.int .i64 wn, .int .i64 hn, .slice A m c] : Array Value)[i]?) ∧ (∀ i, ww.cell? ⟨wq.heap.size, i, none⟩ = (#[.int .i64 twn, .int .i64 thn, .slice A2 d c2] : Array Value)[i]?)) (fun _ => false) (by kernel_rfl) ⟨(Q.refl _).drew, ba.cell, bb.cell⟩ (fun hS => ?_)
    refine wpAnyX_take (i := 0) (v := ?vv1) rfl (by kernel_rfl) (by kernel_rfl) (by kernel_rfl) (by kernel_rfl) (fun _ _ _ h => h) (Or.inl ⟨by rfl, ?hy1⟩) hS ?rest1
    case hy1 => (intro ww hSw; (try dsimp only at hSw); go_split_ands; go_simp; try with_reducible rfl)
    try simp only [Act.put, List.setIfInBounds_toArray, List.set_cons_zero, List.set_cons_succ]
    refine wpAnyX_take (i := 1) (v := ?vv2) rfl (by kernel_rfl) (by kernel_rfl) (by kernel_rfl) (by kernel_rfl) (fun _ _ _ h => h) (Or.inl ⟨by rfl, ?hy2⟩) hS ?rest2
    case hy2 => (intro ww hSw; (try dsimp only at hSw); go_split_ands; go_simp; try with_reducible rfl)
    try simp only [Act.put, List.setIfInBounds_toArray, List.set_cons_zero, List.set_cons_succ]
    refine wpAnyX_step (k := 2) (by kernel_rfl) rfl rfl (fun K2 hK2 => ?_); go_simp
    refine (spec_DoubleSize _ _ A m c _ xs _ (HX.out.q hS.1 (by omega)) (Nat.le_trans (by omega) hS.1.size) HN hm').mono ?_; rw [HP.out]; dsimp only; rw [HZ.out]; rintro e wz ⟨v, rfl, o3, q3⟩
    obtain ⟨A3, c3, rfl⟩ := o3.form
    have q4 := hS.1.trans q3
    refine hK2.out _ _ ⟨q4, (ba.q q4).cell, (bb.q q4).cell⟩ (fun hS => ?_)
    clear hK2 K2; (try simp only [Act.put, List.setIfInBounds_toArray, List.set_cons_zero, List.set_cons_succ])
    refine wpAnyX_step (k := 3) (by kernel_rfl) rfl rfl (fun K2 hK2 => ?_); go_simp
    refine (samePicture (twn : Int) (thn : Int) (twn : Int) (thn : Int) A2 A3 d d c2 c3 _ _ zs zs true _ (oa.q q4).rd (Nat.le_refl _) o3.rd (Nat.le_refl _) HZ HZ hdm hdm (decide_eq_true ⟨rfl, rfl, rfl⟩)).mono ?_; rintro e wy ⟨rfl, q5⟩
    have qq := q4.trans q5
    refine hK2.out _ _ ⟨qq, (ba.q qq).cell, (bb.q qq).cell⟩ (fun hS => ?_)
    clear hK2 K2; (try simp only [Act.put, List.setIfInBounds_toArray, List.set_cons_zero, List.set_cons_succ])
    refine wpAnyX_take (i := 4) (v := ?vv3) rfl (by kernel_rfl) (by kernel_rfl) (by kernel_rfl) (by kernel_rfl) (fun _ _ _ h => h) (Or.inl ⟨by rfl, ?hy3⟩) hS ?rest3
    case hy3 => (intro ww hSw; (try dsimp only at hSw); go_split_ands; go_simp; try with_reducible rfl)
    try simp only [Act.put, List.setIfInBounds_toArray, List.set_cons_zero, List.set_cons_succ]
    refine wpAnyX_done (by kernel_rfl) ?_ _
    clear hS q3 q4 q5 o3
    obtain ⟨wv, rfl⟩ : ∃ wv, wv = wy := ⟨_, rfl⟩
    (try replace ba := ba.q qq); (try replace bb := bb.q qq); (try replace bc := bc.q qq); (try replace bd := bd.q qq); (try replace be := be.q qq); (try replace bf := bf.q qq); (try replace oa := oa.q qq); (try replace ob := ob.q qq); (try replace oc := oc.q qq); (try replace od := od.q qq); (try replace oe := oe.q qq); (try replace HX := Lib.hid (HX.out.q qq (by omega))); (try replace HY := Lib.hid (HY.out.q qq (by omega))); have sq := qq.size; replace QQ := QQ.trans qq; replace sz := QQ.size; clear qq; (try replace ca := ba.cell); (try replace cb := bb.cell); (try replace cc := bc.cell); (try replace cd := bd.cell); (try replace ce := be.cell); (try replace cf := bf.cell)
    go_wp2_with fail
    obtain ⟨gb, of, rfl, hba, hca⟩ := HX.out (by have := HN.out; omega)
    have HCA := Lib.hid hca
    have OA := Lib.hid oa
    have BA := Lib.hid ba
    have BB := Lib.hid bb
    have HQ := Lib.hid QQ
    clear hca oa QQ oa'
    go_loopw [5] (fun i wr => ∃ k : Nat, k ≤ m ∧ i = .int .i64 k ∧ Q wv wr) (fun i _ => m - (intOf i).toNat)
    case atStart => exact ⟨0, by omega, rfl, Q.refl _⟩
    case round =>
      obtain ⟨k, hk, rfl, hq⟩ := hrel
      have swr := hq.size
      have ba := BA.out.q hq
      have bb := BB.out.q hq
      replace ca := ba.cell
      replace cb := bb.cell
      by_cases hlt : k < m
      · have hc := (hq.cell gb (of + k) (by omega)).trans (HCA.out k (by rw [HN.out]; exact hlt))
        have hlaw := HS.out k hlt
        have hkm : (k : Int) < (m : Int) := by omega
        have hm0 : (k : Int) % (wn : Int) = ((k % wn : Nat) : Int) := (Int.natCast_emod _ _).symm
        have hd0 : (k : Int) / (wn : Int) = ((k / wn : Nat) : Int) := (Int.natCast_ediv _ _).symm
        have hmlt : k % wn < wn := Nat.mod_lt _ (by omega)
        have hdlt : k / wn ≤ k := Nat.div_le_self _ _
        rw [hm0, hd0] at hlaw
        have ra1 : 0 ≤ ((k % wn : Nat) : Int) ∧ ((k % wn : Nat) : Int) ≤ ((32 : Nat) : Int) := ⟨Int.natCast_nonneg _, Int.ofNat_le.2 (by omega)⟩
        have rb1 : 0 ≤ ((k / wn : Nat) : Int) ∧ ((k / wn : Nat) : Int) ≤ ((1024 : Nat) : Int) := ⟨Int.natCast_nonneg _, Int.ofNat_le.2 (by omega)⟩
        generalize ((k % wn : Nat) : Int) = ra at hm0 hlaw ra1
        generalize ((k / wn : Nat) : Int) = rb at hd0 hlaw rb1
        have t1 : (k : Int).tmod (wn : Int) = ra := by rw [Int.tmod_eq_emod_of_nonneg (by omega), hm0]
        have t2 : (k : Int).tdiv (wn : Int) = rb := by rw [Int.tdiv_eq_ediv_of_nonneg (by omega), hd0]
        have x1 : IntKind.i64.wrap ra = ra := IntWalk.i64_in _ ⟨by omega, by omega⟩
        have x2 : IntKind.i64.wrap rb = rb := IntWalk.i64_in _ ⟨by omega, by omega⟩
        have x3 : IntKind.i64.wrap (2 * ra) = 2 * ra := IntWalk.i64_in _ ⟨by omega, by omega⟩
        have x4 : IntKind.i64.wrap (2 * rb) = 2 * rb := IntWalk.i64_in _ ⟨by omega, by omega⟩
        have hz : ((wn : Int) == 0) = false := by rw [beq_eq_false_iff_ne]; omega
        have hz2 : ¬ wn = 0 := by omega
        clear hmlt hdlt
        generalize xs[k]?.getD 0 = y at hc hlaw
        have HLW := Lib.hid hlaw
        have HQ2 := Lib.hid hq
        clear hlaw hq
        go_wp2_with fail
        refine wp_region_x (fun ww => Q wr ww ∧ (∀ i, ww.cell? ⟨wp.heap.size, i, none⟩ = (#[.int .i64 wn, .int .i64 hn, .slice (some ⟨gb, of, none⟩) m c] : Array Value)[i]?) ∧ (∀ i, ww.cell? ⟨wq.heap.size, i, none⟩ = (#[.int .i64 twn, .int .i64 thn, .slice A2 d c2] : Array Value)[i]?) ∧ ww.cell? ⟨gb, of + k, none⟩ = some (.int .i64 y)) (fun _ => false) (by kernel_rfl) ⟨(Q.refl _).drew, ba.cell, bb.cell, hc⟩ (fun hS => ?_)
        refine wpAnyX_take (i := 0) (v := ?vv4) rfl (by kernel_rfl) (by kernel_rfl) (by kernel_rfl) (by kernel_rfl) (fun _ _ _ h => h) (Or.inl ⟨by rfl, ?hy4⟩) hS ?rest4
        case hy4 => (intro ww hSw; (try dsimp only at hSw); go_split_ands; go_simp; try with_reducible rfl)
        try simp only [Act.put, List.setIfInBounds_toArray, List.set_cons_zero, List.set_cons_succ]
        refine wpAnyX_take (i := 1) (v := ?vv5) rfl (by kernel_rfl) (by kernel_rfl) (by kernel_rfl) (by kernel_rfl) (fun _ _ _ h => h) (Or.inl ⟨by rfl, ?hy5⟩) hS ?rest5
        case hy5 => (intro ww hSw; (try dsimp only at hSw); go_split_ands; go_simp; try with_reducible rfl)
        try simp only [Act.put, List.setIfInBounds_toArray, List.set_cons_zero, List.set_cons_succ]
        refine wpAnyX_take (i := 2) (v := ?vv6) rfl (by kernel_rfl) (by kernel_rfl) (by kernel_rfl) (by kernel_rfl) (fun _ _ _ h => h) (Or.inl ⟨by rfl, ?hy6⟩) hS ?rest6
        case hy6 => (intro ww hSw; (try dsimp only at hSw); go_split_ands; go_simp; try with_reducible rfl)
        try simp only [Act.put, List.setIfInBounds_toArray, List.set_cons_zero, List.set_cons_succ]
        refine wpAnyX_take (i := 3) (v := ?vv7) rfl (by kernel_rfl) (by kernel_rfl) (by kernel_rfl) (by kernel_rfl) (fun _ _ _ h => h) (Or.inl ⟨by rfl, ?hy7⟩) hS ?rest7
        case hy7 => (intro ww hSw; (try dsimp only at hSw); go_split_ands; go_simp; try with_reducible rfl)
        try simp only [Act.put, List.setIfInBounds_toArray, List.set_cons_zero, List.set_cons_succ]
        refine wpAnyX_take (i := 4) (v := ?vv8) rfl (by kernel_rfl) (by kernel_rfl) (by kernel_rfl) (by kernel_rfl) (fun _ _ _ h => h) (Or.inl ⟨by rfl, ?hy8⟩) hS ?rest8
        case hy8 => (intro ww hSw; (try dsimp only at hSw); go_split_ands; go_simp; try with_reducible rfl)
        try simp only [Act.put, List.setIfInBounds_toArray, List.set_cons_zero, List.set_cons_succ]
        refine wpAnyX_take (i := 5) (v := ?vv9) rfl (by kernel_rfl) (by kernel_rfl) (by kernel_rfl) (by kernel_rfl) (fun _ _ _ h => h) (Or.inl ⟨by rfl, ?hy9⟩) hS ?rest9
        case hy9 => (intro ww hSw; (try dsimp only at hSw); go_split_ands; go_simp; try with_reducible rfl)
        try simp only [Act.put, List.setIfInBounds_toArray, List.set_cons_zero, List.set_cons_succ]
        refine wpAnyX_take (i := 6) (v := ?vv10) rfl (by kernel_rfl) (by kernel_rfl) (by kernel_rfl) (by kernel_rfl) (fun _ _ _ h => h) (Or.inl ⟨by rfl, ?hy10⟩) hS ?rest10
        case hy10 => (intro ww hSw; (try dsimp only at hSw); go_split_ands; go_simp; try with_reducible rfl)
        try simp only [Act.put, List.setIfInBounds_toArray, List.set_cons_zero, List.set_cons_succ]
        refine wpAnyX_take (i := 7) (v := ?vv11) rfl (by kernel_rfl) (by kernel_rfl) (by kernel_rfl) (by kernel_rfl) (fun _ _ _ h => h) (Or.inl ⟨by rfl, ?hy11⟩) hS ?rest11
        case hy11 => (intro ww hSw; (try dsimp only at hSw); go_split_ands; go_simp; try with_reducible rfl)
        try simp only [Act.put, List.setIfInBounds_toArray, List.set_cons_zero, List.set_cons_succ]
        refine wpAnyX_take (i := 8) (v := ?vv12) rfl (by kernel_rfl) (by kernel_rfl) (by kernel_rfl) (by kernel_rfl) (fun _ _ _ h => h) (Or.inl ⟨by rfl, ?hy12⟩) hS ?rest12
        case hy12 => (intro ww hSw; (try dsimp only at hSw); go_split_ands; go_simp; try with_reducible rfl)
        try simp only [Act.put, List.setIfInBounds_toArray, List.set_cons_zero, List.set_cons_succ]
        refine wpAnyX_take (i := 9) (v := ?vv13) rfl (by kernel_rfl) (by kernel_rfl) (by kernel_rfl) (by kernel_rfl) (fun _ _ _ h => h) (Or.inl ⟨by rfl, ?hy13⟩) hS ?rest13
        case hy13 => (intro ww hSw; (try dsimp only at hSw); go_split_ands; go_simp; try with_reducible rfl)
        try simp only [Act.put, List.setIfInBounds_toArray, List.set_cons_zero, List.set_cons_succ]
        refine wpAnyX_take (i := 10) (v := ?vv14) rfl (by kernel_rfl) (by kernel_rfl) (by kernel_rfl) (by kernel_rfl) (fun _ _ _ h => h) (Or.inl ⟨by rfl, ?hy14⟩) hS ?rest14
        case hy14 => (intro ww hSw; (try dsimp only at hSw); go_split_ands; go_simp; try with_reducible rfl)
        try simp only [Act.put, List.setIfInBounds_toArray, List.set_cons_zero, List.set_cons_succ]
        refine wpAnyX_take (i := 12) (v := ?vv15) rfl (by kernel_rfl) (by kernel_rfl) (by kernel_rfl) (by kernel_rfl) (fun _ _ _ h => h) (Or.inl ⟨by rfl, ?hy15⟩) hS ?rest15
        case hy15 => (intro ww hSw; (try dsimp only at hSw); go_split_ands; go_simp; try with_reducible rfl)
        try simp only [Act.put, List.setIfInBounds_toArray, List.set_cons_zero, List.set_cons_succ]
        refine wpAnyX_take (i := 13) (v := ?vv16) rfl (by kernel_rfl) (by kernel_rfl) (by kernel_rfl) (by kernel_rfl) (fun _ _ _ h => h) (Or.inl ⟨by rfl, ?hy16⟩) hS ?rest16
        case hy16 => (intro ww hSw; (try dsimp only at hSw); go_split_ands; go_simp; try with_reducible rfl)
        try simp only [Act.put, List.setIfInBounds_toArray, List.set_cons_zero, List.set_cons_succ]
        refine wpAnyX_take (i := 14) (v := ?vv17) rfl (by kernel_rfl) (by kernel_rfl) (by kernel_rfl) (by kernel_rfl) (fun _ _ _ h => h) (Or.inl ⟨by rfl, ?hy17⟩) hS ?rest17
        case hy17 => (intro ww hSw; (try dsimp only at hSw); go_split_ands; go_simp; try with_reducible rfl)
        try simp only [Act.put, List.setIfInBounds_toArray, List.set_cons_zero, List.set_cons_succ]
        refine wpAnyX_take (i := 15) (v := ?vv18) rfl (by kernel_rfl) (by kernel_rfl) (by kernel_rfl) (by kernel_rfl) (fun _ _ _ h => h) (Or.inl ⟨by rfl, ?hy18⟩) hS ?rest18
        case hy18 => (intro ww hSw; (try dsimp only at hSw); go_split_ands; go_simp; try with_reducible rfl)
        try simp only [Act.put, List.setIfInBounds_toArray, List.set_cons_zero, List.set_cons_succ]
        refine wpAnyX_take (i := 16) (v := ?vv19) rfl (by kernel_rfl) (by kernel_rfl) (by kernel_rfl) (by kernel_rfl) (fun _ _ _ h => h) (Or.inl ⟨by rfl, ?hy19⟩) hS ?rest19
        case hy19 => (intro ww hSw; (try dsimp only at hSw); go_split_ands; go_simp; try with_reducible rfl)
        try simp only [Act.put, List.setIfInBounds_toArray, List.set_cons_zero, List.set_cons_succ]
        refine wpAnyX_step (k := 11) (by kernel_rfl) rfl rfl (fun K2 hK2 => ?_); go_simp
        refine (impl_SampleAt_ok (twn : Int) (thn : Int) (2 * ra) (2 * rb) A2 d c2 _ zs _ ((OA.out.q HQ2.out).q hS.1).rd (Nat.le_refl _) HZ (by omega) HV).mono ?_; rw [HLW.out]; rintro e wy ⟨rfl, q6⟩
        have qq := hS.1.trans q6
        refine hK2.out _ _ ⟨qq, (ba.q qq).cell, (bb.q qq).cell, (qq.cell gb (of + k) (by omega)).trans hc⟩ (fun hS => ?_)
        clear hK2 K2; (try simp only [Act.put, List.setIfInBounds_toArray, List.set_cons_zero, List.set_cons_succ])
        refine wpAnyX_take (i := 17) (v := ?vv20) rfl (by kernel_rfl) (by kernel_rfl) (by kernel_rfl) (by kernel_rfl) (fun _ _ _ h => h) (Or.inl ⟨by rfl, ?hy20⟩) hS ?rest20
        case hy20 => (intro ww hSw; (try dsimp only at hSw); go_split_ands; go_simp; try with_reducible rfl)
        try simp only [Act.put, List.setIfInBounds_toArray, List.set_cons_zero, List.set_cons_succ]
        refine wpAnyX_done (by kernel_rfl) ?_ _
        have QZ := Lib.hid (HQ2.out.trans qq)
        clear hS qq q6 hc ca cb ba bb t1 t2 x1 x2 x3 x4 hm0 hd0
        go_wp2_with fail
        go_roundw
        case rel => exact ⟨k + 1, by omega, by go_num, QZ.out⟩
        case measure => simp [intOf]; omega
      · have hkm : k = m := by omega
        subst hkm
        have HQ2 := Lib.hid hq
        have b10 : (4 : Int) * (k : Int) = (d : Int) := by have := HL4.out; omega
        have b11 : IntKind.i64.wrap (d : Int) = (d : Int) := IntWalk.i64_in _ ⟨by omega, by omega⟩
        clear hq
        go_wp2_with fail
        refine (impl_PictureValid (twn : Int) (thn : Int) A2 d c2 _ zs true _ (OA.out.q HQ2.out).rd (Nat.le_refl _) HZ (by omega) HV).mono ?_; rintro e wy ⟨rfl, q6⟩
        replace ca := (ba.q q6).cell
        replace cb := (bb.q q6).cell
        have QZ := Lib.hid ((HQ.out.trans HQ2.out).trans q6)
        go_wp2_with fail
        go_ret
        exact ⟨rfl, QZ.out⟩
  · have hP : doubP W H xs = (0, 0, []) := if_neg hok
    have HP := Lib.hid hP
    clear hok hP
    go_wp2_with fail
    refine (impl_DoubleSize _ _ A m c _ xs _ HX.out (by omega) HN hm').mono ?_; rw [HP.out]; dsimp only; rw [List.length_nil]; rintro e wv ⟨v, rfl, o2, q2⟩
    obtain ⟨A2, c2, rfl⟩ := o2.form
    (try replace ba := ba.q q2); (try replace bb := bb.q q2); (try replace bc := bc.q q2); (try replace bd := bd.q q2); (try replace be := be.q q2); (try replace bf := bf.q q2); (try replace oa := oa.q q2); (try replace ob := ob.q q2); (try replace oc := oc.q q2); (try replace od := od.q q2); (try replace oe := oe.q q2); (try replace HX := Lib.hid (HX.out.q q2 (by omega))); (try replace HY := Lib.hid (HY.out.q q2 (by omega))); have sq := q2.size; replace QQ := QQ.trans q2; replace sz := QQ.size; clear q2; (try replace ca := ba.cell); (try replace cb := bb.cell); (try replace cc := bc.cell); (try replace cd := bd.cell); (try replace ce := be.cell); (try replace cf := bf.cell)
    have oa := o2.i
    clear o2
    have sb : (wv.alloc (.cells #[.int .i64 0, .int .i64 0, .slice A2 0 c2] 27)).heap.size = wv.heap.size + 1 := (by simp); have qb : Q wv (wv.alloc (.cells #[.int .i64 0, .int .i64 0, .slice A2 0 c2] 27)) := (Q.refl wv).alloc _; (try replace ba := ba.q qb); (try replace bb := bb.q qb); (try replace bc := bc.q qb); (try replace bd := bd.q qb); (try replace be := be.q qb); (try replace bf := bf.q qb); (try replace oa := oa.q qb); (try replace ob := ob.q qb); (try replace oc := oc.q qb); (try replace od := od.q qb); (try replace oe := oe.q qb); (try replace HX := Lib.hid (HX.out.q qb (by omega))); (try replace HY := Lib.hid (HY.out.q qb (by omega))); have sq := qb.size; replace QQ := QQ.trans qb; replace sz := QQ.size; clear qb; (try replace ca := ba.cell); (try replace cb := bb.cell); (try replace cc := bc.cell); (try replace cd := bd.cell); (try replace ce := be.cell); (try replace cf := bf.cell); have bb := Blk.new wv 27 #[.int .i64 0, .int .i64 0, .slice A2 0 c2]; (try replace ca := ba.cell); (try replace cb := bb.cell); (try replace cc := bc.cell); (try replace cd := bd.cell); (try replace ce := be.cell); (try replace cf := bf.cell)
    obtain ⟨wq, rfl⟩ : ∃ wq, wq = wv := ⟨_, rfl⟩
    go_wp2_with fail
    generalize wq.alloc (.cells #[.int .i64 0, .int .i64 0, .slice A2 0 c2] 27) = wb at HX QQ sz sq sb ba bb ca cb oa ⊢
    refine wp_region_x (fun ww => Q wb ww ∧ (∀ i, ww.cell? ⟨wp.heap.size, i, none⟩ = (#[.int .i64 W, .int .i64 H, .slice A m c] : Array Value)[i]?) ∧ (∀ i, ww.cell? ⟨wq.heap.size, i, none⟩ = (#[.int .i64 0, .int .i64 0, .slice A2 0 c2] : Array Value)[i]?)) (fun _ => false) (by kernel_rfl) ⟨(Q.refl _).drew, ba.cell, bb.cell⟩ (fun hS => ?_)
    refine wpAnyX_take (i := 0) (v := ?vv21) rfl (by kernel_rfl) (by kernel_rfl) (by kernel_rfl) (by kernel_rfl) (fun _ _ _ h => h) (Or.inl ⟨by rfl, ?hy21⟩) hS ?rest21
    case hy21 => (intro ww hSw; (try dsimp only at hSw); go_split_ands; go_simp; try with_reducible rfl)
    try simp only [Act.put, List.setIfInBounds_toArray, List.set_cons_zero, List.set_cons_succ]
    refine wpAnyX_take (i := 1) (v := ?vv22) rfl (by kernel_rfl) (by kernel_rfl) (by kernel_rfl) (by kernel_rfl) (fun _ _ _ h => h) (Or.inl ⟨by rfl, ?hy22⟩) hS ?rest22
    case hy22 => (intro ww hSw; (try dsimp only at hSw); go_split_ands; go_simp; try with_reducible rfl)
    try simp only [Act.put, List.setIfInBounds_toArray, List.set_cons_zero, List.set_cons_succ]
    refine wpAnyX_step (k := 2) (by kernel_rfl) rfl rfl (fun K2 hK2 => ?_); go_simp
    refine (spec_DoubleSize W H A m c _ xs _ (HX.out.q hS.1 (by omega)) (Nat.le_trans (by omega) hS.1.size) HN hm').mono ?_; rw [HP.out]; dsimp only; rw [List.length_nil]; rintro e wz ⟨v, rfl, o3, q3⟩
    obtain ⟨A3, c3, rfl⟩ := o3.form
    have q4 := hS.1.trans q3
    refine hK2.out _ _ ⟨q4, (ba.q q4).cell, (bb.q q4).cell⟩ (fun hS => ?_)
    clear hK2 K2; (try simp only [Act.put, List.setIfInBounds_toArray, List.set_cons_zero, List.set_cons_succ])
    refine wpAnyX_step (k := 3) (by kernel_rfl) rfl rfl (fun K2 hK2 => ?_); go_simp
    refine (samePicture 0 0 0 0 A2 A3 0 0 c2 c3 _ _ [] [] true _ (oa.q q4).rd (Nat.le_refl _) o3.rd (Nat.le_refl _) rfl rfl (by unfold maxLen; omega) (by unfold maxLen; omega) (decide_eq_true ⟨rfl, rfl, rfl⟩)).mono ?_; rintro e wy ⟨rfl, q5⟩
    have qq := q4.trans q5
    refine hK2.out _ _ ⟨qq, (ba.q qq).cell, (bb.q qq).cell⟩ (fun hS => ?_)
    clear hK2 K2; (try simp only [Act.put, List.setIfInBounds_toArray, List.set_cons_zero, List.set_cons_succ])
    refine wpAnyX_take (i := 4) (v := ?vv23) rfl (by kernel_rfl) (by kernel_rfl) (by kernel_rfl) (by kernel_rfl) (fun _ _ _ h => h) (Or.inl ⟨by rfl, ?hy23⟩) hS ?rest23
    case hy23 => (intro ww hSw; (try dsimp only at hSw); go_split_ands; go_simp; try with_reducible rfl)
    try simp only [Act.put, List.setIfInBounds_toArray, List.set_cons_zero, List.set_cons_succ]
    refine wpAnyX_done (by kernel_rfl) ?_ _
    clear hS q3 q4 q5 o3
    obtain ⟨wv, rfl⟩ : ∃ wv, wv = wy := ⟨_, rfl⟩
    (try replace ba := ba.q qq); (try replace bb := bb.q qq); (try replace bc := bc.q qq); (try replace bd := bd.q qq); (try replace be := be.q qq); (try replace bf := bf.q qq); (try replace oa := oa.q qq); (try replace ob := ob.q qq); (try replace oc := oc.q qq); (try replace od := od.q qq); (try replace oe := oe.q qq); (try replace HX := Lib.hid (HX.out.q qq (by omega))); (try replace HY := Lib.hid (HY.out.q qq (by omega))); have sq := qq.size; replace QQ := QQ.trans qq; replace sz := QQ.size; clear qq; (try replace ca := ba.cell); (try replace cb := bb.cell); (try replace cc := bc.cell); (try replace cd := bd.cell); (try replace ce := be.cell); (try replace cf := bf.cell)
    go_wp2_with fail
    refine (alive _).mono ?_; rintro e wv ⟨rfl, q2⟩
    (try replace ba := ba.q q2); (try replace bb := bb.q q2); (try replace bc := bc.q q2); (try replace bd := bd.q q2); (try replace be := be.q q2); (try replace bf := bf.q q2); (try replace oa := oa.q q2); (try replace ob := ob.q q2); (try replace oc := oc.q q2); (try replace od := od.q q2); (try replace oe := oe.q q2); (try replace HX := Lib.hid (HX.out.q q2 (by omega))); (try replace HY := Lib.hid (HY.out.q q2 (by omega))); have sq := q2.size; replace QQ := QQ.trans q2; replace sz := QQ.size; clear q2; (try replace ca := ba.cell); (try replace cb := bb.cell); (try replace cc := bc.cell); (try replace cd := bd.cell); (try replace ce := be.cell); (try replace cf := bf.cell)
    go_wp2_with fail
    go_ret
    exact ⟨rfl, QQ⟩
set_option maxRecDepth 100000 in
theorem lifted_FnDoubleSize (os : Os) (started : os.Started) (H : Type) (enc : TypeId × Value → H) :
    ReturnsInHanded {} Try.checked os 12 .any (Rows.fnDoubleSizeSpec.pre6 enc Try.prog Try.f12 Rows.fnDoubleSizeRow.domain false) (Rows.fnDoubleSizeSpec.post enc Try.prog Try.f12 false true false false) := by
  refine returnsInHanded_of_change (C := Try.checked) own_knob started (by kernel_rfl) Try.func12
    (ChangeSpec.witness6 (enc := enc) (C := Try.checked) false ⟨#[], #[.slice none 0 0], []⟩ 8 (by kernel_rfl) (by kernel_rfl) (by kernel_rfl) (by kernel_rfl)) ?_
  intro W base args ds gs before hval0 hW hcnd _
  have hval : ∀ (j : Nat) t v, Try.f12.params[j]? = some t → args[j]? = some v → Value.okWide Try.prog W .any base t v := hval0
  have hW' := hW
  obtain ⟨p, q, hA0, hV, rfl, hfz, hnd⟩ := hW
  have hA : DataW.TrodAll enc Try.prog W 0 (fun _ => true) true Try.f12.params.toList args.toList ds p := hA0
  rw [Try.params12] at hA hval
  obtain ⟨v0, vs0, d0, ds0, p0, q0, hargs, rfl, rfl, h0, r0⟩ := trodAll_cons hA
  obtain ⟨rfl, rfl, rfl⟩ := trodAll_nil r0
  obtain rfl : args = #[v0] := by cases args; simp_all
  obtain ⟨rfl, rfl⟩ := trodVars_none hV
  have k0 := h0
  have lt0 : ∀ x ∈ p0, x.block < W.heap.size := by obtain ⟨m, hm⟩ := k0; exact DataW.trod_lt m _ _ _ hm
  obtain ⟨x0, o0⟩ := open_bytes (hval 0 38 v0 rfl rfl) h0
  clear hA0 hval0
  refine (walk_FnDoubleSize W v0 x0 o0).mono fun e W' ⟨he, bel⟩ => ?_
  subst he
  exact ⟨_, rfl, _, _, _, [], _, [], hW', trodAll_mk1 (shut_bool Try.underlying4 _), (trodAll_cons_mk (Below.trod laid_out (by kernel_rfl) (of_decide_eq_true (by kernel_rfl)) k0 bel lt0) trodAll_mk0), rfl, bel.frame _, fun h => by cases h⟩

/-- The statement. -/
theorem FnDoubleSize_holds : Rows.FnDoubleSizeSaid :=
  OpenClaim.holds_of_wide 12 Try.f12 rfl rfl rfl rfl rfl rfl rfl ⟨rfl, rfl, rfl, rfl, rfl⟩ rfl rfl rfl rfl rfl (by kernel_rfl) Try.func12 (by kernel_rfl)
    (of_decide_eq_true (by kernel_rfl)) (by unfold Func.isWrapper; first | (rw [if_pos (by decide +kernel)]; kernel_rfl) | (rw [if_neg (by decide +kernel)]; exact ⟨rfl, rfl⟩))
    (fun os started H enc _ => lifted_FnDoubleSize os started H enc)
#print axioms FnDoubleSize_holds
end Go.Proofs.Ytoipcfpbkjanhaa

/-
  FnFadePicture: for every code of at most 1048576 bytes the law returns true: at 0 the fade is the first picture, at 8 the second one; in between all samples are between those of both; exchanging the pictures reverses it; for longer codes the law asks nothing. No condition.
-/
import Derived.Test.YtoipcfpbkjanhaaDrawT
import Derived.Test.YtoipcfpbkjanhaaDrawU
import Derived.Test.YtoipcfpbkjanhaaFadeA
import Derived.Test.YtoipcfpbkjanhaaSameP
import Derived.Test.YtoipcfpbkjanhaaPict
import Derived.Test.YtoipcfpbkjanhaaAbs
import Derived.Test.YtoipcfpbkjanhaaCarry
namespace Go.Proofs.Ytoipcfpbkjanhaa
open Go.ChangeShapes Go.WideShapes Go.ChangeAt Go.RowKit

theorem fade_mid {t x y : Int} (t1 : 0 ≤ t) (t2 : t ≤ 8) : min x y ≤ fadeAt t x y ∧ fadeAt t x y ≤ max x y := by
  unfold fadeAt
  rcases (by omega : t = 0 ∨ t = 1 ∨ t = 2 ∨ t = 3 ∨ t = 4 ∨ t = 5 ∨ t = 6 ∨ t = 7 ∨ t = 8) with rfl | rfl | rfl | rfl | rfl | rfl | rfl | rfl | rfl
  all_goals omega
theorem fade_swap (t x y : Int) : fadeAt (8 - t) y x = fadeAt t x y := by
  unfold fadeAt
  rw [show (8 : Int) - (8 - t) = t by omega, Int.add_comm (t * y)]
theorem fadeL_swap (t : Int) (xs ys : List Int) (h : xs.length = ys.length) : fadeL (8 - t) ys xs = fadeL t xs ys := by
  apply List.ext_getElem?
  intro i
  rcases Nat.lt_or_ge i xs.length with hi | hi
  · have a := fadeL_get (8 - t) ys xs i (by omega) hi
    have b := fadeL_get t xs ys i hi (by omega)
    rw [fade_swap] at a
    have la := fadeL_len (8 - t) ys xs h.symm
    have lb := fadeL_len t xs ys h
    rw [List.getElem?_eq_getElem (by omega)] at a ⊢
    rw [List.getElem?_eq_getElem (by omega)] at b ⊢
    simp only [Option.getD_some] at a b
    rw [a, b]
  · rw [List.getElem?_eq_none (by rw [fadeL_len _ _ _ h.symm]; omega), List.getElem?_eq_none (by rw [fadeL_len _ _ _ h]; exact hi)]
theorem fadeL_zero (xs ys : List Int) (h : xs.length = ys.length) : fadeL 0 xs ys = xs := by
  apply List.ext_getElem?
  intro i
  rcases Nat.lt_or_ge i xs.length with hi | hi
  · have b := fadeL_get 0 xs ys i hi (by omega)
    have lb := fadeL_len 0 xs ys h
    have e : ∀ x y : Int, fadeAt 0 x y = x := fun x y => by unfold fadeAt; omega
    rw [e, List.getElem?_eq_getElem (by omega), List.getElem?_eq_getElem hi] at b
    rw [List.getElem?_eq_getElem (by omega), List.getElem?_eq_getElem hi]
    simpa using b
  · rw [List.getElem?_eq_none (by rw [fadeL_len _ _ _ h]; exact hi), List.getElem?_eq_none hi]
theorem fadeL_eight (xs ys : List Int) (h : xs.length = ys.length) : fadeL 8 xs ys = ys := by
  have := fadeL_swap 8 xs ys h
  rw [← this]
  exact fadeL_zero ys xs h.symm
theorem sameB_swap {W H W' H' : Int} {xs ys : List Int} (h : sameB W H xs W' H' ys = true) : sameB W' H' ys W H xs = true := by
  unfold sameB at h ⊢
  simp only [Bool.and_eq_true, decide_eq_true_eq] at h ⊢
  exact ⟨h.2.1, h.1, h.2.2.1.symm, h.2.2.2.symm⟩

set_option maxRecDepth 100000 in
set_option maxHeartbeats 8000000 in
theorem walk_FnFadePicture (w : World) (v0 : Value) (x0 : Option Addr × Nat × List Int) (h0 : ArgBytes w v0 x0) :
    Calls Try.prog 10 #[v0] w fun e w' => e = .returned (.bool true) ∧ Q w w' := by
  have hv := h0.1; have hm := h0.2.2.1; unfold maxLen at hm; generalize hn : x0.2.2.length = nn at hv hm; have HN := Lib.hid hn; clear hn; by_cases hbig : 1048576 < nn; (subst hv; go_enter Try.func10, Try.ntmps10; go_wp2_with fail; go_ret; exact ⟨rfl, Q.refl _⟩); have H0 : ArgBytes w (.slice x0.1 nn x0.2.1) x0 := (by rw [hv] at h0; exact h0); subst hv; clear h0; go_enter Try.func10, Try.ntmps10; go_wp2_with fail
  refine (DrawFadePicture _ _ _ H0).mono ?_; rintro e wv ⟨W, H, W', H', A, A', m, c, m', c', xs, ys, t, rfl, ox, oy, ⟨l1, l2⟩, ⟨l3, l4⟩, ⟨t1, t2⟩, QQ⟩
  have HN : Hid (xs.length = m) := l1
  have HN' : Hid (ys.length = m') := l3
  have sz := QQ.size
  have HX := Lib.hid ox.rd
  have HY := Lib.hid oy.rd
  clear ox oy l1 l3 H0
  have hm1 : m ≤ 9223372036854775807 := by omega
  have hm2 : m' ≤ 9223372036854775807 := by omega
  have hmx : m ≤ maxLen := by unfold maxLen; omega
  have hmy : m' ≤ maxLen := by unfold maxLen; omega
  generalize hB0 : wv.heap.size = B0 at HX HY
  replace hB0 : B0 ≤ wv.heap.size := by omega
  have qz : Q wv ((wv.alloc (.cells #[.int .i64 W, .int .i64 H, .slice A m c] 27)).alloc (.cells #[.int .i64 W', .int .i64 H', .slice A' m' c'] 27)) := (by repeat (first | exact Q.refl _ | assumption | refine Q.drewN ?_ _ | refine Q.drew ?_ | refine Q.alloc ?_ _ | refine Q.trans ?_ (by assumption) | refine Q.set ?_ (by first | exact Nat.le_refl _ | omega | (simp; done) | (simp; omega)) _))
  have ba := (Blk.new wv 27 #[.int .i64 W, .int .i64 H, .slice A m c]).alloc (.cells #[.int .i64 W', .int .i64 H', .slice A' m' c'] 27)
  have bb := Blk.new (wv.alloc (.cells #[.int .i64 W, .int .i64 H, .slice A m c] 27)) 27 #[.int .i64 W', .int .i64 H', .slice A' m' c']
  rw [World.size_alloc] at bb
  have HXX := Lib.hid (HX.out.q qz (by omega))
  have HYY := Lib.hid (HY.out.q qz (by omega))
  have s2 : ((wv.alloc (.cells #[.int .i64 W, .int .i64 H, .slice A m c] 27)).alloc (.cells #[.int .i64 W', .int .i64 H', .slice A' m' c'] 27)).heap.size = wv.heap.size + 2 := by simp
  replace QQ := QQ.trans qz
  clear qz HX HY
  have HX := HXX
  have HY := HYY
  clear HXX HYY
  obtain ⟨wp, rfl⟩ : ∃ wp, wp = wv := ⟨_, rfl⟩
  have ca := ba.cell
  have cb := bb.cell
  by_cases hok : sameB W H xs W' H' ys = true ∧ 0 ≤ t ∧ t ≤ 8
  · obtain ⟨hs, tt1, tt2⟩ := hok
    have hs' := sameB_swap hs
    obtain ⟨rfl, rfl, hll, hl64, _, pa, pb⟩ := same_parts hs
    obtain rfl : m' = m := by rw [← HN.out, ← HN'.out, hll]
    have hP : fadeP t W' H' xs W' H' ys = (W', H', fadeL t xs ys) := by rw [fadeP, if_pos ⟨hs, tt1, tt2⟩]
    have hP2 : fadeP (8 - t) W' H' ys W' H' xs = (W', H', fadeL t xs ys) := by rw [fadeP, if_pos ⟨hs', by omega, by omega⟩, fadeL_swap t xs ys hll]
    have hP3 : fadeP 0 W' H' xs W' H' ys = (W', H', xs) := by rw [fadeP, if_pos ⟨hs, by omega, by omega⟩, fadeL_zero xs ys hll]
    have hP4 : fadeP 8 W' H' xs W' H' ys = (W', H', ys) := by rw [fadeP, if_pos ⟨hs, by omega, by omega⟩, fadeL_eight xs ys hll]
    have PA := Lib.hid (allB_get pa)
    have PB := Lib.hid (allB_get pb)
    have FG := Lib.hid (fun k h1 h2 => fadeL_get t xs ys k h1 h2)
    have HL : Hid ((fadeL t xs ys).length = m') := (fadeL_len t xs ys hll).trans HN.out
    have HP := Lib.hid hP
    have HP2 := Lib.hid hP2
    have HP3 := Lib.hid hP3
    have HP4 := Lib.hid hP4
    have m64 : 64 ≤ m' := by rw [← HN.out]; exact hl64
    generalize fadeL t xs ys = fs at FG HL HP HP2
    clear hP hP2 hP3 hP4 pa pb hs hs' hll hl64
    have hdz : ((m' : Int) == 0) = false := by rw [beq_eq_false_iff_ne]; omega
    go_wp2_with fail
    generalize (wp.alloc (.cells #[.int .i64 W', .int .i64 H', .slice A m' c] 27)).alloc (.cells #[.int .i64 W', .int .i64 H', .slice A' m' c'] 27) = wv at ba bb HX HY QQ s2 ca cb sz ⊢
    replace sz := QQ.size
    refine (impl_Fade W' H' W' H' t A A' m' m' c c' _ _ xs ys _ HX.out (by omega) HY.out (by omega) HN HN' hm1 hm2).mono ?_; rw [HP.out]; dsimp only; rw [HL.out]; rintro e wv ⟨v, rfl, o2, q2⟩
    obtain ⟨A2, c2, rfl⟩ := o2.form
    (try replace ba := ba.q q2); (try replace bb := bb.q q2); (try replace bc := bc.q q2); (try replace bd := bd.q q2); (try replace be := be.q q2); (try replace bf := bf.q q2); (try replace oa := oa.q q2); (try replace ob := ob.q q2); (try replace oc := oc.q q2); (try replace od := od.q q2); (try replace oe := oe.q q2); (try replace HX := Lib.hid (HX.out.q q2 (by omega))); (try replace HY := Lib.hid (HY.out.q q2 (by omega))); have sq := q2.size; replace QQ := QQ.trans q2; replace sz := QQ.size; clear q2; (try replace ca := ba.cell); (try replace cb := bb.cell); (try replace cc := bc.cell); (try replace cd := bd.cell); (try replace ce := be.cell); (try replace cf := bf.cell)
    have oa := o2.i
    clear o2
    have sb : (wv.alloc (.cells #[.int .i64 W', .int .i64 H', .slice A2 m' c2] 27)).heap.size = wv.heap.size + 1 := (by simp); have qb : Q wv (wv.alloc (.cells #[.int .i64 W', .int .i64 H', .slice A2 m' c2] 27)) := (Q.refl wv).alloc _; (try replace ba := ba.q qb); (try replace bb := bb.q qb); (try replace bc := bc.q qb); (try replace bd := bd.q qb); (try replace be := be.q qb); (try replace bf := bf.q qb); (try replace oa := oa.q qb); (try replace ob := ob.q qb); (try replace oc := oc.q qb); (try replace od := od.q qb); (try replace oe := oe.q qb); (try replace HX := Lib.hid (HX.out.q qb (by omega))); (try replace HY := Lib.hid (HY.out.q qb (by omega))); have sq := qb.size; replace QQ := QQ.trans qb; replace sz := QQ.size; clear qb; (try replace ca := ba.cell); (try replace cb := bb.cell); (try replace cc := bc.cell); (try replace cd := bd.cell); (try replace ce := be.cell); (try replace cf := bf.cell); have bc := Blk.new wv 27 #[.int .i64 W', .int .i64 H', .slice A2 m' c2]; (try replace ca := ba.cell); (try replace cb := bb.cell); (try replace cc := bc.cell); (try replace cd := bd.cell); (try replace ce := be.cell); (try replace cf := bf.cell)
    obtain ⟨wk, rfl⟩ : ∃ wk, wk = wv := ⟨_, rfl⟩
    go_wp2_with fail
    generalize wk.alloc (.cells #[.int .i64 W', .int .i64 H', .slice A2 m' c2] 27) = wb at HX HY QQ sz sq sb ba bb bc ca cb cc oa ⊢
    refine wp_region_x (fun ww => Q wb ww ∧ (∀ i, ww.cell? ⟨wp.heap.size, i, none⟩ = (#[.int .i64 W', .int .i64 H', .slice A m' c] : Array Value)[i]?) ∧ (∀ i, ww.cell? ⟨wp.heap.size + 1, i, none⟩ = (#[.int .i64 W', .int .i64 H', .slice A' m' c'] : Array Value)[i]?) ∧ (∀ i, ww.cell? ⟨wk.heap.size, i, none⟩ = (#[.int .i64 W', .int .i64 H', .slice A2 m' c2] : Array Value)[i]?)) (fun _ => false) (by kernel_rfl) ⟨(Q.refl _).drew, ba.cell, bb.cell, bc.cell⟩ (fun hS => ?_)
    refine wpAnyX_take (i := 0) (v := ?vv1) rfl (by kernel_rfl) (by kernel_rfl) (by kernel_rfl) (by kernel_rfl) (fun _ _ _ h => h) (Or.inl ⟨by rfl, ?hy1⟩) hS ?rest1
    case hy1 => (intro ww hSw; (try dsimp only at hSw); go_split_ands; go_simp; try with_reducible rfl)
    try simp only [Act.put, List.setIfInBounds_toArray, List.set_cons_zero, List.set_cons_succ]
    refine wpAnyX_take (i := 1) (v := ?vv2) rfl (by kernel_rfl) (by kernel_rfl) (by kernel_rfl) (by kernel_rfl) (fun _ _ _ h => h) (Or.inl ⟨by rfl, ?hy2⟩) hS ?rest2
    case hy2 => (intro ww hSw; (try dsimp only at hSw); go_split_ands; go_simp; try with_reducible rfl)
    try simp only [Act.put, List.setIfInBounds_toArray, List.set_cons_zero, List.set_cons_succ]
    refine wpAnyX_take (i := 2) (v := ?vv3) rfl (by kernel_rfl) (by kernel_rfl) (by kernel_rfl) (by kernel_rfl) (fun _ _ _ h => h) (Or.inl ⟨by rfl, ?hy3⟩) hS ?rest3
    case hy3 => (intro ww hSw; (try dsimp only at hSw); go_split_ands; go_simp; try with_reducible rfl)
    try simp only [Act.put, List.setIfInBounds_toArray, List.set_cons_zero, List.set_cons_succ]
    refine wpAnyX_take (i := 3) (v := ?vv4) rfl (by kernel_rfl) (by kernel_rfl) (by kernel_rfl) (by kernel_rfl) (fun _ _ _ h => h) (Or.inl ⟨by rfl, ?hy4⟩) hS ?rest4
    case hy4 => (intro ww hSw; (try dsimp only at hSw); go_split_ands; go_simp; try with_reducible rfl)
    try simp only [Act.put, List.setIfInBounds_toArray, List.set_cons_zero, List.set_cons_succ]
    refine wpAnyX_step (k := 4) (by kernel_rfl) rfl rfl (fun K2 hK2 => ?_); go_simp
    refine (spec_Fade W' H' W' H' t A A' m' m' c c' _ _ xs ys _ (HX.out.q hS.1 (by omega)) (Nat.le_trans (by omega) hS.1.size) (HY.out.q hS.1 (by omega)) (Nat.le_trans (by omega) hS.1.size) HN HN' hm1 hm2).mono ?_; rw [HP.out]; dsimp only; rw [HL.out]; rintro e wz ⟨v, rfl, o3, q3⟩
    obtain ⟨A3, c3, rfl⟩ := o3.form
    have q4 := hS.1.trans q3
    refine hK2.out _ _ ⟨q4, (ba.q q4).cell, (bb.q q4).cell, (bc.q q4).cell⟩ (fun hS => ?_)
    clear hK2 K2; (try simp only [Act.put, List.setIfInBounds_toArray, List.set_cons_zero, List.set_cons_succ])
    refine wpAnyX_step (k := 5) (by kernel_rfl) rfl rfl (fun K2 hK2 => ?_); go_simp
    refine (samePicture W' H' W' H' A2 A3 m' m' c2 c3 _ _ fs fs true _ (oa.q q4).rd (Nat.le_refl _) o3.rd (Nat.le_refl _) HL HL hmx hmx (decide_eq_true ⟨rfl, rfl, rfl⟩)).mono ?_; rintro e wy ⟨rfl, q5⟩
    have qq := q4.trans q5
    refine hK2.out _ _ ⟨qq, (ba.q qq).cell, (bb.q qq).cell, (bc.q qq).cell⟩ (fun hS => ?_)
    clear hK2 K2; (try simp only [Act.put, List.setIfInBounds_toArray, List.set_cons_zero, List.set_cons_succ])
    refine wpAnyX_take (i := 6) (v := ?vv5) rfl (by kernel_rfl) (by kernel_rfl) (by kernel_rfl) (by kernel_rfl) (fun _ _ _ h => h) (Or.inl ⟨by rfl, ?hy5⟩) hS ?rest5
    case hy5 => (intro ww hSw; (try dsimp only at hSw); go_split_ands; go_simp; try with_reducible rfl)
    try simp only [Act.put, List.setIfInBounds_toArray, List.set_cons_zero, List.set_cons_succ]
    refine wpAnyX_done (by kernel_rfl) ?_ _
    clear hS q3 q4 q5 o3
    obtain ⟨wv, rfl⟩ : ∃ wv, wv = wy := ⟨_, rfl⟩
    (try replace ba := ba.q qq); (try replace bb := bb.q qq); (try replace bc := bc.q qq); (try replace bd := bd.q qq); (try replace be := be.q qq); (try replace bf := bf.q qq); (try replace oa := oa.q qq); (try replace ob := ob.q qq); (try replace oc := oc.q qq); (try replace od := od.q qq); (try replace oe := oe.q qq); (try replace HX := Lib.hid (HX.out.q qq (by omega))); (try replace HY := Lib.hid (HY.out.q qq (by omega))); have sq := qq.size; replace QQ := QQ.trans qq; replace sz := QQ.size; clear qq; (try replace ca := ba.cell); (try replace cb := bb.cell); (try replace cc := bc.cell); (try replace cd := bd.cell); (try replace ce := be.cell); (try replace cf := bf.cell)
    have w8 : IntKind.i64.wrap (8 - t) = 8 - t := IntWalk.i64_in _ ⟨by omega, by omega⟩
    go_wp2_with fail
    refine (impl_Fade W' H' W' H' (8 - t) A' A m' m' c' c _ _ ys xs _ HY.out (by omega) HX.out (by omega) HN' HN hm2 hm1).mono ?_; rw [HP2.out]; dsimp only; rw [HL.out]; rintro e wv ⟨v, rfl, o4, q6⟩
    obtain ⟨A4, c4, rfl⟩ := o4.form
    (try replace ba := ba.q q6); (try replace bb := bb.q q6); (try replace bc := bc.q q6); (try replace bd := bd.q q6); (try replace be := be.q q6); (try replace bf := bf.q q6); (try replace oa := oa.q q6); (try replace ob := ob.q q6); (try replace oc := oc.q q6); (try replace od := od.q q6); (try replace oe := oe.q q6); (try replace HX := Lib.hid (HX.out.q q6 (by omega))); (try replace HY := Lib.hid (HY.out.q q6 (by omega))); have sq := q6.size; replace QQ := QQ.trans q6; replace sz := QQ.size; clear q6; (try replace ca := ba.cell); (try replace cb := bb.cell); (try replace cc := bc.cell); (try replace cd := bd.cell); (try replace ce := be.cell); (try replace cf := bf.cell)
    have ob := o4.i
    clear o4
    have sb : (wv.alloc (.cells #[.int .i64 W', .int .i64 H', .slice A4 m' c4] 27)).heap.size = wv.heap.size + 1 := (by simp); have qb : Q wv (wv.alloc (.cells #[.int .i64 W', .int .i64 H', .slice A4 m' c4] 27)) := (Q.refl wv).alloc _; (try replace ba := ba.q qb); (try replace bb := bb.q qb); (try replace bc := bc.q qb); (try replace bd := bd.q qb); (try replace be := be.q qb); (try replace bf := bf.q qb); (try replace oa := oa.q qb); (try replace ob := ob.q qb); (try replace oc := oc.q qb); (try replace od := od.q qb); (try replace oe := oe.q qb); (try replace HX := Lib.hid (HX.out.q qb (by omega))); (try replace HY := Lib.hid (HY.out.q qb (by omega))); have sq := qb.size; replace QQ := QQ.trans qb; replace sz := QQ.size; clear qb; (try replace ca := ba.cell); (try replace cb := bb.cell); (try replace cc := bc.cell); (try replace cd := bd.cell); (try replace ce := be.cell); (try replace cf := bf.cell); have bd := Blk.new wv 27 #[.int .i64 W', .int .i64 H', .slice A4 m' c4]; (try replace ca := ba.cell); (try replace cb := bb.cell); (try replace cc := bc.cell); (try replace cd := bd.cell); (try replace ce := be.cell); (try replace cf := bf.cell)
    obtain ⟨ws, rfl⟩ : ∃ ws, ws = wv := ⟨_, rfl⟩
    go_wp2_with fail
    generalize ws.alloc (.cells #[.int .i64 W', .int .i64 H', .slice A4 m' c4] 27) = wd at HX HY QQ sz sq sb ba bb bc bd ca cb cc cd oa ob ⊢
    obtain ⟨gx, ofx, rfl, hbx, hcx⟩ := HX.out (by have := HN.out; omega)
    obtain ⟨gy, ofy, rfl, hby, hcy⟩ := HY.out (by have := HN'.out; omega)
    obtain ⟨g2, c2', hA2, _, _⟩ := own_parts oa.1 (by omega)
    obtain rfl : A2 = some ⟨g2, 0, none⟩ := by injection hA2
    obtain ⟨g4, c4', hA4, _, _⟩ := own_parts ob.1 (by omega)
    obtain rfl : A4 = some ⟨g4, 0, none⟩ := by injection hA4
    have HCX := Lib.hid hcx
    have HCY := Lib.hid hcy
    have OA := Lib.hid oa
    have OB := Lib.hid ob
    have BA := Lib.hid ba
    have BB := Lib.hid bb
    have BC := Lib.hid bc
    have BD := Lib.hid bd
    have HQ := Lib.hid QQ
    have hbs : B0 ≤ wd.heap.size := by omega
    clear hcx hcy oa ob ba bb bc bd ca cb cc cd QQ hA2 hA4
    go_loopw [8] (fun i wr => ∃ k : Nat, k ≤ m' ∧ i = .int .i64 k ∧ Hid (Q wd wr)) (fun i _ => m' - (intOf i).toNat)
    case atStart => exact ⟨0, by omega, rfl, Q.refl _⟩
    case round =>
      obtain ⟨k, hk, rfl, hq⟩ := hrel
      have ca := (BA.out.q hq.out).cell
      have cb := (BB.out.q hq.out).cell
      have cc := (BC.out.q hq.out).cell
      have cd := (BD.out.q hq.out).cell
      by_cases hlt : k < m'
      · have hkm : (k : Int) < (m' : Int) := by omega
        have e1 := (hq.out.cell gx (ofx + k) (by omega)).trans (HCX.out k (by rw [HN.out]; exact hlt))
        have e2 := (hq.out.cell gy (ofy + k) (by omega)).trans (HCY.out k (by rw [HN'.out]; exact hlt))
        have e3 := ((OA.out.q hq.out).1).at k hlt
        have e4 := ((OB.out.q hq.out).1).at k hlt
        obtain ⟨x1, x2⟩ := PA.out k (by rw [HN.out]; exact hlt)
        obtain ⟨y1, y2⟩ := PB.out k (by rw [HN'.out]; exact hlt)
        have hf := FG.out k (by rw [HN.out]; exact hlt) (by rw [HN'.out]; exact hlt)
        rw [hf] at e3 e4
        obtain ⟨f1, f2⟩ := fade_mid (x := xs[k]?.getD 0) (y := ys[k]?.getD 0) tt1 tt2
        generalize xs[k]?.getD 0 = x at e1 e3 e4 x1 x2 f1 f2
        generalize ys[k]?.getD 0 = y at e2 e3 e4 y1 y2 f1 f2
        generalize fadeAt t x y = f at e3 e4 f1 f2
        clear hf
        have w00 : IntKind.i64.wrap 0 = 0 := rfl
        have hmin : decide (f < if y < x then y else x) = false := decide_eq_false (by split <;> omega)
        have hmx1 : decide ((if x < y then y else x) < f) = false := decide_eq_false (by split <;> omega)
        have hmx2 : decide ((if y < x then x else y) < f) = false := decide_eq_false (by split <;> omega)
        have HQ0 := Lib.hid hq.out
        clear f1 f2 hq
        go_wp2_with fail
        refine wp_region_x (fun ww => (∀ i, ww.cell? ⟨wp.heap.size, i, none⟩ = (#[.int .i64 W', .int .i64 H', .slice (some ⟨gx, ofx, none⟩) m' c] : Array Value)[i]?) ∧ (∀ i, ww.cell? ⟨wp.heap.size + 1, i, none⟩ = (#[.int .i64 W', .int .i64 H', .slice (some ⟨gy, ofy, none⟩) m' c'] : Array Value)[i]?) ∧ (∀ i, ww.cell? ⟨wk.heap.size, i, none⟩ = (#[.int .i64 W', .int .i64 H', .slice (some ⟨g2, 0, none⟩) m' c2] : Array Value)[i]?) ∧ (∀ i, ww.cell? ⟨ws.heap.size, i, none⟩ = (#[.int .i64 W', .int .i64 H', .slice (some ⟨g4, 0, none⟩) m' c4] : Array Value)[i]?) ∧ ww.cell? ⟨gx, ofx + k, none⟩ = some (.int .i64 x) ∧ ww.cell? ⟨gy, ofy + k, none⟩ = some (.int .i64 y) ∧ ww.cell? ⟨g2, k, none⟩ = some (.int .i64 f) ∧ ww.cell? ⟨g4, k, none⟩ = some (.int .i64 f)) (fun _ => false) (by kernel_rfl) ⟨ca, cb, cc, cd, e1, e2, e3, e4⟩ (fun hS => ?_)
        refine wpAnyX_take (i := 0) (v := ?vv6) rfl (by kernel_rfl) (by kernel_rfl) (by kernel_rfl) (by kernel_rfl) (fun _ _ _ h => h) (Or.inl ⟨by rfl, ?hy6⟩) hS ?rest6
        case hy6 => (intro ww hSw; (try dsimp only at hSw); go_split_ands; go_simp; try with_reducible rfl)
        try simp only [Act.put, List.setIfInBounds_toArray, List.set_cons_zero, List.set_cons_succ]
        refine wpAnyX_take (i := 1) (v := ?vv7) rfl (by kernel_rfl) (by kernel_rfl) (by kernel_rfl) (by kernel_rfl) (fun _ _ _ h => h) (Or.inl ⟨by rfl, ?hy7⟩) hS ?rest7
        case hy7 => (intro ww hSw; (try dsimp only at hSw); go_split_ands; go_simp; try with_reducible rfl)
        try simp only [Act.put, List.setIfInBounds_toArray, List.set_cons_zero, List.set_cons_succ]
        refine wpAnyX_take (i := 2) (v := ?vv8) rfl (by kernel_rfl) (by kernel_rfl) (by kernel_rfl) (by kernel_rfl) (fun _ _ _ h => h) (Or.inl ⟨by rfl, ?hy8⟩) hS ?rest8
        case hy8 => (intro ww hSw; (try dsimp only at hSw); go_split_ands; go_simp; try with_reducible rfl)
        try simp only [Act.put, List.setIfInBounds_toArray, List.set_cons_zero, List.set_cons_succ]
        refine wpAnyX_take (i := 3) (v := ?vv9) rfl (by kernel_rfl) (by kernel_rfl) (by kernel_rfl) (by kernel_rfl) (fun _ _ _ h => h) (Or.inl ⟨by rfl, ?hy9⟩) hS ?rest9
        case hy9 => (intro ww hSw; (try dsimp only at hSw); go_split_ands; go_simp; try with_reducible rfl)
        try simp only [Act.put, List.setIfInBounds_toArray, List.set_cons_zero, List.set_cons_succ]
        refine wpAnyX_take (i := 4) (v := ?vv10) rfl (by kernel_rfl) (by kernel_rfl) (by kernel_rfl) (by kernel_rfl) (fun _ _ _ h => h) (Or.inl ⟨by rfl, ?hy10⟩) hS ?rest10
        case hy10 => (intro ww hSw; (try dsimp only at hSw); go_split_ands; go_simp; try with_reducible rfl)
        try simp only [Act.put, List.setIfInBounds_toArray, List.set_cons_zero, List.set_cons_succ]
        refine wpAnyX_take (i := 5) (v := ?vv11) rfl (by kernel_rfl) (by kernel_rfl) (by kernel_rfl) (by kernel_rfl) (fun _ _ _ h => h) (Or.inl ⟨by rfl, ?hy11⟩) hS ?rest11
        case hy11 => (intro ww hSw; (try dsimp only at hSw); go_split_ands; go_simp; try with_reducible rfl)
        try simp only [Act.put, List.setIfInBounds_toArray, List.set_cons_zero, List.set_cons_succ]
        refine wpAnyX_take (i := 6) (v := ?vv12) rfl (by kernel_rfl) (by kernel_rfl) (by kernel_rfl) (by kernel_rfl) (fun _ _ _ h => h) (Or.inl ⟨by rfl, ?hy12⟩) hS ?rest12
        case hy12 => (intro ww hSw; (try dsimp only at hSw); go_split_ands; go_simp; try with_reducible rfl)
        try simp only [Act.put, List.setIfInBounds_toArray, List.set_cons_zero, List.set_cons_succ]
        refine wpAnyX_take (i := 7) (v := ?vv13) rfl (by kernel_rfl) (by kernel_rfl) (by kernel_rfl) (by kernel_rfl) (fun _ _ _ h => h) (Or.inl ⟨by rfl, ?hy13⟩) hS ?rest13
        case hy13 => (intro ww hSw; (try dsimp only at hSw); go_split_ands; go_simp; try with_reducible rfl)
        try simp only [Act.put, List.setIfInBounds_toArray, List.set_cons_zero, List.set_cons_succ]
        refine wpAnyX_take (i := 8) (v := ?vv14) rfl (by kernel_rfl) (by kernel_rfl) (by kernel_rfl) (by kernel_rfl) (fun _ _ _ h => h) (Or.inl ⟨by rfl, ?hy14⟩) hS ?rest14
        case hy14 => (intro ww hSw; (try dsimp only at hSw); go_split_ands; go_simp; try with_reducible rfl)
        try simp only [Act.put, List.setIfInBounds_toArray, List.set_cons_zero, List.set_cons_succ]
        refine wpAnyX_take (i := 9) (v := ?vv15) rfl (by kernel_rfl) (by kernel_rfl) (by kernel_rfl) (by kernel_rfl) (fun _ _ _ h => h) (Or.inl ⟨by rfl, ?hy15⟩) hS ?rest15
        case hy15 => (intro ww hSw; (try dsimp only at hSw); go_split_ands; go_simp; try with_reducible rfl)
        try simp only [Act.put, List.setIfInBounds_toArray, List.set_cons_zero, List.set_cons_succ]
        refine wpAnyX_take (i := 10) (v := ?vv16) rfl (by kernel_rfl) (by kernel_rfl) (by kernel_rfl) (by kernel_rfl) (fun _ _ _ h => h) (Or.inl ⟨by rfl, ?hy16⟩) hS ?rest16
        case hy16 => (intro ww hSw; (try dsimp only at hSw); go_split_ands; go_simp; try with_reducible rfl)
        try simp only [Act.put, List.setIfInBounds_toArray, List.set_cons_zero, List.set_cons_succ]
        refine wpAnyX_take (i := 11) (v := ?vv17) rfl (by kernel_rfl) (by kernel_rfl) (by kernel_rfl) (by kernel_rfl) (fun _ _ _ h => h) (Or.inl ⟨by rfl, ?hy17⟩) hS ?rest17
        case hy17 => (intro ww hSw; (try dsimp only at hSw); go_split_ands; go_simp; try with_reducible rfl)
        try simp only [Act.put, List.setIfInBounds_toArray, List.set_cons_zero, List.set_cons_succ]
        refine wpAnyX_take (i := 12) (v := ?vv18) rfl (by kernel_rfl) (by kernel_rfl) (by kernel_rfl) (by kernel_rfl) (fun _ _ _ h => h) (Or.inl ⟨by rfl, ?hy18⟩) hS ?rest18
        case hy18 => (intro ww hSw; (try dsimp only at hSw); go_split_ands; go_simp; try with_reducible rfl)
        try simp only [Act.put, List.setIfInBounds_toArray, List.set_cons_zero, List.set_cons_succ]
        refine wpAnyX_take (i := 13) (v := ?vv19) rfl (by kernel_rfl) (by kernel_rfl) (by kernel_rfl) (by kernel_rfl) (fun _ _ _ h => h) (Or.inl ⟨by rfl, ?hy19⟩) hS ?rest19
        case hy19 => (intro ww hSw; (try dsimp only at hSw); go_split_ands; go_simp; try with_reducible rfl)
        try simp only [Act.put, List.setIfInBounds_toArray, List.set_cons_zero, List.set_cons_succ]
        refine wpAnyX_take (i := 14) (v := ?vv20) rfl (by kernel_rfl) (by kernel_rfl) (by kernel_rfl) (by kernel_rfl) (fun _ _ _ h => h) (Or.inl ⟨by rfl, ?hy20⟩) hS ?rest20
        case hy20 => (intro ww hSw; (try dsimp only at hSw); go_split_ands; go_simp; try with_reducible rfl)
        try simp only [Act.put, List.setIfInBounds_toArray, List.set_cons_zero, List.set_cons_succ]
        refine wpAnyX_take (i := 15) (v := ?vv21) rfl (by kernel_rfl) (by kernel_rfl) (by kernel_rfl) (by kernel_rfl) (fun _ _ _ h => h) (Or.inl ⟨by rfl, ?hy21⟩) hS ?rest21
        case hy21 => (intro ww hSw; (try dsimp only at hSw); go_split_ands; go_simp; try with_reducible rfl)
        try simp only [Act.put, List.setIfInBounds_toArray, List.set_cons_zero, List.set_cons_succ]
        refine wpAnyX_take (i := 16) (v := ?vv22) rfl (by kernel_rfl) (by kernel_rfl) (by kernel_rfl) (by kernel_rfl) (fun _ _ _ h => h) (Or.inl ⟨by rfl, ?hy22⟩) hS ?rest22
        case hy22 => (intro ww hSw; (try dsimp only at hSw); go_split_ands; go_simp; try with_reducible rfl)
        try simp only [Act.put, List.setIfInBounds_toArray, List.set_cons_zero, List.set_cons_succ]
        refine wpAnyX_take (i := 17) (v := ?vv23) rfl (by kernel_rfl) (by kernel_rfl) (by kernel_rfl) (by kernel_rfl) (fun _ _ _ h => h) (Or.inl ⟨by rfl, ?hy23⟩) hS ?rest23
        case hy23 => (intro ww hSw; (try dsimp only at hSw); go_split_ands; go_simp; try with_reducible rfl)
        try simp only [Act.put, List.setIfInBounds_toArray, List.set_cons_zero, List.set_cons_succ]
        refine wpAnyX_take (i := 18) (v := ?vv24) rfl (by kernel_rfl) (by kernel_rfl) (by kernel_rfl) (by kernel_rfl) (fun _ _ _ h => h) (Or.inl ⟨by rfl, ?hy24⟩) hS ?rest24
        case hy24 => (intro ww hSw; (try dsimp only at hSw); go_split_ands; go_simp; try with_reducible rfl)
        try simp only [Act.put, List.setIfInBounds_toArray, List.set_cons_zero, List.set_cons_succ]
        refine wpAnyX_take (i := 19) (v := ?vv25) rfl (by kernel_rfl) (by kernel_rfl) (by kernel_rfl) (by kernel_rfl) (fun _ _ _ h => h) (Or.inl ⟨by rfl, ?hy25⟩) hS ?rest25
        case hy25 => (intro ww hSw; (try dsimp only at hSw); go_split_ands; go_simp; try with_reducible rfl)
        try simp only [Act.put, List.setIfInBounds_toArray, List.set_cons_zero, List.set_cons_succ]
        refine wpAnyX_take (i := 20) (v := ?vv26) rfl (by kernel_rfl) (by kernel_rfl) (by kernel_rfl) (by kernel_rfl) (fun _ _ _ h => h) (Or.inl ⟨by rfl, ?hy26⟩) hS ?rest26
        case hy26 => (intro ww hSw; (try dsimp only at hSw); go_split_ands; go_simp; try with_reducible rfl)
        try simp only [Act.put, List.setIfInBounds_toArray, List.set_cons_zero, List.set_cons_succ]
        refine wpAnyX_take (i := 21) (v := ?vv27) rfl (by kernel_rfl) (by kernel_rfl) (by kernel_rfl) (by kernel_rfl) (fun _ _ _ h => h) (Or.inl ⟨by rfl, ?hy27⟩) hS ?rest27
        case hy27 => (intro ww hSw; (try dsimp only at hSw); go_split_ands; go_simp; try with_reducible rfl)
        try simp only [Act.put, List.setIfInBounds_toArray, List.set_cons_zero, List.set_cons_succ]
        refine wpAnyX_take (i := 22) (v := ?vv28) rfl (by kernel_rfl) (by kernel_rfl) (by kernel_rfl) (by kernel_rfl) (fun _ _ _ h => h) (Or.inl ⟨by rfl, ?hy28⟩) hS ?rest28
        case hy28 => (intro ww hSw; (try dsimp only at hSw); go_split_ands; go_simp; try with_reducible rfl)
        try simp only [Act.put, List.setIfInBounds_toArray, List.set_cons_zero, List.set_cons_succ]
        refine wpAnyX_take (i := 23) (v := ?vv29) rfl (by kernel_rfl) (by kernel_rfl) (by kernel_rfl) (by kernel_rfl) (fun _ _ _ h => h) (Or.inl ⟨by rfl, ?hy29⟩) hS ?rest29
        case hy29 => (intro ww hSw; (try dsimp only at hSw); go_split_ands; go_simp; try with_reducible rfl)
        try simp only [Act.put, List.setIfInBounds_toArray, List.set_cons_zero, List.set_cons_succ]
        refine wpAnyX_take (i := 24) (v := ?vv30) rfl (by kernel_rfl) (by kernel_rfl) (by kernel_rfl) (by kernel_rfl) (fun _ _ _ h => h) (Or.inl ⟨by rfl, ?hy30⟩) hS ?rest30
        case hy30 => (intro ww hSw; (try dsimp only at hSw); go_split_ands; go_simp; try with_reducible rfl)
        try simp only [Act.put, List.setIfInBounds_toArray, List.set_cons_zero, List.set_cons_succ]
        refine wpAnyX_take (i := 25) (v := ?vv31) rfl (by kernel_rfl) (by kernel_rfl) (by kernel_rfl) (by kernel_rfl) (fun _ _ _ h => h) (Or.inl ⟨by rfl, ?hy31⟩) hS ?rest31
        case hy31 => (intro ww hSw; (try dsimp only at hSw); go_split_ands; go_simp; try with_reducible rfl)
        try simp only [Act.put, List.setIfInBounds_toArray, List.set_cons_zero, List.set_cons_succ]
        refine wpAnyX_take (i := 26) (v := ?vv32) rfl (by kernel_rfl) (by kernel_rfl) (by kernel_rfl) (by kernel_rfl) (fun _ _ _ h => h) (Or.inl ⟨by rfl, ?hy32⟩) hS ?rest32
        case hy32 => (intro ww hSw; (try dsimp only at hSw); go_split_ands; go_simp; try with_reducible rfl)
        try simp only [Act.put, List.setIfInBounds_toArray, List.set_cons_zero, List.set_cons_succ]
        refine wpAnyX_take (i := 27) (v := ?vv33) rfl (by kernel_rfl) (by kernel_rfl) (by kernel_rfl) (by kernel_rfl) (fun _ _ _ h => h) (Or.inl ⟨by rfl, ?hy33⟩) hS ?rest33
        case hy33 => (intro ww hSw; (try dsimp only at hSw); go_split_ands; go_simp; try with_reducible rfl)
        try simp only [Act.put, List.setIfInBounds_toArray, List.set_cons_zero, List.set_cons_succ]
        refine wpAnyX_take (i := 28) (v := ?vv34) rfl (by kernel_rfl) (by kernel_rfl) (by kernel_rfl) (by kernel_rfl) (fun _ _ _ h => h) (Or.inl ⟨by rfl, ?hy34⟩) hS ?rest34
        case hy34 => (intro ww hSw; (try dsimp only at hSw); go_split_ands; go_simp; try with_reducible rfl)
        try simp only [Act.put, List.setIfInBounds_toArray, List.set_cons_zero, List.set_cons_succ]
        refine wpAnyX_take (i := 29) (v := ?vv35) rfl (by kernel_rfl) (by kernel_rfl) (by kernel_rfl) (by kernel_rfl) (fun _ _ _ h => h) (Or.inl ⟨by rfl, ?hy35⟩) hS ?rest35
        case hy35 => (intro ww hSw; (try dsimp only at hSw); go_split_ands; go_simp; try with_reducible rfl)
        try simp only [Act.put, List.setIfInBounds_toArray, List.set_cons_zero, List.set_cons_succ]
        refine wpAnyX_take (i := 30) (v := ?vv36) rfl (by kernel_rfl) (by kernel_rfl) (by kernel_rfl) (by kernel_rfl) (fun _ _ _ h => h) (Or.inl ⟨by rfl, ?hy36⟩) hS ?rest36
        case hy36 => (intro ww hSw; (try dsimp only at hSw); go_split_ands; go_simp; try with_reducible rfl)
        try simp only [Act.put, List.setIfInBounds_toArray, List.set_cons_zero, List.set_cons_succ]
        refine wpAnyX_take (i := 31) (v := ?vv37) rfl (by kernel_rfl) (by kernel_rfl) (by kernel_rfl) (by kernel_rfl) (fun _ _ _ h => h) (Or.inl ⟨by rfl, ?hy37⟩) hS ?rest37
        case hy37 => (intro ww hSw; (try dsimp only at hSw); go_split_ands; go_simp; try with_reducible rfl)
        try simp only [Act.put, List.setIfInBounds_toArray, List.set_cons_zero, List.set_cons_succ]
        refine wpAnyX_take (i := 32) (v := ?vv38) rfl (by kernel_rfl) (by kernel_rfl) (by kernel_rfl) (by kernel_rfl) (fun _ _ _ h => h) (Or.inl ⟨by rfl, ?hy38⟩) hS ?rest38
        case hy38 => (intro ww hSw; (try dsimp only at hSw); go_split_ands; go_simp; try with_reducible rfl)
        try simp only [Act.put, List.setIfInBounds_toArray, List.set_cons_zero, List.set_cons_succ]
        refine wpAnyX_take (i := 33) (v := ?vv39) rfl (by kernel_rfl) (by kernel_rfl) (by kernel_rfl) (by kernel_rfl) (fun _ _ _ h => h) (Or.inl ⟨by rfl, ?hy39⟩) hS ?rest39
        case hy39 => (intro ww hSw; (try dsimp only at hSw); go_split_ands; go_simp; try with_reducible rfl)
        try simp only [Act.put, List.setIfInBounds_toArray, List.set_cons_zero, List.set_cons_succ]
        refine wpAnyX_take (i := 34) (v := ?vv40) rfl (by kernel_rfl) (by kernel_rfl) (by kernel_rfl) (by kernel_rfl) (fun _ _ _ h => h) (Or.inl ⟨by rfl, ?hy40⟩) hS ?rest40
        case hy40 => (intro ww hSw; (try dsimp only at hSw); go_split_ands; go_simp; try with_reducible rfl)
        try simp only [Act.put, List.setIfInBounds_toArray, List.set_cons_zero, List.set_cons_succ]
        refine wpAnyX_take (i := 35) (v := ?vv41) rfl (by kernel_rfl) (by kernel_rfl) (by kernel_rfl) (by kernel_rfl) (fun _ _ _ h => h) (Or.inl ⟨by rfl, ?hy41⟩) hS ?rest41
        case hy41 => (intro ww hSw; (try dsimp only at hSw); go_split_ands; go_simp; try with_reducible rfl)
        try simp only [Act.put, List.setIfInBounds_toArray, List.set_cons_zero, List.set_cons_succ]
        refine wpAnyX_take (i := 36) (v := ?vv42) rfl (by kernel_rfl) (by kernel_rfl) (by kernel_rfl) (by kernel_rfl) (fun _ _ _ h => h) (Or.inl ⟨by rfl, ?hy42⟩) hS ?rest42
        case hy42 => (intro ww hSw; (try dsimp only at hSw); go_split_ands; go_simp; try with_reducible rfl)
        try simp only [Act.put, List.setIfInBounds_toArray, List.set_cons_zero, List.set_cons_succ]
        refine wpAnyX_take (i := 37) (v := ?vv43) rfl (by kernel_rfl) (by kernel_rfl) (by kernel_rfl) (by kernel_rfl) (fun _ _ _ h => h) (Or.inl ⟨by rfl, ?hy43⟩) hS ?rest43
        case hy43 => (intro ww hSw; (try dsimp only at hSw); go_split_ands; go_simp; try with_reducible rfl)
        try simp only [Act.put, List.setIfInBounds_toArray, List.set_cons_zero, List.set_cons_succ]
        refine wpAnyX_take (i := 38) (v := ?vv44) rfl (by kernel_rfl) (by kernel_rfl) (by kernel_rfl) (by kernel_rfl) (fun _ _ _ h => h) (Or.inl ⟨by rfl, ?hy44⟩) hS ?rest44
        case hy44 => (intro ww hSw; (try dsimp only at hSw); go_split_ands; go_simp; try with_reducible rfl)
        try simp only [Act.put, List.setIfInBounds_toArray, List.set_cons_zero, List.set_cons_succ]
        refine wpAnyX_take (i := 39) (v := ?vv45) rfl (by kernel_rfl) (by kernel_rfl) (by kernel_rfl) (by kernel_rfl) (fun _ _ _ h => h) (Or.inl ⟨by rfl, ?hy45⟩) hS ?rest45
        case hy45 => (intro ww hSw; (try dsimp only at hSw); go_split_ands; go_simp; try with_reducible rfl)
        try simp only [Act.put, List.setIfInBounds_toArray, List.set_cons_zero, List.set_cons_succ]
        refine wpAnyX_take (i := 40) (v := ?vv46) rfl (by kernel_rfl) (by kernel_rfl) (by kernel_rfl) (by kernel_rfl) (fun _ _ _ h => h) (Or.inl ⟨by rfl, ?hy46⟩) hS ?rest46
        case hy46 => (intro ww hSw; (try dsimp only at hSw); go_split_ands; go_simp; try with_reducible rfl)
        try simp only [Act.put, List.setIfInBounds_toArray, List.set_cons_zero, List.set_cons_succ]
        refine wpAnyX_take (i := 41) (v := ?vv47) rfl (by kernel_rfl) (by kernel_rfl) (by kernel_rfl) (by kernel_rfl) (fun _ _ _ h => h) (Or.inl ⟨by rfl, ?hy47⟩) hS ?rest47
        case hy47 => (intro ww hSw; (try dsimp only at hSw); go_split_ands; go_simp; try with_reducible rfl)
        try simp only [Act.put, List.setIfInBounds_toArray, List.set_cons_zero, List.set_cons_succ]
        refine wpAnyX_take (i := 42) (v := ?vv48) rfl (by kernel_rfl) (by kernel_rfl) (by kernel_rfl) (by kernel_rfl) (fun _ _ _ h => h) (Or.inl ⟨by rfl, ?hy48⟩) hS ?rest48
        case hy48 => (intro ww hSw; (try dsimp only at hSw); go_split_ands; go_simp; try with_reducible rfl)
        try simp only [Act.put, List.setIfInBounds_toArray, List.set_cons_zero, List.set_cons_succ]
        refine wpAnyX_take (i := 43) (v := ?vv49) rfl (by kernel_rfl) (by kernel_rfl) (by kernel_rfl) (by kernel_rfl) (fun _ _ _ h => h) (Or.inl ⟨by rfl, ?hy49⟩) hS ?rest49
        case hy49 => (intro ww hSw; (try dsimp only at hSw); go_split_ands; go_simp; try with_reducible rfl)
        try simp only [Act.put, List.setIfInBounds_toArray, List.set_cons_zero, List.set_cons_succ]
        refine wpAnyX_take (i := 44) (v := ?vv50) rfl (by kernel_rfl) (by kernel_rfl) (by kernel_rfl) (by kernel_rfl) (fun _ _ _ h => h) (Or.inl ⟨by rfl, ?hy50⟩) hS ?rest50
        case hy50 => (intro ww hSw; (try dsimp only at hSw); go_split_ands; go_simp; try with_reducible rfl)
        try simp only [Act.put, List.setIfInBounds_toArray, List.set_cons_zero, List.set_cons_succ]
        refine wpAnyX_take (i := 45) (v := ?vv51) rfl (by kernel_rfl) (by kernel_rfl) (by kernel_rfl) (by kernel_rfl) (fun _ _ _ h => h) (Or.inl ⟨by rfl, ?hy51⟩) hS ?rest51
        case hy51 => (intro ww hSw; (try dsimp only at hSw); go_split_ands; go_simp; try with_reducible rfl)
        try simp only [Act.put, List.setIfInBounds_toArray, List.set_cons_zero, List.set_cons_succ]
        refine wpAnyX_take (i := 46) (v := ?vv52) rfl (by kernel_rfl) (by kernel_rfl) (by kernel_rfl) (by kernel_rfl) (fun _ _ _ h => h) (Or.inl ⟨by rfl, ?hy52⟩) hS ?rest52
        case hy52 => (intro ww hSw; (try dsimp only at hSw); go_split_ands; go_simp; try with_reducible rfl)
        try simp only [Act.put, List.setIfInBounds_toArray, List.set_cons_zero, List.set_cons_succ]
        refine wpAnyX_take (i := 47) (v := ?vv53) rfl (by kernel_rfl) (by kernel_rfl) (by kernel_rfl) (by kernel_rfl) (fun _ _ _ h => h) (Or.inl ⟨by rfl, ?hy53⟩) hS ?rest53
        case hy53 => (intro ww hSw; (try dsimp only at hSw); go_split_ands; go_simp; try with_reducible rfl)
        try simp only [Act.put, List.setIfInBounds_toArray, List.set_cons_zero, List.set_cons_succ]
        refine wpAnyX_step (k := 48) (by kernel_rfl) rfl rfl (fun K2 hK2 => ?_); go_simp
        refine (abs_val _ _ (by omega) (by omega)).mono ?_; rintro e wz' ⟨rfl, rfl⟩
        refine hK2.out _ _ hS (fun hS => ?_)
        clear hK2 K2; (try simp only [Act.put, List.setIfInBounds_toArray, List.set_cons_zero, List.set_cons_succ])
        have habs : absV (f - f) = 0 := by rw [Int.sub_self]; rfl
        have habs2 : absV 0 = 0 := rfl
        try rw [habs]
        try rw [habs2]
        refine wpAnyX_take (i := 49) (v := ?vv54) rfl (by kernel_rfl) (by kernel_rfl) (by kernel_rfl) (by kernel_rfl) (fun _ _ _ h => h) (Or.inl ⟨by rfl, ?hy54⟩) hS ?rest54
        case hy54 => (intro ww hSw; (try dsimp only at hSw); go_split_ands; go_simp; try with_reducible rfl)
        try simp only [Act.put, List.setIfInBounds_toArray, List.set_cons_zero, List.set_cons_succ]
        refine wpAnyX_take (i := 50) (v := ?vv55) rfl (by kernel_rfl) (by kernel_rfl) (by kernel_rfl) (by kernel_rfl) (fun _ _ _ h => h) (Or.inl ⟨by rfl, ?hy55⟩) hS ?rest55
        case hy55 => (intro ww hSw; (try dsimp only at hSw); go_split_ands; go_simp; try with_reducible rfl)
        try simp only [Act.put, List.setIfInBounds_toArray, List.set_cons_zero, List.set_cons_succ]
        refine wpAnyX_done (by kernel_rfl) ?_ _
        clear hS ca cb cc cd e1 e2 e3 e4 hmin hmx1 hmx2 habs habs2
        go_wp2_with fail
        go_roundw
        case rel => exact ⟨k + 1, by omega, by go_num, HQ0.out.drew⟩
        case measure => simp [intOf]; omega
      · have hkm : k = m' := by omega
        subst hkm
        have ba := BA.out.q hq.out
        have bb := BB.out.q hq.out
        have QQ := HQ.out.trans hq.out
        have HXr : Hid (Rd wr B0 (some ⟨gx, ofx, none⟩) xs) := Lib.hid (HX.out.q hq.out hbs)
        have HYr : Hid (Rd wr B0 (some ⟨gy, ofy, none⟩) ys) := Lib.hid (HY.out.q hq.out hbs)
        have hsr := hq.out.size
        clear cd hq
        go_wp2_with fail
        refine wp_region_x (fun ww => Q wr ww ∧ (∀ i, ww.cell? ⟨wp.heap.size, i, none⟩ = (#[.int .i64 W', .int .i64 H', .slice (some ⟨gx, ofx, none⟩) k c] : Array Value)[i]?) ∧ (∀ i, ww.cell? ⟨wp.heap.size + 1, i, none⟩ = (#[.int .i64 W', .int .i64 H', .slice (some ⟨gy, ofy, none⟩) k c'] : Array Value)[i]?)) (fun _ => false) (by kernel_rfl) ⟨(Q.refl _).drew, ba.cell, bb.cell⟩ (fun hS => ?_)
        refine wpAnyX_take (i := 0) (v := ?vv56) rfl (by kernel_rfl) (by kernel_rfl) (by kernel_rfl) (by kernel_rfl) (fun _ _ _ h => h) (Or.inl ⟨by rfl, ?hy56⟩) hS ?rest56
        case hy56 => (intro ww hSw; (try dsimp only at hSw); go_split_ands; go_simp; try with_reducible rfl)
        try simp only [Act.put, List.setIfInBounds_toArray, List.set_cons_zero, List.set_cons_succ]
        refine wpAnyX_take (i := 1) (v := ?vv57) rfl (by kernel_rfl) (by kernel_rfl) (by kernel_rfl) (by kernel_rfl) (fun _ _ _ h => h) (Or.inl ⟨by rfl, ?hy57⟩) hS ?rest57
        case hy57 => (intro ww hSw; (try dsimp only at hSw); go_split_ands; go_simp; try with_reducible rfl)
        try simp only [Act.put, List.setIfInBounds_toArray, List.set_cons_zero, List.set_cons_succ]
        refine wpAnyX_take (i := 3) (v := ?vv58) rfl (by kernel_rfl) (by kernel_rfl) (by kernel_rfl) (by kernel_rfl) (fun _ _ _ h => h) (Or.inl ⟨by rfl, ?hy58⟩) hS ?rest58
        case hy58 => (intro ww hSw; (try dsimp only at hSw); go_split_ands; go_simp; try with_reducible rfl)
        try simp only [Act.put, List.setIfInBounds_toArray, List.set_cons_zero, List.set_cons_succ]
        refine wpAnyX_step (k := 2) (by kernel_rfl) rfl rfl (fun K2 hK2 => ?_); go_simp
        refine (impl_Fade W' H' W' H' 0 _ _ k k c c' _ _ xs ys _ (HXr.out.q hS.1 (by omega)) (Nat.le_trans (by omega) hS.1.size) (HYr.out.q hS.1 (by omega)) (Nat.le_trans (by omega) hS.1.size) HN HN' hm1 hm2).mono ?_; rw [HP3.out]; dsimp only; rw [HN.out]; rintro e wz ⟨v, rfl, o3, q3⟩
        obtain ⟨A5, c5, rfl⟩ := o3.form
        have q4 := hS.1.trans q3
        refine hK2.out _ _ ⟨q4, (ba.q q4).cell, (bb.q q4).cell⟩ (fun hS => ?_)
        clear hK2 K2; (try simp only [Act.put, List.setIfInBounds_toArray, List.set_cons_zero, List.set_cons_succ])
        refine wpAnyX_step (k := 4) (by kernel_rfl) rfl rfl (fun K2 hK2 => ?_); go_simp
        refine (samePicture W' H' W' H' A5 _ k k c5 c _ _ xs xs true _ o3.rd (Nat.le_refl _) (HXr.out.q q4 (by omega)) (Nat.le_trans (by omega) q4.size) HN HN hmx hmx (decide_eq_true ⟨rfl, rfl, rfl⟩)).mono ?_; rintro e wy ⟨rfl, q5⟩
        have q6 := q4.trans q5
        refine hK2.out _ _ ⟨q6, (ba.q q6).cell, (bb.q q6).cell⟩ (fun hS => ?_)
        clear hK2 K2; (try simp only [Act.put, List.setIfInBounds_toArray, List.set_cons_zero, List.set_cons_succ])
        refine wpAnyX_take (i := 5) (v := ?vv59) rfl (by kernel_rfl) (by kernel_rfl) (by kernel_rfl) (by kernel_rfl) (fun _ _ _ h => h) (Or.inl ⟨by rfl, ?hy59⟩) hS ?rest59
        case hy59 => (intro ww hSw; (try dsimp only at hSw); go_split_ands; go_simp; try with_reducible rfl)
        try simp only [Act.put, List.setIfInBounds_toArray, List.set_cons_zero, List.set_cons_succ]
        refine wpAnyX_take (i := 6) (v := ?vv60) rfl (by kernel_rfl) (by kernel_rfl) (by kernel_rfl) (by kernel_rfl) (fun _ _ _ h => h) (Or.inl ⟨by rfl, ?hy60⟩) hS ?rest60
        case hy60 => (intro ww hSw; (try dsimp only at hSw); go_split_ands; go_simp; try with_reducible rfl)
        try simp only [Act.put, List.setIfInBounds_toArray, List.set_cons_zero, List.set_cons_succ]
        refine wpAnyX_take (i := 7) (v := ?vv61) rfl (by kernel_rfl) (by kernel_rfl) (by kernel_rfl) (by kernel_rfl) (fun _ _ _ h => h) (Or.inl ⟨by rfl, ?hy61⟩) hS ?rest61
        case hy61 => (intro ww hSw; (try dsimp only at hSw); go_split_ands; go_simp; try with_reducible rfl)
        try simp only [Act.put, List.setIfInBounds_toArray, List.set_cons_zero, List.set_cons_succ]
        refine wpAnyX_take (i := 9) (v := ?vv62) rfl (by kernel_rfl) (by kernel_rfl) (by kernel_rfl) (by kernel_rfl) (fun _ _ _ h => h) (Or.inl ⟨by rfl, ?hy62⟩) hS ?rest62
        case hy62 => (intro ww hSw; (try dsimp only at hSw); go_split_ands; go_simp; try with_reducible rfl)
        try simp only [Act.put, List.setIfInBounds_toArray, List.set_cons_zero, List.set_cons_succ]
        refine wpAnyX_step (k := 8) (by kernel_rfl) rfl rfl (fun K2 hK2 => ?_); go_simp
        refine (impl_Fade W' H' W' H' 8 _ _ k k c c' _ _ xs ys _ (HXr.out.q q6 (by omega)) (Nat.le_trans (by omega) q6.size) (HYr.out.q q6 (by omega)) (Nat.le_trans (by omega) q6.size) HN HN' hm1 hm2).mono ?_; rw [HP4.out]; dsimp only; rw [HN'.out]; rintro e wx ⟨v, rfl, o6, q7⟩
        obtain ⟨A6, c6, rfl⟩ := o6.form
        have q8 := q6.trans q7
        refine hK2.out _ _ ⟨q8, (ba.q q8).cell, (bb.q q8).cell⟩ (fun hS => ?_)
        clear hK2 K2; (try simp only [Act.put, List.setIfInBounds_toArray, List.set_cons_zero, List.set_cons_succ])
        refine wpAnyX_step (k := 10) (by kernel_rfl) rfl rfl (fun K2 hK2 => ?_); go_simp
        refine (samePicture W' H' W' H' A6 _ k k c6 c' _ _ ys ys true _ o6.rd (Nat.le_refl _) (HYr.out.q q8 (by omega)) (Nat.le_trans (by omega) q8.size) HN' HN' hmx hmx (decide_eq_true ⟨rfl, rfl, rfl⟩)).mono ?_; rintro e wt ⟨rfl, q9⟩
        have q10 := q8.trans q9
        refine hK2.out _ _ ⟨q10, (ba.q q10).cell, (bb.q q10).cell⟩ (fun hS => ?_)
        clear hK2 K2; (try simp only [Act.put, List.setIfInBounds_toArray, List.set_cons_zero, List.set_cons_succ])
        refine wpAnyX_take (i := 11) (v := ?vv63) rfl (by kernel_rfl) (by kernel_rfl) (by kernel_rfl) (by kernel_rfl) (fun _ _ _ h => h) (Or.inl ⟨by rfl, ?hy63⟩) hS ?rest63
        case hy63 => (intro ww hSw; (try dsimp only at hSw); go_split_ands; go_simp; try with_reducible rfl)
        try simp only [Act.put, List.setIfInBounds_toArray, List.set_cons_zero, List.set_cons_succ]
        refine wpAnyX_take (i := 12) (v := ?vv64) rfl (by kernel_rfl) (by kernel_rfl) (by kernel_rfl) (by kernel_rfl) (fun _ _ _ h => h) (Or.inl ⟨by rfl, ?hy64⟩) hS ?rest64
        case hy64 => (intro ww hSw; (try dsimp only at hSw); go_split_ands; go_simp; try with_reducible rfl)
        try simp only [Act.put, List.setIfInBounds_toArray, List.set_cons_zero, List.set_cons_succ]
        refine wpAnyX_done (by kernel_rfl) ?_ _
        have QZ := QQ.trans q10
        clear hS
        go_wp2_with fail
        go_ret
        exact ⟨rfl, QZ⟩
  · have hP : fadeP t W H xs W' H' ys = (0, 0, []) := if_neg hok
    have HP := Lib.hid hP
    clear hok hP
    go_wp2_with fail
    generalize (wp.alloc (.cells #[.int .i64 W, .int .i64 H, .slice A m c] 27)).alloc (.cells #[.int .i64 W', .int .i64 H', .slice A' m' c'] 27) = wv at ba bb HX HY QQ s2 ca cb sz ⊢
    replace sz := QQ.size
    refine (impl_Fade W H W' H' t A A' m m' c c' _ _ xs ys _ HX.out (by omega) HY.out (by omega) HN HN' hm1 hm2).mono ?_; rw [HP.out]; dsimp only; rw [List.length_nil]; rintro e wv ⟨v, rfl, o2, q2⟩
    obtain ⟨A2, c2, rfl⟩ := o2.form
    (try replace ba := ba.q q2); (try replace bb := bb.q q2); (try replace bc := bc.q q2); (try replace bd := bd.q q2); (try replace be := be.q q2); (try replace bf := bf.q q2); (try replace oa := oa.q q2); (try replace ob := ob.q q2); (try replace oc := oc.q q2); (try replace od := od.q q2); (try replace oe := oe.q q2); (try replace HX := Lib.hid (HX.out.q q2 (by omega))); (try replace HY := Lib.hid (HY.out.q q2 (by omega))); have sq := q2.size; replace QQ := QQ.trans q2; replace sz := QQ.size; clear q2; (try replace ca := ba.cell); (try replace cb := bb.cell); (try replace cc := bc.cell); (try replace cd := bd.cell); (try replace ce := be.cell); (try replace cf := bf.cell)
    have oa := o2.i
    clear o2
    have sb : (wv.alloc (.cells #[.int .i64 0, .int .i64 0, .slice A2 0 c2] 27)).heap.size = wv.heap.size + 1 := (by simp); have qb : Q wv (wv.alloc (.cells #[.int .i64 0, .int .i64 0, .slice A2 0 c2] 27)) := (Q.refl wv).alloc _; (try replace ba := ba.q qb); (try replace bb := bb.q qb); (try replace bc := bc.q qb); (try replace bd := bd.q qb); (try replace be := be.q qb); (try replace bf := bf.q qb); (try replace oa := oa.q qb); (try replace ob := ob.q qb); (try replace oc := oc.q qb); (try replace od := od.q qb); (try replace oe := oe.q qb); (try replace HX := Lib.hid (HX.out.q qb (by omega))); (try replace HY := Lib.hid (HY.out.q qb (by omega))); have sq := qb.size; replace QQ := QQ.trans qb; replace sz := QQ.size; clear qb; (try replace ca := ba.cell); (try replace cb := bb.cell); (try replace cc := bc.cell); (try replace cd := bd.cell); (try replace ce := be.cell); (try replace cf := bf.cell); have bc := Blk.new wv 27 #[.int .i64 0, .int .i64 0, .slice A2 0 c2]; (try replace ca := ba.cell); (try replace cb := bb.cell); (try replace cc := bc.cell); (try replace cd := bd.cell); (try replace ce := be.cell); (try replace cf := bf.cell)
    obtain ⟨wk, rfl⟩ : ∃ wk, wk = wv := ⟨_, rfl⟩
    go_wp2_with fail
    generalize wk.alloc (.cells #[.int .i64 0, .int .i64 0, .slice A2 0 c2] 27) = wb at HX HY QQ sz sq sb ba bb bc ca cb cc oa ⊢
    refine wp_region_x (fun ww => Q wb ww ∧ (∀ i, ww.cell? ⟨wp.heap.size, i, none⟩ = (#[.int .i64 W, .int .i64 H, .slice A m c] : Array Value)[i]?) ∧ (∀ i, ww.cell? ⟨wp.heap.size + 1, i, none⟩ = (#[.int .i64 W', .int .i64 H', .slice A' m' c'] : Array Value)[i]?) ∧ (∀ i, ww.cell? ⟨wk.heap.size, i, none⟩ = (#[.int .i64 0, .int .i64 0, .slice A2 0 c2] : Array Value)[i]?)) (fun _ => false) (by kernel_rfl) ⟨(Q.refl _).drew, ba.cell, bb.cell, bc.cell⟩ (fun hS => ?_)
    refine wpAnyX_take (i := 0) (v := ?vv65) rfl (by kernel_rfl) (by kernel_rfl) (by kernel_rfl) (by kernel_rfl) (fun _ _ _ h => h) (Or.inl ⟨by rfl, ?hy65⟩) hS ?rest65
    case hy65 => (intro ww hSw; (try dsimp only at hSw); go_split_ands; go_simp; try with_reducible rfl)
    try simp only [Act.put, List.setIfInBounds_toArray, List.set_cons_zero, List.set_cons_succ]
    refine wpAnyX_take (i := 1) (v := ?vv66) rfl (by kernel_rfl) (by kernel_rfl) (by kernel_rfl) (by kernel_rfl) (fun _ _ _ h => h) (Or.inl ⟨by rfl, ?hy66⟩) hS ?rest66
    case hy66 => (intro ww hSw; (try dsimp only at hSw); go_split_ands; go_simp; try with_reducible rfl)
    try simp only [Act.put, List.setIfInBounds_toArray, List.set_cons_zero, List.set_cons_succ]
    refine wpAnyX_take (i := 2) (v := ?vv67) rfl (by kernel_rfl) (by kernel_rfl) (by kernel_rfl) (by kernel_rfl) (fun _ _ _ h => h) (Or.inl ⟨by rfl, ?hy67⟩) hS ?rest67
    case hy67 => (intro ww hSw; (try dsimp only at hSw); go_split_ands; go_simp; try with_reducible rfl)
    try simp only [Act.put, List.setIfInBounds_toArray, List.set_cons_zero, List.set_cons_succ]
    refine wpAnyX_take (i := 3) (v := ?vv68) rfl (by kernel_rfl) (by kernel_rfl) (by kernel_rfl) (by kernel_rfl) (fun _ _ _ h => h) (Or.inl ⟨by rfl, ?hy68⟩) hS ?rest68
    case hy68 => (intro ww hSw; (try dsimp only at hSw); go_split_ands; go_simp; try with_reducible rfl)
    try simp only [Act.put, List.setIfInBounds_toArray, List.set_cons_zero, List.set_cons_succ]
    refine wpAnyX_step (k := 4) (by kernel_rfl) rfl rfl (fun K2 hK2 => ?_); go_simp
    refine (spec_Fade W H W' H' t A A' m m' c c' _ _ xs ys _ (HX.out.q hS.1 (by omega)) (Nat.le_trans (by omega) hS.1.size) (HY.out.q hS.1 (by omega)) (Nat.le_trans (by omega) hS.1.size) HN HN' hm1 hm2).mono ?_; rw [HP.out]; dsimp only; rw [List.length_nil]; rintro e wz ⟨v, rfl, o3, q3⟩
    obtain ⟨A3, c3, rfl⟩ := o3.form
    have q4 := hS.1.trans q3
    refine hK2.out _ _ ⟨q4, (ba.q q4).cell, (bb.q q4).cell, (bc.q q4).cell⟩ (fun hS => ?_)
    clear hK2 K2; (try simp only [Act.put, List.setIfInBounds_toArray, List.set_cons_zero, List.set_cons_succ])
    refine wpAnyX_step (k := 5) (by kernel_rfl) rfl rfl (fun K2 hK2 => ?_); go_simp
    refine (samePicture 0 0 0 0 A2 A3 0 0 c2 c3 _ _ [] [] true _ (oa.q q4).rd (Nat.le_refl _) o3.rd (Nat.le_refl _) rfl rfl (by unfold maxLen; omega) (by unfold maxLen; omega) (decide_eq_true ⟨rfl, rfl, rfl⟩)).mono ?_; rintro e wy ⟨rfl, q5⟩
    have qq := q4.trans q5
    refine hK2.out _ _ ⟨qq, (ba.q qq).cell, (bb.q qq).cell, (bc.q qq).cell⟩ (fun hS => ?_)
    clear hK2 K2; (try simp only [Act.put, List.setIfInBounds_toArray, List.set_cons_zero, List.set_cons_succ])
    refine wpAnyX_take (i := 6) (v := ?vv69) rfl (by kernel_rfl) (by kernel_rfl) (by kernel_rfl) (by kernel_rfl) (fun _ _ _ h => h) (Or.inl ⟨by rfl, ?hy69⟩) hS ?rest69
    case hy69 => (intro ww hSw; (try dsimp only at hSw); go_split_ands; go_simp; try with_reducible rfl)
    try simp only [Act.put, List.setIfInBounds_toArray, List.set_cons_zero, List.set_cons_succ]
    refine wpAnyX_done (by kernel_rfl) ?_ _
    clear hS q3 q4 q5 o3
    obtain ⟨wv, rfl⟩ : ∃ wv, wv = wy := ⟨_, rfl⟩
    (try replace ba := ba.q qq); (try replace bb := bb.q qq); (try replace bc := bc.q qq); (try replace bd := bd.q qq); (try replace be := be.q qq); (try replace bf := bf.q qq); (try replace oa := oa.q qq); (try replace ob := ob.q qq); (try replace oc := oc.q qq); (try replace od := od.q qq); (try replace oe := oe.q qq); (try replace HX := Lib.hid (HX.out.q qq (by omega))); (try replace HY := Lib.hid (HY.out.q qq (by omega))); have sq := qq.size; replace QQ := QQ.trans qq; replace sz := QQ.size; clear qq; (try replace ca := ba.cell); (try replace cb := bb.cell); (try replace cc := bc.cell); (try replace cd := bd.cell); (try replace ce := be.cell); (try replace cf := bf.cell)
    go_wp2_with fail
    refine (alive _).mono ?_; rintro e wv ⟨rfl, q2⟩
    (try replace ba := ba.q q2); (try replace bb := bb.q q2); (try replace bc := bc.q q2); (try replace bd := bd.q q2); (try replace be := be.q q2); (try replace bf := bf.q q2); (try replace oa := oa.q q2); (try replace ob := ob.q q2); (try replace oc := oc.q q2); (try replace od := od.q q2); (try replace oe := oe.q q2); (try replace HX := Lib.hid (HX.out.q q2 (by omega))); (try replace HY := Lib.hid (HY.out.q q2 (by omega))); have sq := q2.size; replace QQ := QQ.trans q2; replace sz := QQ.size; clear q2; (try replace ca := ba.cell); (try replace cb := bb.cell); (try replace cc := bc.cell); (try replace cd := bd.cell); (try replace ce := be.cell); (try replace cf := bf.cell)
    go_wp2_with fail
    go_ret
    exact ⟨rfl, QQ⟩
set_option maxRecDepth 100000 in
theorem lifted_FnFadePicture (os : Os) (started : os.Started) (H : Type) (enc : TypeId × Value → H) :
    ReturnsInHanded {} Try.checked os 10 .any (Rows.fnFadePictureSpec.pre6 enc Try.prog Try.f10 Rows.fnFadePictureRow.domain false) (Rows.fnFadePictureSpec.post enc Try.prog Try.f10 false true false false) := by
  refine returnsInHanded_of_change (C := Try.checked) own_knob started (by kernel_rfl) Try.func10
    (ChangeSpec.witness6 (enc := enc) (C := Try.checked) false ⟨#[], #[.slice none 0 0], []⟩ 8 (by kernel_rfl) (by kernel_rfl) (by kernel_rfl) (by kernel_rfl)) ?_
  intro W base args ds gs before hval0 hW hcnd _
  have hval : ∀ (j : Nat) t v, Try.f10.params[j]? = some t → args[j]? = some v → Value.okWide Try.prog W .any base t v := hval0
  have hW' := hW
  obtain ⟨p, q, hA0, hV, rfl, hfz, hnd⟩ := hW
  have hA : DataW.TrodAll enc Try.prog W 0 (fun _ => true) true Try.f10.params.toList args.toList ds p := hA0
  rw [Try.params10] at hA hval
  obtain ⟨v0, vs0, d0, ds0, p0, q0, hargs, rfl, rfl, h0, r0⟩ := trodAll_cons hA
  obtain ⟨rfl, rfl, rfl⟩ := trodAll_nil r0
  obtain rfl : args = #[v0] := by cases args; simp_all
  obtain ⟨rfl, rfl⟩ := trodVars_none hV
  have k0 := h0
  have lt0 : ∀ x ∈ p0, x.block < W.heap.size := by obtain ⟨m, hm⟩ := k0; exact DataW.trod_lt m _ _ _ hm
  obtain ⟨x0, o0⟩ := open_bytes (hval 0 38 v0 rfl rfl) h0
  clear hA0 hval0
  refine (walk_FnFadePicture W v0 x0 o0).mono fun e W' ⟨he, bel⟩ => ?_
  subst he
  exact ⟨_, rfl, _, _, _, [], _, [], hW', trodAll_mk1 (shut_bool Try.underlying4 _), (trodAll_cons_mk (Below.trod laid_out (by kernel_rfl) (of_decide_eq_true (by kernel_rfl)) k0 bel lt0) trodAll_mk0), rfl, bel.frame _, fun h => by cases h⟩

/-- The statement. -/
theorem FnFadePicture_holds : Rows.FnFadePictureSaid :=
  OpenClaim.holds_of_wide 10 Try.f10 rfl rfl rfl rfl rfl rfl rfl ⟨rfl, rfl, rfl, rfl, rfl⟩ rfl rfl rfl rfl rfl (by kernel_rfl) Try.func10 (by kernel_rfl)
    (of_decide_eq_true (by kernel_rfl)) (by unfold Func.isWrapper; first | (rw [if_pos (by decide +kernel)]; kernel_rfl) | (rw [if_neg (by decide +kernel)]; exact ⟨rfl, rfl⟩))
    (fun os started H enc _ => lifted_FnFadePicture os started H enc)
#print axioms FnFadePicture_holds
end Go.Proofs.Ytoipcfpbkjanhaa

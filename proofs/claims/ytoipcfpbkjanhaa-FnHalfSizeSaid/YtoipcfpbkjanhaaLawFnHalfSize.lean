/-
  FnHalfSize: for every code of at most 1048576 bytes the law returns true: the halved picture is valid and has a quarter of the samples, a flat picture stays flat, and the sum of the samples changes by at most twice the number of samples of the result; for longer codes the law asks nothing. No condition.
-/
import Derived.Test.YtoipcfpbkjanhaaDrawU
import Derived.Test.YtoipcfpbkjanhaaScaleL
import Derived.Test.YtoipcfpbkjanhaaSameP
import Derived.Test.YtoipcfpbkjanhaaAbs
namespace Go.Proofs.Ytoipcfpbkjanhaa
open Go.ChangeShapes Go.WideShapes Go.ChangeAt Go.RowKit

set_option maxRecDepth 100000 in
set_option maxHeartbeats 8000000 in
theorem walk_FnHalfSize (w : World) (v0 : Value) (x0 : Option Addr × Nat × List Int) (h0 : ArgBytes w v0 x0) :
    Calls Try.prog 9 #[v0] w fun e w' => e = .returned (.bool true) ∧ Q w w' := by
  have hv := h0.1; have hm := h0.2.2.1; unfold maxLen at hm; generalize hn : x0.2.2.length = nn at hv hm; have HN := Lib.hid hn; clear hn; by_cases hbig : 1048576 < nn; (subst hv; go_enter Try.func9, Try.ntmps9; go_wp2_with fail; go_ret; exact ⟨rfl, Q.refl _⟩); have H0 : ArgBytes w (.slice x0.1 nn x0.2.1) x0 := (by rw [hv] at h0; exact h0); subst hv; clear h0; go_enter Try.func9, Try.ntmps9; go_wp2_with fail
  refine (DrawHalfSize _ _ _ H0).mono ?_; rintro e wv ⟨⟨W, H, A, m, c, xs, rfl, o1, hl, hm, i1, i2, i3, i4, i5, i6⟩, QQ⟩
  have HN : Hid (xs.length = m) := hl
  have sz := QQ.size
  have HX := Lib.hid o1.rd
  clear o1 hl H0
  have hm' : m ≤ 9223372036854775807 := by omega
  have hmx : m ≤ maxLen := by unfold maxLen; omega
  generalize hB0 : wv.heap.size = B0 at HX
  replace hB0 : B0 ≤ wv.heap.size := by omega
  have sb : (wv.alloc (.cells #[.int .i64 W, .int .i64 H, .slice A m c] 27)).heap.size = wv.heap.size + 1 := (by simp); have qb : Q wv (wv.alloc (.cells #[.int .i64 W, .int .i64 H, .slice A m c] 27)) := (Q.refl wv).alloc _; (try replace ba := ba.q qb); (try replace bb := bb.q qb); (try replace bc := bc.q qb); (try replace bd := bd.q qb); (try replace be := be.q qb); (try replace bf := bf.q qb); (try replace oa := oa.q qb); (try replace ob := ob.q qb); (try replace oc := oc.q qb); (try replace od := od.q qb); (try replace oe := oe.q qb); (try replace HX := Lib.hid (HX.out.q qb (by omega))); (try replace HY := Lib.hid (HY.out.q qb (by omega))); have sq := qb.size; replace QQ := QQ.trans qb; replace sz := QQ.size; clear qb; (try replace ca := ba.cell); (try replace cb := bb.cell); (try replace cc := bc.cell); (try replace cd := bd.cell); (try replace ce := be.cell); (try replace cf := bf.cell); have ba := Blk.new wv 27 #[.int .i64 W, .int .i64 H, .slice A m c]; (try replace ca := ba.cell); (try replace cb := bb.cell); (try replace cc := bc.cell); (try replace cd := bd.cell); (try replace ce := be.cell); (try replace cf := bf.cell)
  obtain ⟨wp, rfl⟩ : ∃ wp, wp = wv := ⟨_, rfl⟩
  by_cases hok : picB W H xs = true ∧ sideOk (W / 2) ∧ sideOk (H / 2)
  · obtain ⟨hp, hs1, hs2⟩ := hok
    obtain ⟨wn, hn, hw, hh, eW, eH, rw1, rh1, l4, l5, hP, hV, hS, hF⟩ := half_laws hp hs1 hs2
    rw [HN.out] at l4 l5 hS hF
    obtain ⟨d, hd⟩ : ∃ d, hn * wn = d := ⟨_, rfl⟩
    have lz : (pixL (hafF W H xs) wn hn).length = d := by rw [length_pixL, hd]
    rw [hd] at l4 hS hF
    generalize pixL (hafF W H xs) wn hn = zs at hP hV hS lz
    have PA := allB_get (picB_parts hp).2.2.2
    have PZ := allB_get (picB_parts hV).2.2.2
    rw [HN.out] at PA
    rw [lz] at PZ
    have HPA := Lib.hid PA
    have HPZ := Lib.hid PZ
    have HP := Lib.hid hP
    have HV := Lib.hid hV
    have HF := Lib.hid hF
    have HZ : Hid (zs.length = d) := lz
    have SA := Lib.hid (fun k => sum_bnd (fun j => xs[j]?.getD 0) 255 (fun j => by rcases Nat.lt_or_ge j m with h | h; exact PA j h; rw [List.getElem?_eq_none (by rw [HN.out]; exact h)]; simp) k)
    have SB := Lib.hid (fun k => sum_bnd (fun j => zs[j]?.getD 0) 255 (fun j => by rcases Nat.lt_or_ge j d with h | h; exact PZ j h; rw [List.getElem?_eq_none (by rw [lz]; exact h)]; simp) k)
    have HS := Lib.hid hS
    have d256 : d ≤ 256 := by omega
    have HL4 := Lib.hid l4
    have d64 : 64 ≤ d := by rw [← hd]; exact Nat.mul_le_mul rh1.1 rw1.1
    have sW : Hid (sideOk W) := by unfold Hid sideOk; omega
    have sH : Hid (sideOk H) := by unfold Hid sideOk; omega
    have sw : Hid (sideOk (wn : Int)) := by unfold Hid sideOk; omega
    have sh : Hid (sideOk (hn : Int)) := by unfold Hid sideOk; omega
    have hWH : W * H = (m : Int) := by rw [l5, eW, eH, ← Int.natCast_mul, Nat.mul_comm]
    have hwh : (wn : Int) * (hn : Int) = (d : Int) := by rw [← hd, ← Int.natCast_mul, Nat.mul_comm]
    have HWH := Lib.hid hWH
    have Hwh := Lib.hid hwh
    clear l4 hP hV hS hF PA PZ hp hs1 hs2 hw hh eW eH rw1 rh1 l5 hd lz hWH hwh
    go_wp2_with fail
    refine (impl_HalfSize W H A m c _ xs _ HX.out (by omega) HN hm').mono ?_; rw [HP.out]; dsimp only; rw [HZ.out]; rintro e wv ⟨v, rfl, o2, q2⟩
    obtain ⟨A2, c2, rfl⟩ := o2.form
    (try replace ba := ba.q q2); (try replace bb := bb.q q2); (try replace bc := bc.q q2); (try replace bd := bd.q q2); (try replace be := be.q q2); (try replace bf := bf.q q2); (try replace oa := oa.q q2); (try replace ob := ob.q q2); (try replace oc := oc.q q2); (try replace od := od.q q2); (try replace oe := oe.q q2); (try replace HX := Lib.hid (HX.out.q q2 (by omega))); (try replace HY := Lib.hid (HY.out.q q2 (by omega))); have sq := q2.size; replace QQ := QQ.trans q2; replace sz := QQ.size; clear q2; (try replace ca := ba.cell); (try replace cb := bb.cell); (try replace cc := bc.cell); (try replace cd := bd.cell); (try replace ce := be.cell); (try replace cf := bf.cell)
    have oa := o2.i
    clear o2
    have sb : (wv.alloc (.cells #[.int .i64 wn, .int .i64 hn, .slice A2 d c2] 27)).heap.size = wv.heap.size + 1 := (by simp); have qb : Q wv (wv.alloc (.cells #[.int .i64 wn, .int .i64 hn, .slice A2 d c2] 27)) := (Q.refl wv).alloc _; (try replace ba := ba.q qb); (try replace bb := bb.q qb); (try replace bc := bc.q qb); (try replace bd := bd.q qb); (try replace be := be.q qb); (try replace bf := bf.q qb); (try replace oa := oa.q qb); (try replace ob := ob.q qb); (try replace oc := oc.q qb); (try replace od := od.q qb); (try replace oe := oe.q qb); (try replace HX := Lib.hid (HX.out.q qb (by omega))); (try replace HY := Lib.hid (HY.out.q qb (by omega))); have sq := qb.size; replace QQ := QQ.trans qb; replace sz := QQ.size; clear qb; (try replace ca := ba.cell); (try replace cb := bb.cell); (try replace cc := bc.cell); (try replace cd := bd.cell); (try replace ce := be.cell); (try replace cf := bf.cell); have bb := Blk.new wv 27 #[.int .i64 wn, .int .i64 hn, .slice A2 d c2]; (try replace ca := ba.cell); (try replace cb := bb.cell); (try replace cc := bc.cell); (try replace cd := bd.cell); (try replace ce := be.cell); (try replace cf := bf.cell)
    obtain ⟨wq, rfl⟩ : ∃ wq, wq = wv := ⟨_, rfl⟩
    have hdm : d ≤ maxLen := by unfold maxLen; omega
    go_wp2_with fail
    generalize wq.alloc (.cells #[.int .i64 wn, .int .i64 hn, .slice A2 d c2] 27) = wb at HX QQ sz sq sb ba bb ca cb oa ⊢
    have oa' := Lib.hid oa
    refine wp_region_x (fun ww => Q wb ww ∧ (∀ i, ww.cell? ⟨wp.heap.size, i, none⟩ = (#[.int .i64 W, .int .i64 H, .slice A m c] : Array Value)[i]?) ∧ (∀ i, ww.cell? ⟨wq.heap.size, i, none⟩ = (#[.int .i64 wn, .int .i64 hn, .slice A2 d c2] : Array Value)[i]?)) (fun _ => false) (by kernel_rfl) ⟨(Q.refl _).drew, ba.cell, bb.cell⟩ (fun hS => ?_)
    refine wpAnyX_take (i := 0) (v := ?vv1) rfl (by kernel_rfl) (by kernel_rfl) (by kernel_rfl) (by kernel_rfl) (fun _ _ _ h => h) (Or.inl ⟨by rfl, ?hy1⟩) hS ?rest1
    case hy1 => (intro ww hSw; (try dsimp only at hSw); go_split_ands; go_simp; try with_reducible rfl)
    try simp only [Act.put, List.setIfInBounds_toArray, List.set_cons_zero, List.set_cons_succ]
    refine wpAnyX_take (i := 1) (v := ?vv2) rfl (by kernel_rfl) (by kernel_rfl) (by kernel_rfl) (by kernel_rfl) (fun _ _ _ h => h) (Or.inl ⟨by rfl, ?hy2⟩) hS ?rest2
    case hy2 => (intro ww hSw; (try dsimp only at hSw); go_split_ands; go_simp; try with_reducible rfl)
    try simp only [Act.put, List.setIfInBounds_toArray, List.set_cons_zero, List.set_cons_succ]
    refine wpAnyX_step (k := 2) (by kernel_rfl) rfl rfl (fun K2 hK2 => ?_); go_simp
    refine (spec_HalfSize W H A m c _ xs _ (HX.out.q hS.1 (by omega)) (Nat.le_trans (by omega) hS.1.size) HN hm').mono ?_; rw [HP.out]; dsimp only; rw [HZ.out]; rintro e wz ⟨v, rfl, o3, q3⟩
    obtain ⟨A3, c3, rfl⟩ := o3.form
    have q4 := hS.1.trans q3
    refine hK2.out _ _ ⟨q4, (ba.q q4).cell, (bb.q q4).cell⟩ (fun hS => ?_)
    clear hK2 K2; (try simp only [Act.put, List.setIfInBounds_toArray, List.set_cons_zero, List.set_cons_succ])
    refine wpAnyX_step (k := 3) (by kernel_rfl) rfl rfl (fun K2 hK2 => ?_); go_simp
    refine (samePicture (wn : Int) (hn : Int) (wn : Int) (hn : Int) A2 A3 d d c2 c3 _ _ zs zs true _ (oa.q q4).rd (Nat.le_refl _) o3.rd (Nat.le_refl _) HZ HZ hdm hdm (decide_eq_true ⟨rfl, rfl, rfl⟩)).mono ?_; rintro e wy ⟨rfl, q5⟩
    have qq := q4.trans q5
    refine hK2.out _ _ ⟨qq, (ba.q qq).cell, (bb.q qq).cell⟩ (fun hS => ?_)
    clear hK2 K2; (try simp only [Act.put, List.setIfInBounds_toArray, List.set_cons_zero, List.set_cons_succ])
    refine wpAnyX_take (i := 4) (v := ?vv3) rfl (by kernel_rfl) (by kernel_rfl) (by kernel_rfl) (by kernel_rfl) (fun _ _ _ h => h) (Or.inl ⟨by rfl, ?hy3⟩) hS ?rest3
    case hy3 => (intro ww hSw; (try dsimp only at hSw); go_split_ands; go_simp; try with_reducible rfl)
    try simp only [Act.put, List.setIfInBounds_toArray, List.set_cons_zero, List.set_cons_succ]
    refine wpAnyX_done (by kernel_rfl) ?_ _
    clear hS q3 q4 q5 o3
    obtain ⟨wv, rfl⟩ : ∃ wv, wv = wy := ⟨_, rfl⟩
    (try replace ba := ba.q qq); (try replace bb := bb.q qq); (try replace bc := bc.q qq); (try replace bd := bd.q qq); (try replace be := be.q qq); (try replace bf := bf.q qq); (try replace oa := oa.q qq); (try replace ob := ob.q qq); (try replace oc := oc.q qq); (try replace od := od.q qq); (try replace oe := oe.q qq); (try replace HX := Lib.hid (HX.out.q qq (by omega))); (try replace HY := Lib.hid (HY.out.q qq (by omega))); have sq := qq.size; replace QQ := QQ.trans qq; replace sz := QQ.size; clear qq; (try replace ca := ba.cell); (try replace cb := bb.cell); (try replace cc := bc.cell); (try replace cd := bd.cell); (try replace ce := be.cell); (try replace cf := bf.cell)
    go_wp2_with fail
    obtain ⟨gb, of, rfl, hba, hca⟩ := HX.out (by have := HN.out; have := HL4.out; omega)
    obtain ⟨g2, c2', hA2, _, _⟩ := own_parts oa.1 (by omega)
    obtain rfl : A2 = some ⟨g2, 0, none⟩ := by injection hA2
    have HCA := Lib.hid hca
    have OA := Lib.hid oa
    have BA := Lib.hid ba
    have BB := Lib.hid bb
    have HQ := Lib.hid QQ
    clear hca oa ba bb QQ hA2 oa'
    go_loop [5, 7] (fun n i => ∃ k : Nat, k ≤ m ∧ i = .int .i64 k ∧ n = .int .i64 (sumTo (fun j => xs[j]?.getD 0) k)) (fun _ i => m - (intOf i).toNat)
    case atStart => exact ⟨0, by omega, rfl, rfl⟩
    case round =>
      obtain ⟨k, hk, rfl, rfl⟩ := hrel
      obtain ⟨u1, u2⟩ := SA.out k
      have hnext : Hid (sumTo (fun j => xs[j]?.getD 0) (k + 1) = sumTo (fun j => xs[j]?.getD 0) k + xs[k]?.getD 0) := rfl
      by_cases hlt : k < m
      · have hc := HCA.out k (by rw [HN.out]; exact hlt)
        obtain ⟨y1, y2⟩ := HPA.out k hlt
        have hkm : (k : Int) < (m : Int) := by omega
        generalize xs[k]?.getD 0 = y at hc y1 y2 hnext
        generalize sumTo (fun j => xs[j]?.getD 0) k = s at u1 u2 hnext ⊢
        have u4 : s ≤ 1000000 := by omega
        clear u2
        go_wp2_with fail
        go_round
        case rel => exact ⟨k + 1, by omega, by go_num, by rw [hnext.out]⟩
        case measure => simp [intOf]; omega
      · have hkm : k = m := by omega
        subst hkm
        clear hnext
        obtain ⟨sa, hsa⟩ : ∃ sa, sumTo (fun j => xs[j]?.getD 0) k = sa := ⟨_, rfl⟩
        rw [hsa] at u1 u2 ⊢
        have HSA := Lib.hid hsa
        have u4 : sa ≤ 1000000 := by omega
        clear u2 hsa
        go_wp2_with fail
        go_loop [6, 8] (fun n i => ∃ l : Nat, l ≤ d ∧ i = .int .i64 l ∧ n = .int .i64 (sumTo (fun j => zs[j]?.getD 0) l)) (fun _ i => d - (intOf i).toNat)
        case atStart => exact ⟨0, by omega, rfl, rfl⟩
        case round =>
          obtain ⟨l, hl, rfl, rfl⟩ := hrel
          obtain ⟨v1, v2⟩ := SB.out l
          have hnext : Hid (sumTo (fun j => zs[j]?.getD 0) (l + 1) = sumTo (fun j => zs[j]?.getD 0) l + zs[l]?.getD 0) := rfl
          by_cases hlt : l < d
          · have hc := OA.out.1.at l hlt
            obtain ⟨y1, y2⟩ := HPZ.out l hlt
            have hlm : (l : Int) < (d : Int) := by omega
            generalize zs[l]?.getD 0 = y at hc y1 y2 hnext
            generalize sumTo (fun j => zs[j]?.getD 0) l = s at v1 v2 hnext ⊢
            have u5 : s ≤ 1000000 := by omega
            clear v2
            go_wp2_with fail
            go_round
            case rel => exact ⟨l + 1, by omega, by go_num, by rw [hnext.out]⟩
            case measure => simp [intOf]; omega
          · have hld : l = d := by omega
            subst hld
            clear hnext
            have hs := HS.out
            rw [HSA.out] at hs
            generalize sumTo (fun j => zs[j]?.getD 0) l = sc at v1 v2 hs ⊢
            have u5 : sc ≤ 1000000 := by omega
            have hab : absV (4 * sc - sa) ≤ 2 * (l : Int) := by unfold absV; split <;> omega
            have HAB := Lib.hid hab
            have HLL : Hid (4 * (l : Int) = (k : Int)) := by have := HL4.out; unfold Hid; omega
            clear v2 hs hab
            have oa := OA.out
            have ba := BA.out
            have bb := BB.out
            have QQ := HQ.out
            clear OA BA BB HQ
            go_wp2_with fail
            refine (newPicture W H 33 k _ sW sH (by unfold Hid; omega) HWH.out hm).mono ?_; rintro e wv ⟨v, rfl, o4, q4⟩
            obtain ⟨A4, c4, rfl⟩ := o4.form
            (try replace ba := ba.q q4); (try replace bb := bb.q q4); (try replace bc := bc.q q4); (try replace bd := bd.q q4); (try replace be := be.q q4); (try replace bf := bf.q q4); (try replace oa := oa.q q4); (try replace ob := ob.q q4); (try replace oc := oc.q q4); (try replace od := od.q q4); (try replace oe := oe.q q4); (try replace HX := Lib.hid (HX.out.q q4 (by omega))); (try replace HY := Lib.hid (HY.out.q q4 (by omega))); have sq := q4.size; replace QQ := QQ.trans q4; replace sz := QQ.size; clear q4; (try replace ca := ba.cell); (try replace cb := bb.cell); (try replace cc := bc.cell); (try replace cd := bd.cell); (try replace ce := be.cell); (try replace cf := bf.cell)
            go_wp2_with fail
            refine (impl_HalfSize W H A4 k c4 _ (List.replicate k 33) _ o4.rd (Nat.le_refl _) (by simp [Hid]) hm').mono ?_; rw [HF.out]; dsimp only; rw [List.length_replicate]; rintro e wv ⟨v, rfl, o5, q5⟩
            obtain ⟨A5, c5, rfl⟩ := o5.form
            (try replace ba := ba.q q5); (try replace bb := bb.q q5); (try replace bc := bc.q q5); (try replace bd := bd.q q5); (try replace be := be.q q5); (try replace bf := bf.q q5); (try replace oa := oa.q q5); (try replace ob := ob.q q5); (try replace oc := oc.q q5); (try replace od := od.q q5); (try replace oe := oe.q q5); (try replace HX := Lib.hid (HX.out.q q5 (by omega))); (try replace HY := Lib.hid (HY.out.q q5 (by omega))); have sq := q5.size; replace QQ := QQ.trans q5; replace sz := QQ.size; clear q5; (try replace ca := ba.cell); (try replace cb := bb.cell); (try replace cc := bc.cell); (try replace cd := bd.cell); (try replace ce := be.cell); (try replace cf := bf.cell)
            have ob := o5.i
            clear o4 o5
            have sb : (wv.alloc (.cells #[.int .i64 wn, .int .i64 hn, .slice A5 l c5] 27)).heap.size = wv.heap.size + 1 := (by simp); have qb : Q wv (wv.alloc (.cells #[.int .i64 wn, .int .i64 hn, .slice A5 l c5] 27)) := (Q.refl wv).alloc _; (try replace ba := ba.q qb); (try replace bb := bb.q qb); (try replace bc := bc.q qb); (try replace bd := bd.q qb); (try replace be := be.q qb); (try replace bf := bf.q qb); (try replace oa := oa.q qb); (try replace ob := ob.q qb); (try replace oc := oc.q qb); (try replace od := od.q qb); (try replace oe := oe.q qb); (try replace HX := Lib.hid (HX.out.q qb (by omega))); (try replace HY := Lib.hid (HY.out.q qb (by omega))); have sq := qb.size; replace QQ := QQ.trans qb; replace sz := QQ.size; clear qb; (try replace ca := ba.cell); (try replace cb := bb.cell); (try replace cc := bc.cell); (try replace cd := bd.cell); (try replace ce := be.cell); (try replace cf := bf.cell); have bc := Blk.new wv 27 #[.int .i64 wn, .int .i64 hn, .slice A5 l c5]; (try replace ca := ba.cell); (try replace cb := bb.cell); (try replace cc := bc.cell); (try replace cd := bd.cell); (try replace ce := be.cell); (try replace cf := bf.cell)
            obtain ⟨wr, rfl⟩ : ∃ wr, wr = wv := ⟨_, rfl⟩
            go_wp2_with fail
            generalize wr.alloc (.cells #[.int .i64 wn, .int .i64 hn, .slice A5 l c5] 27) = wb at HX QQ sz sq sb ba bb bc ca cb cc oa ob ⊢
            refine wp_region_x (fun ww => Q wb ww ∧ (∀ i, ww.cell? ⟨wp.heap.size, i, none⟩ = (#[.int .i64 W, .int .i64 H, .slice (some ⟨gb, of, none⟩) k c] : Array Value)[i]?) ∧ (∀ i, ww.cell? ⟨wq.heap.size, i, none⟩ = (#[.int .i64 wn, .int .i64 hn, .slice (some ⟨g2, 0, none⟩) l c2] : Array Value)[i]?) ∧ (∀ i, ww.cell? ⟨wr.heap.size, i, none⟩ = (#[.int .i64 wn, .int .i64 hn, .slice A5 l c5] : Array Value)[i]?)) (fun _ => false) (by kernel_rfl) ⟨(Q.refl _).drew, ba.cell, bb.cell, bc.cell⟩ (fun hS => ?_)
            refine wpAnyX_take (i := 0) (v := ?vv4) rfl (by kernel_rfl) (by kernel_rfl) (by kernel_rfl) (by kernel_rfl) (fun _ _ _ h => h) (Or.inl ⟨by rfl, ?hy4⟩) hS ?rest4
            case hy4 => (intro ww hSw; (try dsimp only at hSw); go_split_ands; go_simp; try with_reducible rfl)
            try simp only [Act.put, List.setIfInBounds_toArray, List.set_cons_zero, List.set_cons_succ]
            refine wpAnyX_step (k := 1) (by kernel_rfl) rfl rfl (fun K2 hK2 => ?_); go_simp
            refine (impl_PictureValid (wn : Int) (hn : Int) (some ⟨g2, 0, none⟩) l c2 _ zs true _ (oa.q hS.1).rd (Nat.le_refl _) HZ (by omega) HV).mono ?_; rintro e wy ⟨rfl, q6⟩
            have qq := hS.1.trans q6
            refine hK2.out _ _ ⟨qq, (ba.q qq).cell, (bb.q qq).cell, (bc.q qq).cell⟩ (fun hS => ?_)
            clear hK2 K2; (try simp only [Act.put, List.setIfInBounds_toArray, List.set_cons_zero, List.set_cons_succ])
            have b10 : 4 * (l : Int) = (k : Int) := HLL.out
            have b11 : IntKind.i64.wrap (k : Int) = (k : Int) := IntWalk.i64_in _ ⟨by omega, by omega⟩
            have b12 : IntKind.i64.wrap (4 * sc) = 4 * sc := IntWalk.i64_in _ ⟨by omega, by omega⟩
            have b13 : IntKind.i64.wrap (4 * sc - sa) = 4 * sc - sa := IntWalk.i64_in _ ⟨by omega, by omega⟩
            have b14 : IntKind.i64.wrap (2 * (l : Int)) = 2 * (l : Int) := IntWalk.i64_in _ ⟨by omega, by omega⟩
            refine wpAnyX_take (i := 2) (v := ?vv5) rfl (by kernel_rfl) (by kernel_rfl) (by kernel_rfl) (by kernel_rfl) (fun _ _ _ h => h) (Or.inl ⟨by rfl, ?hy5⟩) hS ?rest5
            case hy5 => (intro ww hSw; (try dsimp only at hSw); go_split_ands; go_simp; try with_reducible rfl)
            try simp only [Act.put, List.setIfInBounds_toArray, List.set_cons_zero, List.set_cons_succ]
            refine wpAnyX_take (i := 3) (v := ?vv6) rfl (by kernel_rfl) (by kernel_rfl) (by kernel_rfl) (by kernel_rfl) (fun _ _ _ h => h) (Or.inl ⟨by rfl, ?hy6⟩) hS ?rest6
            case hy6 => (intro ww hSw; (try dsimp only at hSw); go_split_ands; go_simp; try with_reducible rfl)
            try simp only [Act.put, List.setIfInBounds_toArray, List.set_cons_zero, List.set_cons_succ]
            refine wpAnyX_take (i := 4) (v := ?vv7) rfl (by kernel_rfl) (by kernel_rfl) (by kernel_rfl) (by kernel_rfl) (fun _ _ _ h => h) (Or.inl ⟨by rfl, ?hy7⟩) hS ?rest7
            case hy7 => (intro ww hSw; (try dsimp only at hSw); go_split_ands; go_simp; try with_reducible rfl)
            try simp only [Act.put, List.setIfInBounds_toArray, List.set_cons_zero, List.set_cons_succ]
            refine wpAnyX_take (i := 5) (v := ?vv8) rfl (by kernel_rfl) (by kernel_rfl) (by kernel_rfl) (by kernel_rfl) (fun _ _ _ h => h) (Or.inl ⟨by rfl, ?hy8⟩) hS ?rest8
            case hy8 => (intro ww hSw; (try dsimp only at hSw); go_split_ands; go_simp; try with_reducible rfl)
            try simp only [Act.put, List.setIfInBounds_toArray, List.set_cons_zero, List.set_cons_succ]
            refine wpAnyX_take (i := 6) (v := ?vv9) rfl (by kernel_rfl) (by kernel_rfl) (by kernel_rfl) (by kernel_rfl) (fun _ _ _ h => h) (Or.inl ⟨by rfl, ?hy9⟩) hS ?rest9
            case hy9 => (intro ww hSw; (try dsimp only at hSw); go_split_ands; go_simp; try with_reducible rfl)
            try simp only [Act.put, List.setIfInBounds_toArray, List.set_cons_zero, List.set_cons_succ]
            refine wpAnyX_take (i := 7) (v := ?vv10) rfl (by kernel_rfl) (by kernel_rfl) (by kernel_rfl) (by kernel_rfl) (fun _ _ _ h => h) (Or.inl ⟨by rfl, ?hy10⟩) hS ?rest10
            case hy10 => (intro ww hSw; (try dsimp only at hSw); go_split_ands; go_simp; try with_reducible rfl)
            try simp only [Act.put, List.setIfInBounds_toArray, List.set_cons_zero, List.set_cons_succ]
            refine wpAnyX_take (i := 8) (v := ?vv11) rfl (by kernel_rfl) (by kernel_rfl) (by kernel_rfl) (by kernel_rfl) (fun _ _ _ h => h) (Or.inl ⟨by rfl, ?hy11⟩) hS ?rest11
            case hy11 => (intro ww hSw; (try dsimp only at hSw); go_split_ands; go_simp; try with_reducible rfl)
            try simp only [Act.put, List.setIfInBounds_toArray, List.set_cons_zero, List.set_cons_succ]
            refine wpAnyX_take (i := 9) (v := ?vv12) rfl (by kernel_rfl) (by kernel_rfl) (by kernel_rfl) (by kernel_rfl) (fun _ _ _ h => h) (Or.inl ⟨by rfl, ?hy12⟩) hS ?rest12
            case hy12 => (intro ww hSw; (try dsimp only at hSw); go_split_ands; go_simp; try with_reducible rfl)
            try simp only [Act.put, List.setIfInBounds_toArray, List.set_cons_zero, List.set_cons_succ]
            refine wpAnyX_take (i := 10) (v := ?vv13) rfl (by kernel_rfl) (by kernel_rfl) (by kernel_rfl) (by kernel_rfl) (fun _ _ _ h => h) (Or.inl ⟨by rfl, ?hy13⟩) hS ?rest13
            case hy13 => (intro ww hSw; (try dsimp only at hSw); go_split_ands; go_simp; try with_reducible rfl)
            try simp only [Act.put, List.setIfInBounds_toArray, List.set_cons_zero, List.set_cons_succ]
            refine wpAnyX_take (i := 11) (v := ?vv14) rfl (by kernel_rfl) (by kernel_rfl) (by kernel_rfl) (by kernel_rfl) (fun _ _ _ h => h) (Or.inl ⟨by rfl, ?hy14⟩) hS ?rest14
            case hy14 => (intro ww hSw; (try dsimp only at hSw); go_split_ands; go_simp; try with_reducible rfl)
            try simp only [Act.put, List.setIfInBounds_toArray, List.set_cons_zero, List.set_cons_succ]
            refine wpAnyX_take (i := 12) (v := ?vv15) rfl (by kernel_rfl) (by kernel_rfl) (by kernel_rfl) (by kernel_rfl) (fun _ _ _ h => h) (Or.inl ⟨by rfl, ?hy15⟩) hS ?rest15
            case hy15 => (intro ww hSw; (try dsimp only at hSw); go_split_ands; go_simp; try with_reducible rfl)
            try simp only [Act.put, List.setIfInBounds_toArray, List.set_cons_zero, List.set_cons_succ]
            refine wpAnyX_take (i := 13) (v := ?vv16) rfl (by kernel_rfl) (by kernel_rfl) (by kernel_rfl) (by kernel_rfl) (fun _ _ _ h => h) (Or.inl ⟨by rfl, ?hy16⟩) hS ?rest16
            case hy16 => (intro ww hSw; (try dsimp only at hSw); go_split_ands; go_simp; try with_reducible rfl)
            try simp only [Act.put, List.setIfInBounds_toArray, List.set_cons_zero, List.set_cons_succ]
            refine wpAnyX_take (i := 14) (v := ?vv17) rfl (by kernel_rfl) (by kernel_rfl) (by kernel_rfl) (by kernel_rfl) (fun _ _ _ h => h) (Or.inl ⟨by rfl, ?hy17⟩) hS ?rest17
            case hy17 => (intro ww hSw; (try dsimp only at hSw); go_split_ands; go_simp; try with_reducible rfl)
            try simp only [Act.put, List.setIfInBounds_toArray, List.set_cons_zero, List.set_cons_succ]
            refine wpAnyX_take (i := 15) (v := ?vv18) rfl (by kernel_rfl) (by kernel_rfl) (by kernel_rfl) (by kernel_rfl) (fun _ _ _ h => h) (Or.inl ⟨by rfl, ?hy18⟩) hS ?rest18
            case hy18 => (intro ww hSw; (try dsimp only at hSw); go_split_ands; go_simp; try with_reducible rfl)
            try simp only [Act.put, List.setIfInBounds_toArray, List.set_cons_zero, List.set_cons_succ]
            refine wpAnyX_take (i := 16) (v := ?vv19) rfl (by kernel_rfl) (by kernel_rfl) (by kernel_rfl) (by kernel_rfl) (fun _ _ _ h => h) (Or.inl ⟨by rfl, ?hy19⟩) hS ?rest19
            case hy19 => (intro ww hSw; (try dsimp only at hSw); go_split_ands; go_simp; try with_reducible rfl)
            try simp only [Act.put, List.setIfInBounds_toArray, List.set_cons_zero, List.set_cons_succ]
            refine wpAnyX_take (i := 18) (v := ?vv20) rfl (by kernel_rfl) (by kernel_rfl) (by kernel_rfl) (by kernel_rfl) (fun _ _ _ h => h) (Or.inl ⟨by rfl, ?hy20⟩) hS ?rest20
            case hy20 => (intro ww hSw; (try dsimp only at hSw); go_split_ands; go_simp; try with_reducible rfl)
            try simp only [Act.put, List.setIfInBounds_toArray, List.set_cons_zero, List.set_cons_succ]
            refine wpAnyX_take (i := 19) (v := ?vv21) rfl (by kernel_rfl) (by kernel_rfl) (by kernel_rfl) (by kernel_rfl) (fun _ _ _ h => h) (Or.inl ⟨by rfl, ?hy21⟩) hS ?rest21
            case hy21 => (intro ww hSw; (try dsimp only at hSw); go_split_ands; go_simp; try with_reducible rfl)
            try simp only [Act.put, List.setIfInBounds_toArray, List.set_cons_zero, List.set_cons_succ]
            refine wpAnyX_take (i := 20) (v := ?vv22) rfl (by kernel_rfl) (by kernel_rfl) (by kernel_rfl) (by kernel_rfl) (fun _ _ _ h => h) (Or.inl ⟨by rfl, ?hy22⟩) hS ?rest22
            case hy22 => (intro ww hSw; (try dsimp only at hSw); go_split_ands; go_simp; try with_reducible rfl)
            try simp only [Act.put, List.setIfInBounds_toArray, List.set_cons_zero, List.set_cons_succ]
            refine wpAnyX_take (i := 21) (v := ?vv23) rfl (by kernel_rfl) (by kernel_rfl) (by kernel_rfl) (by kernel_rfl) (fun _ _ _ h => h) (Or.inl ⟨by rfl, ?hy23⟩) hS ?rest23
            case hy23 => (intro ww hSw; (try dsimp only at hSw); go_split_ands; go_simp; try with_reducible rfl)
            try simp only [Act.put, List.setIfInBounds_toArray, List.set_cons_zero, List.set_cons_succ]
            clear b10 b11 b12 b13 b14
            have hab := HAB.out
            refine wpAnyX_step (k := 17) (by kernel_rfl) rfl rfl (fun K2 hK2 => ?_); go_simp
            refine (abs_val (4 * sc - sa) _ (by omega) (by omega)).mono ?_; rintro e wy' ⟨rfl, rfl⟩
            generalize absV (4 * sc - sa) = av at hab ⊢
            refine hK2.out _ _ hS (fun hS => ?_)
            clear hK2 K2; (try simp only [Act.put, List.setIfInBounds_toArray, List.set_cons_zero, List.set_cons_succ])
            refine wpAnyX_take (i := 22) (v := ?vv24) rfl (by kernel_rfl) (by kernel_rfl) (by kernel_rfl) (by kernel_rfl) (fun _ _ _ h => h) (Or.inl ⟨by rfl, ?hy24⟩) hS ?rest24
            case hy24 => (intro ww hSw; (try dsimp only at hSw); go_split_ands; go_simp; try with_reducible rfl)
            try simp only [Act.put, List.setIfInBounds_toArray, List.set_cons_zero, List.set_cons_succ]
            refine wpAnyX_take (i := 23) (v := ?vv25) rfl (by kernel_rfl) (by kernel_rfl) (by kernel_rfl) (by kernel_rfl) (fun _ _ _ h => h) (Or.inl ⟨by rfl, ?hy25⟩) hS ?rest25
            case hy25 => (intro ww hSw; (try dsimp only at hSw); go_split_ands; go_simp; try with_reducible rfl)
            try simp only [Act.put, List.setIfInBounds_toArray, List.set_cons_zero, List.set_cons_succ]
            refine wpAnyX_take (i := 24) (v := ?vv26) rfl (by kernel_rfl) (by kernel_rfl) (by kernel_rfl) (by kernel_rfl) (fun _ _ _ h => h) (Or.inl ⟨by rfl, ?hy26⟩) hS ?rest26
            case hy26 => (intro ww hSw; (try dsimp only at hSw); go_split_ands; go_simp; try with_reducible rfl)
            try simp only [Act.put, List.setIfInBounds_toArray, List.set_cons_zero, List.set_cons_succ]
            refine wpAnyX_take (i := 25) (v := ?vv27) rfl (by kernel_rfl) (by kernel_rfl) (by kernel_rfl) (by kernel_rfl) (fun _ _ _ h => h) (Or.inl ⟨by rfl, ?hy27⟩) hS ?rest27
            case hy27 => (intro ww hSw; (try dsimp only at hSw); go_split_ands; go_simp; try with_reducible rfl)
            try simp only [Act.put, List.setIfInBounds_toArray, List.set_cons_zero, List.set_cons_succ]
            refine wpAnyX_take (i := 26) (v := ?vv28) rfl (by kernel_rfl) (by kernel_rfl) (by kernel_rfl) (by kernel_rfl) (fun _ _ _ h => h) (Or.inl ⟨by rfl, ?hy28⟩) hS ?rest28
            case hy28 => (intro ww hSw; (try dsimp only at hSw); go_split_ands; go_simp; try with_reducible rfl)
            try simp only [Act.put, List.setIfInBounds_toArray, List.set_cons_zero, List.set_cons_succ]
            refine wpAnyX_take (i := 27) (v := ?vv29) rfl (by kernel_rfl) (by kernel_rfl) (by kernel_rfl) (by kernel_rfl) (fun _ _ _ h => h) (Or.inl ⟨by rfl, ?hy29⟩) hS ?rest29
            case hy29 => (intro ww hSw; (try dsimp only at hSw); go_split_ands; go_simp; try with_reducible rfl)
            try simp only [Act.put, List.setIfInBounds_toArray, List.set_cons_zero, List.set_cons_succ]
            refine wpAnyX_take (i := 28) (v := ?vv30) rfl (by kernel_rfl) (by kernel_rfl) (by kernel_rfl) (by kernel_rfl) (fun _ _ _ h => h) (Or.inl ⟨by rfl, ?hy30⟩) hS ?rest30
            case hy30 => (intro ww hSw; (try dsimp only at hSw); go_split_ands; go_simp; try with_reducible rfl)
            try simp only [Act.put, List.setIfInBounds_toArray, List.set_cons_zero, List.set_cons_succ]
            refine wpAnyX_take (i := 29) (v := ?vv31) rfl (by kernel_rfl) (by kernel_rfl) (by kernel_rfl) (by kernel_rfl) (fun _ _ _ h => h) (Or.inl ⟨by rfl, ?hy31⟩) hS ?rest31
            case hy31 => (intro ww hSw; (try dsimp only at hSw); go_split_ands; go_simp; try with_reducible rfl)
            try simp only [Act.put, List.setIfInBounds_toArray, List.set_cons_zero, List.set_cons_succ]
            refine wpAnyX_step (k := 30) (by kernel_rfl) rfl rfl (fun K2 hK2 => ?_); go_simp
            refine (newPicture (wn : Int) (hn : Int) 33 l _ sw sh (by unfold Hid; omega) Hwh.out (by omega)).mono ?_; rintro e wx ⟨v, rfl, o6, q7⟩
            obtain ⟨A6, c6, rfl⟩ := o6.form
            have q8 := qq.trans q7
            refine hK2.out _ _ ⟨q8, (ba.q q8).cell, (bb.q q8).cell, (bc.q q8).cell⟩ (fun hS => ?_)
            clear hK2 K2; (try simp only [Act.put, List.setIfInBounds_toArray, List.set_cons_zero, List.set_cons_succ])
            refine wpAnyX_step (k := 31) (by kernel_rfl) rfl rfl (fun K2 hK2 => ?_); go_simp
            refine (samePicture (wn : Int) (hn : Int) (wn : Int) (hn : Int) A5 A6 l l c5 c6 _ _ (List.replicate l 33) (List.replicate l 33) true _ (ob.q q8).rd (Nat.le_refl _) o6.rd (Nat.le_refl _) (by simp [Hid]) (by simp [Hid]) hdm hdm (decide_eq_true ⟨rfl, rfl, rfl⟩)).mono ?_; rintro e wt ⟨rfl, q9⟩
            have q10 := q8.trans q9
            refine hK2.out _ _ ⟨q10, (ba.q q10).cell, (bb.q q10).cell, (bc.q q10).cell⟩ (fun hS => ?_)
            clear hK2 K2; (try simp only [Act.put, List.setIfInBounds_toArray, List.set_cons_zero, List.set_cons_succ])
            refine wpAnyX_take (i := 32) (v := ?vv32) rfl (by kernel_rfl) (by kernel_rfl) (by kernel_rfl) (by kernel_rfl) (fun _ _ _ h => h) (Or.inl ⟨by rfl, ?hy32⟩) hS ?rest32
            case hy32 => (intro ww hSw; (try dsimp only at hSw); go_split_ands; go_simp; try with_reducible rfl)
            try simp only [Act.put, List.setIfInBounds_toArray, List.set_cons_zero, List.set_cons_succ]
            refine wpAnyX_take (i := 33) (v := ?vv33) rfl (by kernel_rfl) (by kernel_rfl) (by kernel_rfl) (by kernel_rfl) (fun _ _ _ h => h) (Or.inl ⟨by rfl, ?hy33⟩) hS ?rest33
            case hy33 => (intro ww hSw; (try dsimp only at hSw); go_split_ands; go_simp; try with_reducible rfl)
            try simp only [Act.put, List.setIfInBounds_toArray, List.set_cons_zero, List.set_cons_succ]
            refine wpAnyX_done (by kernel_rfl) ?_ _
            have QZ := QQ.trans q10
            clear hS
            go_wp2_with fail
            go_ret
            exact ⟨rfl, QZ⟩
  · have hP : halfP W H xs = (0, 0, []) := if_neg hok
    have HP := Lib.hid hP
    clear hok hP
    go_wp2_with fail
    refine (impl_HalfSize W H A m c _ xs _ HX.out (by omega) HN hm').mono ?_; rw [HP.out]; dsimp only; rw [List.length_nil]; rintro e wv ⟨v, rfl, o2, q2⟩
    obtain ⟨A2, c2, rfl⟩ := o2.form
    (try replace ba := ba.q q2); (try replace bb := bb.q q2); (try replace bc := bc.q q2); (try replace bd := bd.q q2); (try replace be := be.q q2); (try replace bf := bf.q q2); (try replace oa := oa.q q2); (try replace ob := ob.q q2); (try replace oc := oc.q q2); (try replace od := od.q q2); (try replace oe := oe.q q2); (try replace HX := Lib.hid (HX.out.q q2 (by omega))); (try replace HY := Lib.hid (HY.out.q q2 (by omega))); have sq := q2.size; replace QQ := QQ.trans q2; replace sz := QQ.size; clear q2; (try replace ca := ba.cell); (try replace cb := bb.cell); (try replace cc := bc.cell); (try replace cd := bd.cell); (try replace ce := be.cell); (try replace cf := bf.cell)
    have oa := o2.i
    clear o2
    have sb : (wv.alloc (.cells #[.int .i64 0, .int .i64 0, .slice A2 0 c2] 27)).heap.size = wv.heap.size + 1 := (by simp); have qb : Q wv (wv.alloc (.cells #[.int .i64 0, .int .i64 0, .slice A2 0 c2] 27)) := (Q.refl wv).alloc _; (try replace ba := ba.q qb); (try replace bb := bb.q qb); (try replace bc := bc.q qb); (try replace bd := bd.q qb); (try replace be := be.q qb); (try replace bf := bf.q qb); (try replace oa := oa.q qb); (try replace ob := ob.q qb); (try replace oc := oc.q qb); (try replace od := od.q qb); (try replace oe := oe.q qb); (try replace HX := Lib.hid (HX.out.q qb (by omega))); (try replace HY := Lib.hid (HY.out.q qb (by omega))); have sq := qb.size; replace QQ := QQ.trans qb; replace sz := QQ.size; clear qb; (try replace ca := ba.cell); (try replace cb := bb.cell); (try replace cc := bc.cell); (try replace cd := bd.cell); (try replace ce := be.cell); (try replace cf := bf.cell); have bb := Blk.new wv 27 #[.int .i64 0, .int .i64 0, .slice A2 0 c2]; (try replace ca := ba.cell); (try replace cb := bb.cell); (try replace cc := bc.cell); (try replace cd := bd.cell); (try replace ce := be.cell); (try replace cf := bf.cell)
    obtain ⟨wq, rfl⟩ : ∃ wq, wq = wv := ⟨_, rfl⟩
    go_wp2_with fail
    generalize wq.alloc (.cells #[.int .i64 0, .int .i64 0, .slice A2 0 c2] 27) = wb at HX QQ sz sq sb ba bb ca cb oa ⊢
    refine wp_region_x (fun ww => Q wb ww ∧ (∀ i, ww.cell? ⟨wp.heap.size, i, none⟩ = (#[.int .i64 W, .int .i64 H, .slice A m c] : Array Value)[i]?) ∧ (∀ i, ww.cell? ⟨wq.heap.size, i, none⟩ = (#[.int .i64 0, .int .i64 0, .slice A2 0 c2] : Array Value)[i]?)) (fun _ => false) (by kernel_rfl) ⟨(Q.refl _).drew, ba.cell, bb.cell⟩ (fun hS => ?_)
    refine wpAnyX_take (i := 0) (v := ?vv34) rfl (by kernel_rfl) (by kernel_rfl) (by kernel_rfl) (by kernel_rfl) (fun _ _ _ h => h) (Or.inl ⟨by rfl, ?hy34⟩) hS ?rest34
    case hy34 => (intro ww hSw; (try dsimp only at hSw); go_split_ands; go_simp; try with_reducible rfl)
    try simp only [Act.put, List.setIfInBounds_toArray, List.set_cons_zero, List.set_cons_succ]
    refine wpAnyX_take (i := 1) (v := ?vv35) rfl (by kernel_rfl) (by kernel_rfl) (by kernel_rfl) (by kernel_rfl) (fun _ _ _ h => h) (Or.inl ⟨by rfl, ?hy35⟩) hS ?rest35
    case hy35 => (intro ww hSw; (try dsimp only at hSw); go_split_ands; go_simp; try with_reducible rfl)
    try simp only [Act.put, List.setIfInBounds_toArray, List.set_cons_zero, List.set_cons_succ]
    refine wpAnyX_step (k := 2) (by kernel_rfl) rfl rfl (fun K2 hK2 => ?_); go_simp
    refine (spec_HalfSize W H A m c _ xs _ (HX.out.q hS.1 (by omega)) (Nat.le_trans (by omega) hS.1.size) HN hm').mono ?_; rw [HP.out]; dsimp only; rw [List.length_nil]; rintro e wz ⟨v, rfl, o3, q3⟩
    obtain ⟨A3, c3, rfl⟩ := o3.form
    have q4 := hS.1.trans q3
    refine hK2.out _ _ ⟨q4, (ba.q q4).cell, (bb.q q4).cell⟩ (fun hS => ?_)
    clear hK2 K2; (try simp only [Act.put, List.setIfInBounds_toArray, List.set_cons_zero, List.set_cons_succ])
    refine wpAnyX_step (k := 3) (by kernel_rfl) rfl rfl (fun K2 hK2 => ?_); go_simp
    refine (samePicture 0 0 0 0 A2 A3 0 0 c2 c3 _ _ [] [] true _ (oa.q q4).rd (Nat.le_refl _) o3.rd (Nat.le_refl _) rfl rfl (by unfold maxLen; omega) (by unfold maxLen; omega) (decide_eq_true ⟨rfl, rfl, rfl⟩)).mono ?_; rintro e wy ⟨rfl, q5⟩
    have qq := q4.trans q5
    refine hK2.out _ _ ⟨qq, (ba.q qq).cell, (bb.q qq).cell⟩ (fun hS => ?_)
    clear hK2 K2; (try simp only [Act.put, List.setIfInBounds_toArray, List.set_cons_zero, List.set_cons_succ])
    refine wpAnyX_take (i := 4) (v := ?vv36) rfl (by kernel_rfl) (by kernel_rfl) (by kernel_rfl) (by kernel_rfl) (fun _ _ _ h => h) (Or.inl ⟨by rfl, ?hy36⟩) hS ?rest36
    case hy36 => (intro ww hSw; (try dsimp only at hSw); go_split_ands; go_simp; try with_reducible rfl)
    try simp only [Act.put, List.setIfInBounds_toArray, List.set_cons_zero, List.set_cons_succ]
    refine wpAnyX_done (by kernel_rfl) ?_ _
    clear hS q3 q4 q5 o3
    obtain ⟨wv, rfl⟩ : ∃ wv, wv = wy := ⟨_, rfl⟩
    (try replace ba := ba.q qq); (try replace bb := bb.q qq); (try replace bc := bc.q qq); (try replace bd := bd.q qq); (try replace be := be.q qq); (try replace bf := bf.q qq); (try replace oa := oa.q qq); (try replace ob := ob.q qq); (try replace oc := oc.q qq); (try replace od := od.q qq); (try replace oe := oe.q qq); (try replace HX := Lib.hid (HX.out.q qq (by omega))); (try replace HY := Lib.hid (HY.out.q qq (by omega))); have sq := qq.size; replace QQ := QQ.trans qq; replace sz := QQ.size; clear qq; (try replace ca := ba.cell); (try replace cb := bb.cell); (try replace cc := bc.cell); (try replace cd := bd.cell); (try replace ce := be.cell); (try replace cf := bf.cell)
    go_wp2_with fail
    refine (alive _).mono ?_; rintro e wv ⟨rfl, q2⟩
    (try replace ba := ba.q q2); (try replace bb := bb.q q2); (try replace bc := bc.q q2); (try replace bd := bd.q q2); (try replace be := be.q q2); (try replace bf := bf.q q2); (try replace oa := oa.q q2); (try replace ob := ob.q q2); (try replace oc := oc.q q2); (try replace od := od.q q2); (try replace oe := oe.q q2); (try replace HX := Lib.hid (HX.out.q q2 (by omega))); (try replace HY := Lib.hid (HY.out.q q2 (by omega))); have sq := q2.size; replace QQ := QQ.trans q2; replace sz := QQ.size; clear q2; (try replace ca := ba.cell); (try replace cb := bb.cell); (try replace cc := bc.cell); (try replace cd := bd.cell); (try replace ce := be.cell); (try replace cf := bf.cell)
    go_wp2_with fail
    go_ret
    exact ⟨rfl, QQ⟩
set_option maxRecDepth 100000 in
theorem lifted_FnHalfSize (os : Os) (started : os.Started) (H : Type) (enc : TypeId × Value → H) :
    ReturnsInHanded {} Try.checked os 9 .any (Rows.fnHalfSizeSpec.pre6 enc Try.prog Try.f9 Rows.fnHalfSizeRow.domain false) (Rows.fnHalfSizeSpec.post enc Try.prog Try.f9 false true false false) := by
  refine returnsInHanded_of_change (C := Try.checked) own_knob started (by kernel_rfl) Try.func9
    (ChangeSpec.witness6 (enc := enc) (C := Try.checked) false ⟨#[], #[.slice none 0 0], []⟩ 8 (by kernel_rfl) (by kernel_rfl) (by kernel_rfl) (by kernel_rfl)) ?_
  intro W base args ds gs before hval0 hW hcnd _
  have hval : ∀ (j : Nat) t v, Try.f9.params[j]? = some t → args[j]? = some v → Value.okWide Try.prog W .any base t v := hval0
  have hW' := hW
  obtain ⟨p, q, hA0, hV, rfl, hfz, hnd⟩ := hW
  have hA : DataW.TrodAll enc Try.prog W 0 (fun _ => true) true Try.f9.params.toList args.toList ds p := hA0
  rw [Try.params9] at hA hval
  obtain ⟨v0, vs0, d0, ds0, p0, q0, hargs, rfl, rfl, h0, r0⟩ := trodAll_cons hA
  obtain ⟨rfl, rfl, rfl⟩ := trodAll_nil r0
  obtain rfl : args = #[v0] := by cases args; simp_all
  obtain ⟨rfl, rfl⟩ := trodVars_none hV
  have k0 := h0
  have lt0 : ∀ x ∈ p0, x.block < W.heap.size := by obtain ⟨m, hm⟩ := k0; exact DataW.trod_lt m _ _ _ hm
  obtain ⟨x0, o0⟩ := open_bytes (hval 0 38 v0 rfl rfl) h0
  clear hA0 hval0
  refine (walk_FnHalfSize W v0 x0 o0).mono fun e W' ⟨he, bel⟩ => ?_
  subst he
  exact ⟨_, rfl, _, _, _, [], _, [], hW', trodAll_mk1 (shut_bool Try.underlying4 _), (trodAll_cons_mk (Below.trod laid_out (by kernel_rfl) (of_decide_eq_true (by kernel_rfl)) k0 bel lt0) trodAll_mk0), rfl, bel.frame _, fun h => by cases h⟩

/-- The statement. -/
theorem FnHalfSize_holds : Rows.FnHalfSizeSaid :=
  OpenClaim.holds_of_wide 9 Try.f9 rfl rfl rfl rfl rfl rfl rfl ⟨rfl, rfl, rfl, rfl, rfl⟩ rfl rfl rfl rfl rfl (by kernel_rfl) Try.func9 (by kernel_rfl)
    (of_decide_eq_true (by kernel_rfl)) (by unfold Func.isWrapper; first | (rw [if_pos (by decide +kernel)]; kernel_rfl) | (rw [if_neg (by decide +kernel)]; exact ⟨rfl, rfl⟩))
    (fun os started H enc _ => lifted_FnHalfSize os started H enc)
#print axioms FnHalfSize_holds
end Go.Proofs.Ytoipcfpbkjanhaa

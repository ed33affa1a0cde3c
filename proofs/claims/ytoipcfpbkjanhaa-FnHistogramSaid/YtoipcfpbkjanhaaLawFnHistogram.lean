/-
  FnHistogram: for every code of at most 1048576 bytes the law returns true: the numbers of a histogram add up to the number of samples, and are the same for the transposed picture; for longer codes the law asks nothing. No condition.
-/
import Derived.Test.YtoipcfpbkjanhaaDrawS
import Derived.Test.YtoipcfpbkjanhaaTransp
import Derived.Test.YtoipcfpbkjanhaaSame
namespace Go.Proofs.Ytoipcfpbkjanhaa
open Go.ChangeShapes Go.WideShapes Go.ChangeAt Go.RowKit

theorem allB_of {xs : List Int} (h : ∀ k, k < xs.length → 0 ≤ xs[k]?.getD 0 ∧ xs[k]?.getD 0 ≤ 255) : allB xs = true := by
  unfold allB
  rw [List.all_eq_true]
  intro x hx
  obtain ⟨i, hi, rfl⟩ := List.mem_iff_getElem.1 hx
  have := h i hi
  rw [List.getElem?_eq_getElem hi] at this
  exact decide_eq_true this
theorem picB_tr {W H : Int} {xs : List Int} (h : picB W H xs = true) : picB H W (trL W.toNat H.toNat xs) = true := by
  obtain ⟨pW, pH, pl, pa⟩ := picB_parts h
  have hl : xs.length = W.toNat * H.toNat := by
    have e1 : ((W.toNat : Nat) : Int) = W := by omega
    have e2 : ((H.toNat : Nat) : Int) = H := by omega
    rw [← e1, ← e2, ← Int.natCast_mul] at pl
    exact_mod_cast pl
  have ha : allB (trL W.toNat H.toNat xs) = true := allB_of fun k hk => by
    rw [length_trL] at hk
    unfold trL
    rw [tab_get _ _ _ hk]
    exact allB_get pa _ (by rw [hl]; exact trI_lt hk)
  unfold picB sideB
  rw [ha, length_trL, ← hl]
  simp only [Bool.and_true, Bool.and_eq_true, decide_eq_true_eq]
  exact ⟨pH, pW, by rw [pl, Int.mul_comm]⟩
theorem hist_tr {W H : Int} {xs : List Int} (h : picB W H xs = true) : hist (trP W H xs).1 (trP W H xs).2.1 (trP W H xs).2.2 = hist W H xs := by
  rw [trP, if_pos h]
  show hist H W (trL W.toNat H.toNat xs) = _
  rw [hist_yes (picB_tr h), hist_yes h]
  obtain ⟨pW, pH, pl, _⟩ := picB_parts h
  refine hist_trL _ _ xs ?_
  have e1 : ((W.toNat : Nat) : Int) = W := by omega
  have e2 : ((H.toNat : Nat) : Int) = H := by omega
  rw [← e1, ← e2, ← Int.natCast_mul] at pl
  exact_mod_cast pl
theorem sum_bound (f : Nat → Int) (M : Int) (h : ∀ k, 0 ≤ f k ∧ f k ≤ M) (k : Nat) : 0 ≤ sumTo f k ∧ sumTo f k ≤ k * M := by
  induction k with
  | zero => simp [sumTo]
  | succ k ih =>
    have := h k
    rw [sumTo, Int.natCast_succ, Int.add_mul, Int.one_mul]
    omega

set_option maxRecDepth 100000 in
set_option maxHeartbeats 4000000 in
theorem walk_FnHistogram (w : World) (v0 : Value) (x0 : Option Addr × Nat × List Int) (h0 : ArgBytes w v0 x0) :
    Calls Try.prog 8 #[v0] w fun e w' => e = .returned (.bool true) ∧ Q w w' := by
  have hv := h0.1; have hm := h0.2.2.1; unfold maxLen at hm; generalize hn : x0.2.2.length = nn at hv hm; have HN := Lib.hid hn; clear hn; by_cases hbig : 1048576 < nn; (subst hv; go_enter Try.func8, Try.ntmps8; go_wp2_with fail; go_ret; exact ⟨rfl, Q.refl _⟩); have H0 : ArgBytes w (.slice x0.1 nn x0.2.1) x0 := (by rw [hv] at h0; exact h0); subst hv; clear h0; go_enter Try.func8, Try.ntmps8; go_wp2_with fail
  refine (DrawHistogram _ _ _ H0).mono ?_; rintro e wv ⟨⟨W, H, A, m, c, xs, rfl, o1, hl, hm, i1, i2, i3, i4, i5, i6⟩, QQ⟩
  have HN : Hid (xs.length = m) := hl
  have sz := QQ.size
  have HX := Lib.hid o1.rd
  have sx : wv.heap.size ≤ wv.heap.size := Nat.le_refl _
  clear o1 hl H0 sx
  have hm' : m ≤ 9223372036854775807 := by omega
  have hmx : m ≤ maxLen := by unfold maxLen; omega
  generalize hB0 : wv.heap.size = B0 at HX
  replace hB0 : B0 ≤ wv.heap.size := by omega
  have sb : (wv.alloc (.cells #[.int .i64 W, .int .i64 H, .slice A m c] 27)).heap.size = wv.heap.size + 1 := (by simp); have qb : Q wv (wv.alloc (.cells #[.int .i64 W, .int .i64 H, .slice A m c] 27)) := (Q.refl wv).alloc _; (try replace ba := ba.q qb); (try replace bb := bb.q qb); (try replace bc := bc.q qb); (try replace bd := bd.q qb); (try replace be := be.q qb); (try replace bf := bf.q qb); (try replace oa := oa.q qb); (try replace ob := ob.q qb); (try replace oc := oc.q qb); (try replace od := od.q qb); (try replace oe := oe.q qb); (try replace HX := Lib.hid (HX.out.q qb (by omega))); (try replace HY := Lib.hid (HY.out.q qb (by omega))); have sq := qb.size; replace QQ := QQ.trans qb; replace sz := QQ.size; clear qb; (try replace ca := ba.cell); (try replace cb := bb.cell); (try replace cc := bc.cell); (try replace cd := bd.cell); (try replace ce := be.cell); (try replace cf := bf.cell); have ba := Blk.new wv 27 #[.int .i64 W, .int .i64 H, .slice A m c]; (try replace ca := ba.cell); (try replace cb := bb.cell); (try replace cc := bc.cell); (try replace cd := bd.cell); (try replace ce := be.cell); (try replace cf := bf.cell)
  cases hp : picB W H xs
  · have HP := Lib.hid hp
    have hh := hist_no hp
    have HH := Lib.hid hh
    clear hp hh
    go_wp2_with fail
    refine (impl_Histogram W H A m c _ xs _ HX.out (by omega) HN hm').mono ?_; rw [HH.out]; rintro e wv ⟨v, rfl, o2, q2⟩
    obtain ⟨A2, c2, rfl⟩ := o2.form
    (try replace ba := ba.q q2); (try replace bb := bb.q q2); (try replace bc := bc.q q2); (try replace bd := bd.q q2); (try replace be := be.q q2); (try replace bf := bf.q q2); (try replace oa := oa.q q2); (try replace ob := ob.q q2); (try replace oc := oc.q q2); (try replace od := od.q q2); (try replace oe := oe.q q2); (try replace HX := Lib.hid (HX.out.q q2 (by omega))); (try replace HY := Lib.hid (HY.out.q q2 (by omega))); have sq := q2.size; replace QQ := QQ.trans q2; replace sz := QQ.size; clear q2; (try replace ca := ba.cell); (try replace cb := bb.cell); (try replace cc := bc.cell); (try replace cd := bd.cell); (try replace ce := be.cell); (try replace cf := bf.cell)
    have oa := o2.i
    clear o2
    go_wp2_with fail
    refine (spec_Histogram W H A m c _ xs _ HX.out (by omega) HN hm').mono ?_; rw [HH.out]; rintro e wv ⟨v, rfl, o2, q2⟩
    obtain ⟨A3, c3, rfl⟩ := o2.form
    (try replace ba := ba.q q2); (try replace bb := bb.q q2); (try replace bc := bc.q q2); (try replace bd := bd.q q2); (try replace be := be.q q2); (try replace bf := bf.q q2); (try replace oa := oa.q q2); (try replace ob := ob.q q2); (try replace oc := oc.q q2); (try replace od := od.q q2); (try replace oe := oe.q q2); (try replace HX := Lib.hid (HX.out.q q2 (by omega))); (try replace HY := Lib.hid (HY.out.q q2 (by omega))); have sq := q2.size; replace QQ := QQ.trans q2; replace sz := QQ.size; clear q2; (try replace ca := ba.cell); (try replace cb := bb.cell); (try replace cc := bc.cell); (try replace cd := bd.cell); (try replace ce := be.cell); (try replace cf := bf.cell)
    have ob := o2.i
    clear o2
    go_wp2_with fail
    refine (sameInts A2 A3 0 0 c2 c3 _ _ [] [] _ oa.rd ob.rd rfl rfl (by unfold maxLen; omega) (by unfold maxLen; omega)).mono ?_; rw [beq_self_eq_true]; rintro e wv ⟨rfl, k, hk⟩
    obtain ⟨q2, -⟩ : Q _ wv ∧ True := ⟨by rw [hk]; exact (Q.refl _).drewN k, trivial⟩
    clear hk
    (try replace ba := ba.q q2); (try replace bb := bb.q q2); (try replace bc := bc.q q2); (try replace bd := bd.q q2); (try replace be := be.q q2); (try replace bf := bf.q q2); (try replace oa := oa.q q2); (try replace ob := ob.q q2); (try replace oc := oc.q q2); (try replace od := od.q q2); (try replace oe := oe.q q2); (try replace HX := Lib.hid (HX.out.q q2 (by omega))); (try replace HY := Lib.hid (HY.out.q q2 (by omega))); have sq := q2.size; replace QQ := QQ.trans q2; replace sz := QQ.size; clear q2; (try replace ca := ba.cell); (try replace cb := bb.cell); (try replace cc := bc.cell); (try replace cd := bd.cell); (try replace ce := be.cell); (try replace cf := bf.cell)
    go_wp2_with fail
    refine (spec_PictureValid W H A m c _ xs false _ HX.out (by omega) HN hm' HP).mono ?_; rintro e wv ⟨rfl, q2⟩
    (try replace ba := ba.q q2); (try replace bb := bb.q q2); (try replace bc := bc.q q2); (try replace bd := bd.q q2); (try replace be := be.q q2); (try replace bf := bf.q q2); (try replace oa := oa.q q2); (try replace ob := ob.q q2); (try replace oc := oc.q q2); (try replace od := od.q q2); (try replace oe := oe.q q2); (try replace HX := Lib.hid (HX.out.q q2 (by omega))); (try replace HY := Lib.hid (HY.out.q q2 (by omega))); have sq := q2.size; replace QQ := QQ.trans q2; replace sz := QQ.size; clear q2; (try replace ca := ba.cell); (try replace cb := bb.cell); (try replace cc := bc.cell); (try replace cd := bd.cell); (try replace ce := be.cell); (try replace cf := bf.cell)
    go_wp2_with fail
    refine (alive _).mono ?_; rintro e wv ⟨rfl, q2⟩
    (try replace ba := ba.q q2); (try replace bb := bb.q q2); (try replace bc := bc.q q2); (try replace bd := bd.q q2); (try replace be := be.q q2); (try replace bf := bf.q q2); (try replace oa := oa.q q2); (try replace ob := ob.q q2); (try replace oc := oc.q q2); (try replace od := od.q q2); (try replace oe := oe.q q2); (try replace HX := Lib.hid (HX.out.q q2 (by omega))); (try replace HY := Lib.hid (HY.out.q q2 (by omega))); have sq := q2.size; replace QQ := QQ.trans q2; replace sz := QQ.size; clear q2; (try replace ca := ba.cell); (try replace cb := bb.cell); (try replace cc := bc.cell); (try replace cd := bd.cell); (try replace ce := be.cell); (try replace cf := bf.cell)
    go_wp2_with fail
    go_ret
    exact ⟨rfl, QQ⟩
  · have HP := Lib.hid hp
    have hh := hist_yes hp
    have ht := hist_tr hp
    rw [hh] at ht
    obtain ⟨pW, pH, pl, pa⟩ := picB_parts hp
    have hs := hist_sum xs (allB_get pa) xs.length (Nat.le_refl _)
    rw [List.take_length] at hs
    have hbd := fun i => hist_bound xs xs.length (Nat.le_refl _) i
    rw [List.take_length] at hbd
    have hl16 := length_histOf xs
    have HH := Lib.hid hh
    have HT := Lib.hid ht
    have htl : Hid ((trP W H xs).2.2.length = m) := by
      unfold Hid
      rw [trP, if_pos hp]
      show (trL W.toNat H.toNat xs).length = m
      have e1 : ((W.toNat : Nat) : Int) = W := by omega
      have e2 : ((H.toNat : Nat) : Int) = H := by omega
      rw [length_trL, ← HN.out]
      rw [← e1, ← e2, ← Int.natCast_mul] at pl
      exact_mod_cast pl.symm
    rw [HN.out] at hs hbd
    generalize histOf xs = ds at HH HT hs hbd hl16
    have hsb := fun k => sum_bound (fun j => ds[j]?.getD 0) m hbd k
    have HSB := Lib.hid hsb
    have HS := Lib.hid hs
    have HL : Hid (ds.length = 16) := hl16
    have HBD := Lib.hid hbd
    clear hp hh ht pW pH pl pa hs hsb hl16 hbd
    go_wp2_with fail
    refine (impl_Histogram W H A m c _ xs _ HX.out (by omega) HN hm').mono ?_; rw [HH.out, HL.out]; rintro e wv ⟨v, rfl, o2, q2⟩
    obtain ⟨A2, c2, rfl⟩ := o2.form
    (try replace ba := ba.q q2); (try replace bb := bb.q q2); (try replace bc := bc.q q2); (try replace bd := bd.q q2); (try replace be := be.q q2); (try replace bf := bf.q q2); (try replace oa := oa.q q2); (try replace ob := ob.q q2); (try replace oc := oc.q q2); (try replace od := od.q q2); (try replace oe := oe.q q2); (try replace HX := Lib.hid (HX.out.q q2 (by omega))); (try replace HY := Lib.hid (HY.out.q q2 (by omega))); have sq := q2.size; replace QQ := QQ.trans q2; replace sz := QQ.size; clear q2; (try replace ca := ba.cell); (try replace cb := bb.cell); (try replace cc := bc.cell); (try replace cd := bd.cell); (try replace ce := be.cell); (try replace cf := bf.cell)
    have oa := o2.i
    clear o2
    go_wp2_with fail
    refine (spec_Histogram W H A m c _ xs _ HX.out (by omega) HN hm').mono ?_; rw [HH.out, HL.out]; rintro e wv ⟨v, rfl, o2, q2⟩
    obtain ⟨A3, c3, rfl⟩ := o2.form
    (try replace ba := ba.q q2); (try replace bb := bb.q q2); (try replace bc := bc.q q2); (try replace bd := bd.q q2); (try replace be := be.q q2); (try replace bf := bf.q q2); (try replace oa := oa.q q2); (try replace ob := ob.q q2); (try replace oc := oc.q q2); (try replace od := od.q q2); (try replace oe := oe.q q2); (try replace HX := Lib.hid (HX.out.q q2 (by omega))); (try replace HY := Lib.hid (HY.out.q q2 (by omega))); have sq := q2.size; replace QQ := QQ.trans q2; replace sz := QQ.size; clear q2; (try replace ca := ba.cell); (try replace cb := bb.cell); (try replace cc := bc.cell); (try replace cd := bd.cell); (try replace ce := be.cell); (try replace cf := bf.cell)
    have ob := o2.i
    clear o2
    go_wp2_with fail
    refine (sameInts A2 A3 16 16 c2 c3 _ _ ds ds _ oa.rd ob.rd HL.out HL.out (by unfold maxLen; omega) (by unfold maxLen; omega)).mono ?_; rw [beq_self_eq_true]; rintro e wv ⟨rfl, k, hk⟩
    obtain ⟨q2, -⟩ : Q _ wv ∧ True := ⟨by rw [hk]; exact (Q.refl _).drewN k, trivial⟩
    clear hk
    (try replace ba := ba.q q2); (try replace bb := bb.q q2); (try replace bc := bc.q q2); (try replace bd := bd.q q2); (try replace be := be.q q2); (try replace bf := bf.q q2); (try replace oa := oa.q q2); (try replace ob := ob.q q2); (try replace oc := oc.q q2); (try replace od := od.q q2); (try replace oe := oe.q q2); (try replace HX := Lib.hid (HX.out.q q2 (by omega))); (try replace HY := Lib.hid (HY.out.q q2 (by omega))); have sq := q2.size; replace QQ := QQ.trans q2; replace sz := QQ.size; clear q2; (try replace ca := ba.cell); (try replace cb := bb.cell); (try replace cc := bc.cell); (try replace cd := bd.cell); (try replace ce := be.cell); (try replace cf := bf.cell)
    clear ob
    obtain ⟨g2, rfl⟩ : ∃ g2, A2 = some ⟨g2, 0, none⟩ := by
      rcases oa.1.form' with ⟨_, hz⟩ | ⟨g, c', he, _⟩
      · omega
      · exact ⟨g, by injection he⟩
    go_wp2_with fail
    have OA := Lib.hid oa
    have HXX := Lib.hid HX
    have BA := Lib.hid ba
    have HQ := Lib.hid QQ
    clear oa ba ca HX QQ
    go_loop [5, 6] (fun n i => ∃ k : Nat, k ≤ 16 ∧ i = .int .i64 k ∧ n = .int .i64 (sumTo (fun j => ds[j]?.getD 0) k)) (fun _ i => 16 - (intOf i).toNat)
    case atStart => exact ⟨0, by omega, rfl, rfl⟩
    case round =>
      obtain ⟨k, hk, rfl, rfl⟩ := hrel
      obtain ⟨u1, u2⟩ := HSB.out k
      have u3 : (k : Int) * (m : Int) ≤ 16 * 1024 := Int.mul_le_mul (by omega) (by omega) (by omega) (by omega)
      obtain ⟨y1, y2⟩ := HBD.out k
      have hnext : Hid (sumTo (fun j => ds[j]?.getD 0) (k + 1) = sumTo (fun j => ds[j]?.getD 0) k + ds[k]?.getD 0) := rfl
      by_cases hlt : k < 16
      · have hc := OA.out.1.at k hlt
        have hk16 : (k : Int) < 16 := by omega
        generalize ds[k]?.getD 0 = y at hc y1 y2 hnext
        generalize sumTo (fun j => ds[j]?.getD 0) k = s at u1 u2 hnext ⊢
        have u4 : s ≤ 16384 := by omega
        clear u2 u3
        go_wp2_with fail
        go_round
        case rel => exact ⟨k + 1, by omega, by go_num, by rw [hnext.out]⟩
        case measure => simp [intOf]; omega
      · have hk16 : k = 16 := by omega
        subst hk16
        rw [HS.out]
        have ba := BA.out
        have oa := OA.out
        have HX := HXX.out
        have QQ := HQ.out
        have ca := ba.cell
        clear u1 u2 u3 y1 y2 hnext OA BA HXX HQ
        go_wp2_with fail
        refine (Transpose W H A m c _ xs _ HX.out (by omega) HN i5 i6).mono ?_; rintro e wv ⟨v, rfl, o2, q2⟩
        obtain ⟨A4, c4, rfl⟩ := o2.form
        (try replace ba := ba.q q2); (try replace bb := bb.q q2); (try replace bc := bc.q q2); (try replace bd := bd.q q2); (try replace be := be.q q2); (try replace bf := bf.q q2); (try replace oa := oa.q q2); (try replace ob := ob.q q2); (try replace oc := oc.q q2); (try replace od := od.q q2); (try replace oe := oe.q q2); (try replace HX := Lib.hid (HX.out.q q2 (by omega))); (try replace HY := Lib.hid (HY.out.q q2 (by omega))); have sq := q2.size; replace QQ := QQ.trans q2; replace sz := QQ.size; clear q2; (try replace ca := ba.cell); (try replace cb := bb.cell); (try replace cc := bc.cell); (try replace cd := bd.cell); (try replace ce := be.cell); (try replace cf := bf.cell)
        go_wp2_with fail
        refine (impl_Histogram _ _ A4 _ c4 _ _ _ o2.rd (Nat.le_refl _) rfl (by rw [htl.out]; omega)).mono ?_; rw [HT.out, HL.out]; rintro e wv ⟨v, rfl, o5, q5⟩
        obtain ⟨A5, c5, rfl⟩ := o5.form
        (try replace ba := ba.q q5); (try replace bb := bb.q q5); (try replace bc := bc.q q5); (try replace bd := bd.q q5); (try replace be := be.q q5); (try replace bf := bf.q q5); (try replace oa := oa.q q5); (try replace ob := ob.q q5); (try replace oc := oc.q q5); (try replace od := od.q q5); (try replace oe := oe.q q5); (try replace HX := Lib.hid (HX.out.q q5 (by omega))); (try replace HY := Lib.hid (HY.out.q q5 (by omega))); have sq := q5.size; replace QQ := QQ.trans q5; replace sz := QQ.size; clear q5; (try replace ca := ba.cell); (try replace cb := bb.cell); (try replace cc := bc.cell); (try replace cd := bd.cell); (try replace ce := be.cell); (try replace cf := bf.cell)
        go_wp2_with fail
        refine (sameInts A5 (some ⟨g2, 0, none⟩) 16 16 c5 c2 _ _ ds ds _ o5.rd oa.rd HL.out HL.out (by unfold maxLen; omega) (by unfold maxLen; omega)).mono ?_; rw [beq_self_eq_true]; rintro e wv ⟨rfl, k, hk⟩
        obtain ⟨q2, -⟩ : Q _ wv ∧ True := ⟨by rw [hk]; exact (Q.refl _).drewN k, trivial⟩
        clear hk
        (try replace ba := ba.q q2); (try replace bb := bb.q q2); (try replace bc := bc.q q2); (try replace bd := bd.q q2); (try replace be := be.q q2); (try replace bf := bf.q q2); (try replace oa := oa.q q2); (try replace ob := ob.q q2); (try replace oc := oc.q q2); (try replace od := od.q q2); (try replace oe := oe.q q2); (try replace HX := Lib.hid (HX.out.q q2 (by omega))); (try replace HY := Lib.hid (HY.out.q q2 (by omega))); have sq := q2.size; replace QQ := QQ.trans q2; replace sz := QQ.size; clear q2; (try replace ca := ba.cell); (try replace cb := bb.cell); (try replace cc := bc.cell); (try replace cd := bd.cell); (try replace ce := be.cell); (try replace cf := bf.cell)
        go_wp2_with fail
        go_ret
        exact ⟨rfl, QQ⟩
set_option maxRecDepth 100000 in
theorem lifted_FnHistogram (os : Os) (started : os.Started) (H : Type) (enc : TypeId × Value → H) :
    ReturnsInHanded {} Try.checked os 8 .any (Rows.fnHistogramSpec.pre6 enc Try.prog Try.f8 Rows.fnHistogramRow.domain false) (Rows.fnHistogramSpec.post enc Try.prog Try.f8 false true false false) := by
  refine returnsInHanded_of_change (C := Try.checked) own_knob started (by kernel_rfl) Try.func8
    (ChangeSpec.witness6 (enc := enc) (C := Try.checked) false ⟨#[], #[.slice none 0 0], []⟩ 8 (by kernel_rfl) (by kernel_rfl) (by kernel_rfl) (by kernel_rfl)) ?_
  intro W base args ds gs before hval0 hW hcnd _
  have hval : ∀ (j : Nat) t v, Try.f8.params[j]? = some t → args[j]? = some v → Value.okWide Try.prog W .any base t v := hval0
  have hW' := hW
  obtain ⟨p, q, hA0, hV, rfl, hfz, hnd⟩ := hW
  have hA : DataW.TrodAll enc Try.prog W 0 (fun _ => true) true Try.f8.params.toList args.toList ds p := hA0
  rw [Try.params8] at hA hval
  obtain ⟨v0, vs0, d0, ds0, p0, q0, hargs, rfl, rfl, h0, r0⟩ := trodAll_cons hA
  obtain ⟨rfl, rfl, rfl⟩ := trodAll_nil r0
  obtain rfl : args = #[v0] := by cases args; simp_all
  obtain ⟨rfl, rfl⟩ := trodVars_none hV
  have k0 := h0
  have lt0 : ∀ x ∈ p0, x.block < W.heap.size := by obtain ⟨m, hm⟩ := k0; exact DataW.trod_lt m _ _ _ hm
  obtain ⟨x0, o0⟩ := open_bytes (hval 0 38 v0 rfl rfl) h0
  clear hA0 hval0
  refine (walk_FnHistogram W v0 x0 o0).mono fun e W' ⟨he, bel⟩ => ?_
  subst he
  exact ⟨_, rfl, _, _, _, [], _, [], hW', trodAll_mk1 (shut_bool Try.underlying4 _), (trodAll_cons_mk (Below.trod laid_out (by kernel_rfl) (of_decide_eq_true (by kernel_rfl)) k0 bel lt0) trodAll_mk0), rfl, bel.frame _, fun h => by cases h⟩

/-- The statement. -/
theorem FnHistogram_holds : Rows.FnHistogramSaid :=
  OpenClaim.holds_of_wide 8 Try.f8 rfl rfl rfl rfl rfl rfl rfl ⟨rfl, rfl, rfl, rfl, rfl⟩ rfl rfl rfl rfl rfl (by kernel_rfl) Try.func8 (by kernel_rfl)
    (of_decide_eq_true (by kernel_rfl)) (by unfold Func.isWrapper; first | (rw [if_pos (by decide +kernel)]; kernel_rfl) | (rw [if_neg (by decide +kernel)]; exact ⟨rfl, rfl⟩))
    (fun os started H enc _ => lifted_FnHistogram os started H enc)
#print axioms FnHistogram_holds
end Go.Proofs.Ytoipcfpbkjanhaa

/-
  FnExactDoubleSize: for every picture of at most 1048576 samples the program's DoubleSize returns what the reference's returns, in memory of its own, and leaves the picture alone; for larger ones the law asks nothing; so the law returns true. No condition.
-/
import Derived.Test.YtoipcfpbkjanhaaFrameP
import Derived.Test.YtoipcfpbkjanhaaPictsL
import Derived.Test.YtoipcfpbkjanhaaDou3
import Derived.Test.YtoipcfpbkjanhaaCarry
import Derived.Deep.RegionWith
import Derived.Deep.DeepCutAuto
namespace Go.Proofs.Ytoipcfpbkjanhaa
open Go.ChangeShapes Go.WideShapes Go.ChangeAt Go.RowKit

set_option maxRecDepth 100000 in
set_option maxHeartbeats 8000000 in
theorem walk_FnExactDoubleSize (w : World) (v0 : Value) (x0 : Int × Int × (Option Addr × Nat × List Int)) (h0 : ArgPic w v0 x0) :
    Calls Try.prog 7 #[v0] w fun e w' => e = .returned (.bool true) ∧ Q w w' := by
  obtain ⟨W, H, A, c, xs⟩ := x0
  obtain ⟨rfl, hr, hm⟩ := h0
  simp only at hr hm ⊢
  generalize hR : doubP W H xs = R
  have hl : R.2.2.length ≤ 1024 := by rw [← hR]; exact doubP_len ..
  have HR := Lib.hid hR
  clear hR
  obtain ⟨R1, R2, rs⟩ := R
  simp only at hl
  generalize hd : rs.length = d at hl
  have HD : Hid (rs.length = d) := hd
  clear hd
  generalize hn : xs.length = n at hm
  have HN : Hid (xs.length = n) := hn
  clear hn
  have hmx := hm
  have hdm : d ≤ maxLen := by unfold maxLen; omega
  unfold maxLen at hm
  have QQ : Q w (w.alloc (.cells #[.int .i64 W, .int .i64 H, .slice A n c] 24)) := (by repeat (first | exact Q.refl _ | assumption | refine Q.drewN ?_ _ | refine Q.drew ?_ | refine Q.alloc ?_ _ | refine Q.trans ?_ (by assumption) | refine Q.set ?_ (by first | exact Nat.le_refl _ | omega | (simp; done) | (simp; omega)) _))
  have ba := Blk.new w 24 #[.int .i64 W, .int .i64 H, .slice A n c]
  have sz := QQ.size
  have sq : w.heap.size + 1 ≤ (w.alloc (.cells #[.int .i64 W, .int .i64 H, .slice A n c] 24)).heap.size := by simp
  have HX := Lib.hid (hr.q QQ (Nat.le_refl _))
  clear hr
  by_cases hbig : (1048576 : Int) < (n : Int)
  · have HB := Lib.hid hbig
    clear hbig
    go_enter Try.func7, Try.ntmps7
    go_wp2_with fail
    refine (szPicture W H A n c 1048576 _ (by omega) (by omega) hm).mono ?_; rw [if_pos HB.out]; rintro e w1 ⟨rfl, q1⟩
    go_wp2_with fail
    go_ret
    exact ⟨rfl, QQ.trans q1⟩
  have hle : (n : Int) ≤ 1048576 := by omega
  clear hbig
  go_enter Try.func7, Try.ntmps7
  go_wp2_with fail
  refine (szPicture W H A n c 1048576 _ (by omega) (by omega) hm).mono ?_; rw [if_neg (Int.not_lt.2 hle)]; rintro e wv ⟨rfl, q1⟩
  (try replace ba := ba.q q1); (try replace bb := bb.q q1); (try replace bc := bc.q q1); (try replace bd := bd.q q1); (try replace be := be.q q1); (try replace bf := bf.q q1); (try replace oa := oa.q q1); (try replace ob := ob.q q1); (try replace oc := oc.q q1); (try replace od := od.q q1); (try replace oe := oe.q q1); (try replace HX := Lib.hid (HX.out.q q1 (by omega))); (try replace HY := Lib.hid (HY.out.q q1 (by omega))); have sq := q1.size; replace QQ := QQ.trans q1; replace sz := QQ.size; clear q1; (try replace ca := ba.cell); (try replace cb := bb.cell); (try replace cc := bc.cell); (try replace cd := bd.cell); (try replace ce := be.cell); (try replace cf := bf.cell)
  go_wp2_with fail
  refine (toPicture W H A n c _ xs _ HX.out sz HN (by omega)).mono ?_; rintro e wv ⟨v, rfl, o2, q2⟩
  obtain ⟨A2, c2, rfl⟩ := o2.form
  (try replace ba := ba.q q2); (try replace bb := bb.q q2); (try replace bc := bc.q q2); (try replace bd := bd.q q2); (try replace be := be.q q2); (try replace bf := bf.q q2); (try replace oa := oa.q q2); (try replace ob := ob.q q2); (try replace oc := oc.q q2); (try replace od := od.q q2); (try replace oe := oe.q q2); (try replace HX := Lib.hid (HX.out.q q2 (by omega))); (try replace HY := Lib.hid (HY.out.q q2 (by omega))); have sq := q2.size; replace QQ := QQ.trans q2; replace sz := QQ.size; clear q2; (try replace ca := ba.cell); (try replace cb := bb.cell); (try replace cc := bc.cell); (try replace cd := bd.cell); (try replace ce := be.cell); (try replace cf := bf.cell)
  go_wp2_with fail
  refine (spec_DoubleSize W H A2 n c2 _ xs _ o2.rd (Nat.le_refl _) HN (by omega)).mono ?_; rw [HR.out]; dsimp only; rw [HD.out]; rintro e wv ⟨v, rfl, o3, q3⟩
  obtain ⟨A3, c3, rfl⟩ := o3.form
  (try replace ba := ba.q q3); (try replace bb := bb.q q3); (try replace bc := bc.q q3); (try replace bd := bd.q q3); (try replace be := be.q q3); (try replace bf := bf.q q3); (try replace oa := oa.q q3); (try replace ob := ob.q q3); (try replace oc := oc.q q3); (try replace od := od.q q3); (try replace oe := oe.q q3); (try replace HX := Lib.hid (HX.out.q q3 (by omega))); (try replace HY := Lib.hid (HY.out.q q3 (by omega))); have sq := q3.size; replace QQ := QQ.trans q3; replace sz := QQ.size; clear q3; (try replace ca := ba.cell); (try replace cb := bb.cell); (try replace cc := bc.cell); (try replace cd := bd.cell); (try replace ce := be.cell); (try replace cf := bf.cell)
  have oa := o3.i
  clear o2 o3
  have sb : (wv.alloc (.cells #[.int .i64 R1, .int .i64 R2, .slice A3 d c3] 27)).heap.size = wv.heap.size + 1 := (by simp); have qb : Q wv (wv.alloc (.cells #[.int .i64 R1, .int .i64 R2, .slice A3 d c3] 27)) := (Q.refl wv).alloc _; (try replace ba := ba.q qb); (try replace bb := bb.q qb); (try replace bc := bc.q qb); (try replace bd := bd.q qb); (try replace be := be.q qb); (try replace bf := bf.q qb); (try replace oa := oa.q qb); (try replace ob := ob.q qb); (try replace oc := oc.q qb); (try replace od := od.q qb); (try replace oe := oe.q qb); (try replace HX := Lib.hid (HX.out.q qb (by omega))); (try replace HY := Lib.hid (HY.out.q qb (by omega))); have sq := qb.size; replace QQ := QQ.trans qb; replace sz := QQ.size; clear qb; (try replace ca := ba.cell); (try replace cb := bb.cell); (try replace cc := bc.cell); (try replace cd := bd.cell); (try replace ce := be.cell); (try replace cf := bf.cell); have bb := Blk.new wv 27 #[.int .i64 R1, .int .i64 R2, .slice A3 d c3]; (try replace ca := ba.cell); (try replace cb := bb.cell); (try replace cc := bc.cell); (try replace cd := bd.cell); (try replace ce := be.cell); (try replace cf := bf.cell)
  go_wp2_with fail
  refine (toPicture W H A n c _ xs _ HX.out sz HN (by omega)).mono ?_; rintro e wv ⟨v, rfl, o4, q4⟩
  obtain ⟨A4, c4, rfl⟩ := o4.form
  (try replace ba := ba.q q4); (try replace bb := bb.q q4); (try replace bc := bc.q q4); (try replace bd := bd.q q4); (try replace be := be.q q4); (try replace bf := bf.q q4); (try replace oa := oa.q q4); (try replace ob := ob.q q4); (try replace oc := oc.q q4); (try replace od := od.q q4); (try replace oe := oe.q q4); (try replace HX := Lib.hid (HX.out.q q4 (by omega))); (try replace HY := Lib.hid (HY.out.q q4 (by omega))); have sq := q4.size; replace QQ := QQ.trans q4; replace sz := QQ.size; clear q4; (try replace ca := ba.cell); (try replace cb := bb.cell); (try replace cc := bc.cell); (try replace cd := bd.cell); (try replace ce := be.cell); (try replace cf := bf.cell)
  have ob := o4.i
  clear o4
  have sb : (wv.alloc (.cells #[.int .i64 W, .int .i64 H, .slice A4 n c4] 27)).heap.size = wv.heap.size + 1 := (by simp); have qb : Q wv (wv.alloc (.cells #[.int .i64 W, .int .i64 H, .slice A4 n c4] 27)) := (Q.refl wv).alloc _; (try replace ba := ba.q qb); (try replace bb := bb.q qb); (try replace bc := bc.q qb); (try replace bd := bd.q qb); (try replace be := be.q qb); (try replace bf := bf.q qb); (try replace oa := oa.q qb); (try replace ob := ob.q qb); (try replace oc := oc.q qb); (try replace od := od.q qb); (try replace oe := oe.q qb); (try replace HX := Lib.hid (HX.out.q qb (by omega))); (try replace HY := Lib.hid (HY.out.q qb (by omega))); have sq := qb.size; replace QQ := QQ.trans qb; replace sz := QQ.size; clear qb; (try replace ca := ba.cell); (try replace cb := bb.cell); (try replace cc := bc.cell); (try replace cd := bd.cell); (try replace ce := be.cell); (try replace cf := bf.cell); have bc := Blk.new wv 27 #[.int .i64 W, .int .i64 H, .slice A4 n c4]; (try replace ca := ba.cell); (try replace cb := bb.cell); (try replace cc := bc.cell); (try replace cd := bd.cell); (try replace ce := be.cell); (try replace cf := bf.cell)
  go_wp2_with fail
  refine (impl_DoubleSize W H A4 n c4 _ xs _ ob.rd (Nat.le_refl _) HN (by omega)).mono ?_; rw [HR.out]; dsimp only; rw [HD.out]; rintro e wv ⟨v, rfl, o5, q5⟩
  obtain ⟨A5, c5, rfl⟩ := o5.form
  (try replace ba := ba.q q5); (try replace bb := bb.q q5); (try replace bc := bc.q q5); (try replace bd := bd.q q5); (try replace be := be.q q5); (try replace bf := bf.q q5); (try replace oa := oa.q q5); (try replace ob := ob.q q5); (try replace oc := oc.q q5); (try replace od := od.q q5); (try replace oe := oe.q q5); (try replace HX := Lib.hid (HX.out.q q5 (by omega))); (try replace HY := Lib.hid (HY.out.q q5 (by omega))); have sq := q5.size; replace QQ := QQ.trans q5; replace sz := QQ.size; clear q5; (try replace ca := ba.cell); (try replace cb := bb.cell); (try replace cc := bc.cell); (try replace cd := bd.cell); (try replace ce := be.cell); (try replace cf := bf.cell)
  have oc := o5.i
  clear o5
  have sb : (wv.alloc (.cells #[.int .i64 R1, .int .i64 R2, .slice A5 d c5] 27)).heap.size = wv.heap.size + 1 := (by simp); have qb : Q wv (wv.alloc (.cells #[.int .i64 R1, .int .i64 R2, .slice A5 d c5] 27)) := (Q.refl wv).alloc _; (try replace ba := ba.q qb); (try replace bb := bb.q qb); (try replace bc := bc.q qb); (try replace bd := bd.q qb); (try replace be := be.q qb); (try replace bf := bf.q qb); (try replace oa := oa.q qb); (try replace ob := ob.q qb); (try replace oc := oc.q qb); (try replace od := od.q qb); (try replace oe := oe.q qb); (try replace HX := Lib.hid (HX.out.q qb (by omega))); (try replace HY := Lib.hid (HY.out.q qb (by omega))); have sq := qb.size; replace QQ := QQ.trans qb; replace sz := QQ.size; clear qb; (try replace ca := ba.cell); (try replace cb := bb.cell); (try replace cc := bc.cell); (try replace cd := bd.cell); (try replace ce := be.cell); (try replace cf := bf.cell); have bd := Blk.new wv 27 #[.int .i64 R1, .int .i64 R2, .slice A5 d c5]; (try replace ca := ba.cell); (try replace cb := bb.cell); (try replace cc := bc.cell); (try replace cd := bd.cell); (try replace ce := be.cell); (try replace cf := bf.cell)
  go_wp2_with fail
  refine (eqPicture R1 R2 R1 R2 A5 A3 d d c5 c3 _ _ rs rs true _ oc.rd (Nat.le_refl _) oa.rd (Nat.le_refl _) HD HD hdm hdm (decide_eq_true ⟨rfl, rfl, rfl⟩)).mono ?_; rintro e wv ⟨rfl, q6⟩
  (try replace ba := ba.q q6); (try replace bb := bb.q q6); (try replace bc := bc.q q6); (try replace bd := bd.q q6); (try replace be := be.q q6); (try replace bf := bf.q q6); (try replace oa := oa.q q6); (try replace ob := ob.q q6); (try replace oc := oc.q q6); (try replace od := od.q q6); (try replace oe := oe.q q6); (try replace HX := Lib.hid (HX.out.q q6 (by omega))); (try replace HY := Lib.hid (HY.out.q q6 (by omega))); have sq := q6.size; replace QQ := QQ.trans q6; replace sz := QQ.size; clear q6; (try replace ca := ba.cell); (try replace cb := bb.cell); (try replace cc := bc.cell); (try replace cd := bd.cell); (try replace ce := be.cell); (try replace cf := bf.cell)
  go_upto_region 10 with fail
  go_cut [31] (fun cc wx => cc = .bool false ∧ Q wv wx)
  case first =>
    go_region_with (first
      | (go_at_call 15; refine (toPicture W H A n c _ xs _ (HX.out.q ((by repeat (first | exact Q.refl _ | assumption | refine Q.drewN ?_ _ | refine Q.drew ?_ | refine Q.alloc ?_ _ | refine Q.trans ?_ (by assumption) | refine Q.set ?_ (by first | exact Nat.le_refl _ | omega | (simp; done) | (simp; omega)) _)) : Q wv _) sz) (by exact sz) HN (by omega)).mono ?_; rintro e w9 ⟨v9, rfl, o9, q9⟩; obtain ⟨A9, c9, rfl⟩ := o9.form; have k9 : Q wv w9 := Q.trans (by repeat (first | exact Q.refl _ | assumption | refine Q.drewN ?_ _ | refine Q.drew ?_ | refine Q.alloc ?_ _ | refine Q.trans ?_ (by assumption) | refine Q.set ?_ (by first | exact Nat.le_refl _ | omega | (simp; done) | (simp; omega)) _)) q9; have dc9 := (bc.q k9).cell)
      | (go_at_call 18; refine (eqPicture W H W H A4 A9 n n c4 c9 _ _ xs xs true _ (ob.q k9).rd (Nat.le_refl _) o9.rd (Nat.le_refl _) HN HN hmx hmx (decide_eq_true ⟨rfl, rfl, rfl⟩)).mono ?_; rintro e w10 ⟨rfl, q10⟩))
    all_goals (go_wp2_with fail; go_meet; exact ⟨rfl, k9.trans q10⟩)
  case rest =>
  obtain ⟨rfl, q7⟩ := hcut
  generalize wc = wv at q7 ⊢
  (try replace ba := ba.q q7); (try replace bb := bb.q q7); (try replace bc := bc.q q7); (try replace bd := bd.q q7); (try replace be := be.q q7); (try replace bf := bf.q q7); (try replace oa := oa.q q7); (try replace ob := ob.q q7); (try replace oc := oc.q q7); (try replace od := od.q q7); (try replace oe := oe.q q7); (try replace HX := Lib.hid (HX.out.q q7 (by omega))); (try replace HY := Lib.hid (HY.out.q q7 (by omega))); have sq := q7.size; replace QQ := QQ.trans q7; replace sz := QQ.size; clear q7; (try replace ca := ba.cell); (try replace cb := bb.cell); (try replace cc := bc.cell); (try replace cd := bd.cell); (try replace ce := be.cell); (try replace cf := bf.cell)
  go_wp2_with fail
  refine (markPicture W H (.slice A4 n c4) n _ 1 xs _ ob.1 (by omega) (by omega) (by omega)).mono ?_; rintro e wv ⟨rfl, o8, g8⟩
  (try replace ba := ba.mark ob g8 (by omega)); (try replace bb := bb.mark ob g8 (by omega)); (try replace bc := bc.mark ob g8 (by omega)); (try replace bd := bd.mark ob g8 (by omega)); (try replace be := be.mark ob g8 (by omega)); (try replace bf := bf.mark ob g8 (by omega)); (try replace oa := oa.other ob g8 (by omega)); (try replace ob := ob.other ob g8 (by omega)); (try replace oc := oc.other ob g8 (by omega)); (try replace od := od.other ob g8 (by omega)); (try replace oe := oe.other ob g8 (by omega)); (try replace HX := Lib.hid (HX.out.mark ob g8 sz (by omega))); (try replace HY := Lib.hid (HY.out.mark ob g8 sz (by omega))); have sq := g8.size; replace QQ := QQ.mark ob g8 (by omega); replace sz := QQ.size; (try replace ca := ba.cell); (try replace cb := bb.cell); (try replace cc := bc.cell); (try replace cd := bd.cell); (try replace ce := be.cell); (try replace cf := bf.cell)
  clear ob o8 g8
  go_wp2_with fail
  refine (eqPicture R1 R2 R1 R2 A5 A3 d d c5 c3 _ _ rs rs true _ oc.rd (Nat.le_refl _) oa.rd (Nat.le_refl _) HD HD hdm hdm (decide_eq_true ⟨rfl, rfl, rfl⟩)).mono ?_; rintro e wv ⟨rfl, q10⟩
  (try replace ba := ba.q q10); (try replace bb := bb.q q10); (try replace bc := bc.q q10); (try replace bd := bd.q q10); (try replace be := be.q q10); (try replace bf := bf.q q10); (try replace oa := oa.q q10); (try replace ob := ob.q q10); (try replace oc := oc.q q10); (try replace od := od.q q10); (try replace oe := oe.q q10); (try replace HX := Lib.hid (HX.out.q q10 (by omega))); (try replace HY := Lib.hid (HY.out.q q10 (by omega))); have sq := q10.size; replace QQ := QQ.trans q10; replace sz := QQ.size; clear q10; (try replace ca := ba.cell); (try replace cb := bb.cell); (try replace cc := bc.cell); (try replace cd := bd.cell); (try replace ce := be.cell); (try replace cf := bf.cell)
  go_wp2_with fail
  refine (markPicture R1 R2 (.slice A5 d c5) d _ 1 rs _ oc.1 (by omega) (by omega) (by omega)).mono ?_; rintro e wv ⟨rfl, o11, g11⟩
  have oz := oc.marked o11
  (try replace ba := ba.mark oc g11 (by omega)); (try replace bb := bb.mark oc g11 (by omega)); (try replace bc := bc.mark oc g11 (by omega)); (try replace bd := bd.mark oc g11 (by omega)); (try replace be := be.mark oc g11 (by omega)); (try replace bf := bf.mark oc g11 (by omega)); (try replace oa := oa.other oc g11 (by omega)); (try replace ob := ob.other oc g11 (by omega)); (try replace oc := oc.other oc g11 (by omega)); (try replace od := od.other oc g11 (by omega)); (try replace oe := oe.other oc g11 (by omega)); (try replace HX := Lib.hid (HX.out.mark oc g11 sz (by omega))); (try replace HY := Lib.hid (HY.out.mark oc g11 sz (by omega))); have sq := g11.size; replace QQ := QQ.mark oc g11 (by omega); replace sz := QQ.size; (try replace ca := ba.cell); (try replace cb := bb.cell); (try replace cc := bc.cell); (try replace cd := bd.cell); (try replace ce := be.cell); (try replace cf := bf.cell)
  clear oc o11 g11
  have oc := oz
  clear oz
  go_wp2_with fail
  refine (heldPicture R1 R2 (.slice A5 d c5) d _ 1 _ oc.1 (by omega) (by omega) (by omega)).mono ?_; rintro e wv ⟨rfl, q12⟩
  (try replace ba := ba.q q12); (try replace bb := bb.q q12); (try replace bc := bc.q q12); (try replace bd := bd.q q12); (try replace be := be.q q12); (try replace bf := bf.q q12); (try replace oa := oa.q q12); (try replace ob := ob.q q12); (try replace oc := oc.q q12); (try replace od := od.q q12); (try replace oe := oe.q q12); (try replace HX := Lib.hid (HX.out.q q12 (by omega))); (try replace HY := Lib.hid (HY.out.q q12 (by omega))); have sq := q12.size; replace QQ := QQ.trans q12; replace sz := QQ.size; clear q12; (try replace ca := ba.cell); (try replace cb := bb.cell); (try replace cc := bc.cell); (try replace cd := bd.cell); (try replace ce := be.cell); (try replace cf := bf.cell)
  go_wp2_with fail
  refine (toPicture W H A n c _ xs _ HX.out sz HN (by omega)).mono ?_; rintro e wv ⟨v, rfl, o4, q4⟩
  obtain ⟨A7, c7, rfl⟩ := o4.form
  (try replace ba := ba.q q4); (try replace bb := bb.q q4); (try replace bc := bc.q q4); (try replace bd := bd.q q4); (try replace be := be.q q4); (try replace bf := bf.q q4); (try replace oa := oa.q q4); (try replace ob := ob.q q4); (try replace oc := oc.q q4); (try replace od := od.q q4); (try replace oe := oe.q q4); (try replace HX := Lib.hid (HX.out.q q4 (by omega))); (try replace HY := Lib.hid (HY.out.q q4 (by omega))); have sq := q4.size; replace QQ := QQ.trans q4; replace sz := QQ.size; clear q4; (try replace ca := ba.cell); (try replace cb := bb.cell); (try replace cc := bc.cell); (try replace cd := bd.cell); (try replace ce := be.cell); (try replace cf := bf.cell)
  go_wp2_with fail
  refine (impl_DoubleSize W H A7 n c7 _ xs _ o4.rd (Nat.le_refl _) HN (by omega)).mono ?_; rw [HR.out]; dsimp only; rw [HD.out]; rintro e wv ⟨v, rfl, o5, q5⟩
  obtain ⟨A8, c8, rfl⟩ := o5.form
  (try replace ba := ba.q q5); (try replace bb := bb.q q5); (try replace bc := bc.q q5); (try replace bd := bd.q q5); (try replace be := be.q q5); (try replace bf := bf.q q5); (try replace oa := oa.q q5); (try replace ob := ob.q q5); (try replace oc := oc.q q5); (try replace od := od.q q5); (try replace oe := oe.q q5); (try replace HX := Lib.hid (HX.out.q q5 (by omega))); (try replace HY := Lib.hid (HY.out.q q5 (by omega))); have sq := q5.size; replace QQ := QQ.trans q5; replace sz := QQ.size; clear q5; (try replace ca := ba.cell); (try replace cb := bb.cell); (try replace cc := bc.cell); (try replace cd := bd.cell); (try replace ce := be.cell); (try replace cf := bf.cell)
  have od := o5.i
  clear o4 o5
  have sb : (wv.alloc (.cells #[.int .i64 R1, .int .i64 R2, .slice A8 d c8] 27)).heap.size = wv.heap.size + 1 := (by simp); have qb : Q wv (wv.alloc (.cells #[.int .i64 R1, .int .i64 R2, .slice A8 d c8] 27)) := (Q.refl wv).alloc _; (try replace ba := ba.q qb); (try replace bb := bb.q qb); (try replace bc := bc.q qb); (try replace bd := bd.q qb); (try replace be := be.q qb); (try replace bf := bf.q qb); (try replace oa := oa.q qb); (try replace ob := ob.q qb); (try replace oc := oc.q qb); (try replace od := od.q qb); (try replace oe := oe.q qb); (try replace HX := Lib.hid (HX.out.q qb (by omega))); (try replace HY := Lib.hid (HY.out.q qb (by omega))); have sq := qb.size; replace QQ := QQ.trans qb; replace sz := QQ.size; clear qb; (try replace ca := ba.cell); (try replace cb := bb.cell); (try replace cc := bc.cell); (try replace cd := bd.cell); (try replace ce := be.cell); (try replace cf := bf.cell); have be := Blk.new wv 27 #[.int .i64 R1, .int .i64 R2, .slice A8 d c8]; (try replace ca := ba.cell); (try replace cb := bb.cell); (try replace cc := bc.cell); (try replace cd := bd.cell); (try replace ce := be.cell); (try replace cf := bf.cell)
  go_wp2_with fail
  refine (eqPicture R1 R2 R1 R2 A8 A3 d d c8 c3 _ _ rs rs true _ od.rd (Nat.le_refl _) oa.rd (Nat.le_refl _) HD HD hdm hdm (decide_eq_true ⟨rfl, rfl, rfl⟩)).mono ?_; rintro e wv ⟨rfl, q14⟩
  (try replace ba := ba.q q14); (try replace bb := bb.q q14); (try replace bc := bc.q q14); (try replace bd := bd.q q14); (try replace be := be.q q14); (try replace bf := bf.q q14); (try replace oa := oa.q q14); (try replace ob := ob.q q14); (try replace oc := oc.q q14); (try replace od := od.q q14); (try replace oe := oe.q q14); (try replace HX := Lib.hid (HX.out.q q14 (by omega))); (try replace HY := Lib.hid (HY.out.q q14 (by omega))); have sq := q14.size; replace QQ := QQ.trans q14; replace sz := QQ.size; clear q14; (try replace ca := ba.cell); (try replace cb := bb.cell); (try replace cc := bc.cell); (try replace cd := bd.cell); (try replace ce := be.cell); (try replace cf := bf.cell)
  go_wp2_with fail
  refine (heldPicture R1 R2 (.slice A5 d c5) d _ 1 _ oc.1 (by omega) (by omega) (by omega)).mono ?_; rintro e wv ⟨rfl, q15⟩
  (try replace ba := ba.q q15); (try replace bb := bb.q q15); (try replace bc := bc.q q15); (try replace bd := bd.q q15); (try replace be := be.q q15); (try replace bf := bf.q q15); (try replace oa := oa.q q15); (try replace ob := ob.q q15); (try replace oc := oc.q q15); (try replace od := od.q q15); (try replace oe := oe.q q15); (try replace HX := Lib.hid (HX.out.q q15 (by omega))); (try replace HY := Lib.hid (HY.out.q q15 (by omega))); have sq := q15.size; replace QQ := QQ.trans q15; replace sz := QQ.size; clear q15; (try replace ca := ba.cell); (try replace cb := bb.cell); (try replace cc := bc.cell); (try replace cd := bd.cell); (try replace ce := be.cell); (try replace cf := bf.cell)
  go_wp2_with fail
  go_ret
  exact ⟨rfl, QQ⟩

set_option maxRecDepth 100000 in
theorem lifted_FnExactDoubleSize (os : Os) (started : os.Started) (H : Type) (enc : TypeId × Value → H) :
    ReturnsInHanded {} Try.checked os 7 .any (Rows.fnExactDoubleSizeSpec.pre6 enc Try.prog Try.f7 Rows.fnExactDoubleSizeRow.domain false) (Rows.fnExactDoubleSizeSpec.post enc Try.prog Try.f7 false true false false) := by
  refine returnsInHanded_of_change (C := Try.checked) own_knob started (by kernel_rfl) Try.func7
    (ChangeSpec.witness6 (enc := enc) (C := Try.checked) false ⟨#[], #[.agg #[.int .i64 0, .int .i64 0, .slice none 0 0]], []⟩ 8 (by kernel_rfl) (by kernel_rfl) (by kernel_rfl) (by kernel_rfl)) ?_
  intro W base args ds gs before hval0 hW hcnd _
  have hval : ∀ (j : Nat) t v, Try.f7.params[j]? = some t → args[j]? = some v → Value.okWide Try.prog W .any base t v := hval0
  have hW' := hW
  obtain ⟨p, q, hA0, hV, rfl, hfz, hnd⟩ := hW
  have hA : DataW.TrodAll enc Try.prog W 0 (fun _ => true) true Try.f7.params.toList args.toList ds p := hA0
  rw [Try.params7] at hA hval
  obtain ⟨v0, vs0, d0, ds0, p0, q0, hargs, rfl, rfl, h0, r0⟩ := trodAll_cons hA
  obtain ⟨rfl, rfl, rfl⟩ := trodAll_nil r0
  obtain rfl : args = #[v0] := by cases args; simp_all
  obtain ⟨rfl, rfl⟩ := trodVars_none hV
  have k0 := h0
  have lt0 : ∀ x ∈ p0, x.block < W.heap.size := by obtain ⟨m, hm⟩ := k0; exact DataW.trod_lt m _ _ _ hm
  obtain ⟨x0, o0⟩ := open_pic (hval 0 24 v0 rfl rfl) h0
  clear hA0 hval0
  refine (walk_FnExactDoubleSize W v0 x0 o0).mono fun e W' ⟨he, bel⟩ => ?_
  subst he
  exact ⟨_, rfl, _, _, _, [], _, [], hW', trodAll_mk1 (shut_bool Try.underlying4 _), (trodAll_cons_mk (Below.trod laid_out (by kernel_rfl) (of_decide_eq_true (by kernel_rfl)) k0 bel lt0) trodAll_mk0), rfl, bel.frame _, fun h => by cases h⟩

/-- The statement. -/
theorem FnExactDoubleSize_holds : Rows.FnExactDoubleSizeSaid :=
  OpenClaim.holds_of_wide 7 Try.f7 rfl rfl rfl rfl rfl rfl rfl ⟨rfl, rfl, rfl, rfl, rfl⟩ rfl rfl rfl rfl rfl (by kernel_rfl) Try.func7 (by kernel_rfl)
    (of_decide_eq_true (by kernel_rfl)) (by unfold Func.isWrapper; first | (rw [if_pos (by decide +kernel)]; kernel_rfl) | (rw [if_neg (by decide +kernel)]; exact ⟨rfl, rfl⟩))
    (fun os started H enc _ => lifted_FnExactDoubleSize os started H enc)
#print axioms FnExactDoubleSize_holds
end Go.Proofs.Ytoipcfpbkjanhaa

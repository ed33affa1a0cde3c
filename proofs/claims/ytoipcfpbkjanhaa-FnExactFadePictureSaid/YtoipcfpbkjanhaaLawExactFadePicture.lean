/-
  FnExactFadePicture: for every two pictures of at most 1048576 samples together and every position the program's FadePicture returns what the reference's returns, in memory of its own, and leaves the pictures alone; for larger ones the law asks nothing; so the law returns true. No condition.
-/
import Derived.Test.YtoipcfpbkjanhaaFrameP
import Derived.Test.YtoipcfpbkjanhaaPictsL
import Derived.Test.YtoipcfpbkjanhaaFadeA
import Derived.Test.YtoipcfpbkjanhaaCarry
import Derived.Deep.RegionWith
import Derived.Deep.RegionHeld3
import Derived.Deep.DeepCutAuto
namespace Go.Proofs.Ytoipcfpbkjanhaa
open Go.ChangeShapes Go.WideShapes Go.ChangeAt Go.RowKit

set_option maxRecDepth 100000 in
set_option maxHeartbeats 8000000 in
theorem walk_FnExactFadePicture (w : World) (v0 : Value) (x0 : Int × Int × (Option Addr × Nat × List Int)) (h0 : ArgPic w v0 x0) (v1 : Value) (x1 : Int × Int × (Option Addr × Nat × List Int)) (h1 : ArgPic w v1 x1) (v2 : Value) (t : Int) (h2 : ArgInt v2 t) :
    Calls Try.prog 5 #[v0, v1, v2] w fun e w' => e = .returned (.bool true) ∧ Q w w' := by
  obtain ⟨W, H, A, c, xs⟩ := x0
  obtain ⟨rfl, hr, hm⟩ := h0
  obtain ⟨W', H', A', c', ys⟩ := x1
  obtain ⟨rfl, hr', hm'⟩ := h1
  obtain ⟨rfl, _, _⟩ := h2
  simp only at hr hm hr' hm' ⊢
  generalize hR : fadeP t W H xs W' H' ys = R
  have hl : R.2.2.length ≤ 1024 := by rw [← hR]; exact fadeP_len ..
  have HR := Lib.hid hR
  clear hR
  obtain ⟨R1, R2, rs⟩ := R
  simp only at hl
  generalize hd : rs.length = d at hl
  have HD : Hid (rs.length = d) := hd
  clear hd
  generalize hn : xs.length = n at hm
  generalize hn' : ys.length = n' at hm'
  have HN : Hid (xs.length = n) := hn
  have HN' : Hid (ys.length = n') := hn'
  clear hn hn'
  have hmx := hm
  have hmx' := hm'
  have hdm : d ≤ maxLen := by unfold maxLen; omega
  unfold maxLen at hm hm'
  have QQ : Q w ((w.alloc (.cells #[.int .i64 W, .int .i64 H, .slice A n c] 24)).alloc (.cells #[.int .i64 W', .int .i64 H', .slice A' n' c'] 24)) := (by repeat (first | exact Q.refl _ | assumption | refine Q.drewN ?_ _ | refine Q.drew ?_ | refine Q.alloc ?_ _ | refine Q.trans ?_ (by assumption) | refine Q.set ?_ (by first | exact Nat.le_refl _ | omega | (simp; done) | (simp; omega)) _))
  have ba := (Blk.new w 24 #[.int .i64 W, .int .i64 H, .slice A n c]).alloc (.cells #[.int .i64 W', .int .i64 H', .slice A' n' c'] 24)
  have bb := Blk.new (w.alloc (.cells #[.int .i64 W, .int .i64 H, .slice A n c] 24)) 24 #[.int .i64 W', .int .i64 H', .slice A' n' c']
  rw [World.size_alloc] at bb
  have sz := QQ.size
  have sq : w.heap.size + 2 ≤ ((w.alloc (.cells #[.int .i64 W, .int .i64 H, .slice A n c] 24)).alloc (.cells #[.int .i64 W', .int .i64 H', .slice A' n' c'] 24)).heap.size := by simp
  have HX := Lib.hid (hr.q QQ (Nat.le_refl _))
  have HY := Lib.hid (hr'.q QQ (Nat.le_refl _))
  clear hr hr'
  by_cases hbig : (1048576 : Int) < (n : Int)
  · have HB := Lib.hid hbig
    clear hbig
    go_enter Try.func5, Try.ntmps5
    go_wp2_with fail
    refine (szPicture W H A n c 1048576 _ (by omega) (by omega) hm).mono ?_; rw [if_pos HB.out]; rintro e w1 ⟨rfl, q1⟩
    go_wp2_with fail
    go_ret
    exact ⟨rfl, QQ.trans q1⟩
  have hle : (n : Int) ≤ 1048576 := by omega
  clear hbig
  by_cases hbig2 : 1048576 - (n : Int) < (n' : Int)
  · have HB := Lib.hid hbig2
    clear hbig2
    go_enter Try.func5, Try.ntmps5
    go_wp2_with fail
    refine (szPicture W H A n c 1048576 _ (by omega) (by omega) hm).mono ?_; rw [if_neg (Int.not_lt.2 hle)]; rintro e wv ⟨rfl, q1⟩
    (try replace ba := ba.q q1); (try replace bb := bb.q q1); (try replace bc := bc.q q1); (try replace bd := bd.q q1); (try replace be := be.q q1); (try replace bf := bf.q q1); (try replace oa := oa.q q1); (try replace ob := ob.q q1); (try replace oc := oc.q q1); (try replace od := od.q q1); (try replace oe := oe.q q1); (try replace HX := Lib.hid (HX.out.q q1 sz)); (try replace HY := Lib.hid (HY.out.q q1 sz)); have sq := q1.size; replace QQ := QQ.trans q1; replace sz := QQ.size; clear q1; (try replace ca := ba.cell); (try replace cb := bb.cell); (try replace cc := bc.cell); (try replace cd := bd.cell); (try replace ce := be.cell); (try replace cf := bf.cell)
    go_wp2_with fail
    refine (szPicture W' H' A' n' c' (1048576 - n) _ (by omega) (by omega) hm').mono ?_; rw [if_pos HB.out]; rintro e w2 ⟨rfl, q2⟩
    go_wp2_with fail
    go_ret
    exact ⟨rfl, QQ.trans q2⟩
  have hle2 : (n' : Int) ≤ 1048576 - n := by omega
  clear hbig2
  go_enter Try.func5, Try.ntmps5
  go_wp2_with fail
  refine (szPicture W H A n c 1048576 _ (by omega) (by omega) hm).mono ?_; rw [if_neg (Int.not_lt.2 hle)]; rintro e wv ⟨rfl, q1⟩
  (try replace ba := ba.q q1); (try replace bb := bb.q q1); (try replace bc := bc.q q1); (try replace bd := bd.q q1); (try replace be := be.q q1); (try replace bf := bf.q q1); (try replace oa := oa.q q1); (try replace ob := ob.q q1); (try replace oc := oc.q q1); (try replace od := od.q q1); (try replace oe := oe.q q1); (try replace HX := Lib.hid (HX.out.q q1 sz)); (try replace HY := Lib.hid (HY.out.q q1 sz)); have sq := q1.size; replace QQ := QQ.trans q1; replace sz := QQ.size; clear q1; (try replace ca := ba.cell); (try replace cb := bb.cell); (try replace cc := bc.cell); (try replace cd := bd.cell); (try replace ce := be.cell); (try replace cf := bf.cell)
  go_wp2_with fail
  refine (szPicture W' H' A' n' c' (1048576 - n) _ (by omega) (by omega) hm').mono ?_; rw [if_neg (Int.not_lt.2 hle2)]; rintro e wv ⟨rfl, q2⟩
  (try replace ba := ba.q q2); (try replace bb := bb.q q2); (try replace bc := bc.q q2); (try replace bd := bd.q q2); (try replace be := be.q q2); (try replace bf := bf.q q2); (try replace oa := oa.q q2); (try replace ob := ob.q q2); (try replace oc := oc.q q2); (try replace od := od.q q2); (try replace oe := oe.q q2); (try replace HX := Lib.hid (HX.out.q q2 sz)); (try replace HY := Lib.hid (HY.out.q q2 sz)); have sq := q2.size; replace QQ := QQ.trans q2; replace sz := QQ.size; clear q2; (try replace ca := ba.cell); (try replace cb := bb.cell); (try replace cc := bc.cell); (try replace cd := bd.cell); (try replace ce := be.cell); (try replace cf := bf.cell)
  go_upto_region 8 with fail
  go_cut [8] (fun p wx => ∃ g v lo, p = .pointer (some ⟨g, 0, none⟩) ∧ Blk wx g 27 #[.int .i64 R1, .int .i64 R2, v] ∧ Own wx lo v d rs ∧ Q wv wx ∧ wv.heap.size ≤ lo ∧ wv.heap.size ≤ g ∧ g < wx.heap.size)
  case first =>
    go_region_held3 (fun ww => ww.cell? ⟨w.heap.size, 0, none⟩ = some (.int .i64 W) ∧ ww.cell? ⟨w.heap.size, 1, none⟩ = some (.int .i64 H) ∧ ww.cell? ⟨w.heap.size, 2, none⟩ = some (.slice A n c) ∧ ww.cell? ⟨w.heap.size + 1, 0, none⟩ = some (.int .i64 W') ∧ ww.cell? ⟨w.heap.size + 1, 1, none⟩ = some (.int .i64 H') ∧ ww.cell? ⟨w.heap.size + 1, 2, none⟩ = some (.slice A' n' c'))
      (first | (refine ⟨?_, ?_, ?_, ?_, ?_, ?_⟩; exact (ba.q (by repeat (first | exact Q.refl _ | assumption | refine Q.drewN ?_ _ | refine Q.drew ?_ | refine Q.alloc ?_ _ | refine Q.trans ?_ (by assumption) | refine Q.set ?_ (by first | exact Nat.le_refl _ | omega | (simp; done) | (simp; omega)) _))).cell 0; exact (ba.q (by repeat (first | exact Q.refl _ | assumption | refine Q.drewN ?_ _ | refine Q.drew ?_ | refine Q.alloc ?_ _ | refine Q.trans ?_ (by assumption) | refine Q.set ?_ (by first | exact Nat.le_refl _ | omega | (simp; done) | (simp; omega)) _))).cell 1; exact (ba.q (by repeat (first | exact Q.refl _ | assumption | refine Q.drewN ?_ _ | refine Q.drew ?_ | refine Q.alloc ?_ _ | refine Q.trans ?_ (by assumption) | refine Q.set ?_ (by first | exact Nat.le_refl _ | omega | (simp; done) | (simp; omega)) _))).cell 2; exact (bb.q (by repeat (first | exact Q.refl _ | assumption | refine Q.drewN ?_ _ | refine Q.drew ?_ | refine Q.alloc ?_ _ | refine Q.trans ?_ (by assumption) | refine Q.set ?_ (by first | exact Nat.le_refl _ | omega | (simp; done) | (simp; omega)) _))).cell 0; exact (bb.q (by repeat (first | exact Q.refl _ | assumption | refine Q.drewN ?_ _ | refine Q.drew ?_ | refine Q.alloc ?_ _ | refine Q.trans ?_ (by assumption) | refine Q.set ?_ (by first | exact Nat.le_refl _ | omega | (simp; done) | (simp; omega)) _))).cell 1; exact (bb.q (by repeat (first | exact Q.refl _ | assumption | refine Q.drewN ?_ _ | refine Q.drew ?_ | refine Q.alloc ?_ _ | refine Q.trans ?_ (by assumption) | refine Q.set ?_ (by first | exact Nat.le_refl _ | omega | (simp; done) | (simp; omega)) _))).cell 2) | go_keep)
      (first
      | (go_at_call_of 15 A; refine (toPicture W H A n c _ xs _ (HX.out.q ((by repeat (first | exact Q.refl _ | assumption | refine Q.drewN ?_ _ | refine Q.drew ?_ | refine Q.alloc ?_ _ | refine Q.trans ?_ (by assumption) | refine Q.set ?_ (by first | exact Nat.le_refl _ | omega | (simp; done) | (simp; omega)) _)) : Q wv _) sz) (by first | exact sz | omega | (simp; omega)) HN (by omega)).mono ?_; rintro e w3 ⟨v3, rfl, o3, q3⟩; obtain ⟨A3, c3, rfl⟩ := o3.form; have k3 : Q wv w3 := Q.trans (by repeat (first | exact Q.refl _ | assumption | refine Q.drewN ?_ _ | refine Q.drew ?_ | refine Q.alloc ?_ _ | refine Q.trans ?_ (by assumption) | refine Q.set ?_ (by first | exact Nat.le_refl _ | omega | (simp; done) | (simp; omega)) _)) q3; have z3 := k3.size; have u3 := q3.size; (try simp at u3); (first | (have nb := nb.q q3) | (have nb := Blk.q (Blk.new _ _ _) q3) | (have nb := Blk.q (Blk.newd _ _ _) q3) | skip); (try have nc := nb.cell); (try have nf := nb.free))
      | (go_at_call_of 15 A'; refine (toPicture W' H' A' n' c' _ ys _ (HY.out.q ((by repeat (first | exact Q.refl _ | assumption | refine Q.drewN ?_ _ | refine Q.drew ?_ | refine Q.alloc ?_ _ | refine Q.trans ?_ (by assumption) | refine Q.set ?_ (by first | exact Nat.le_refl _ | omega | (simp; done) | (simp; omega)) _)) : Q wv _) sz) (by first | exact sz | omega | (simp; omega)) HN' (by omega)).mono ?_; rintro e w4 ⟨v4, rfl, o4, q4⟩; obtain ⟨A4, c4, rfl⟩ := o4.form; have y4 : Q w3 w4 := Q.trans (by repeat (first | exact Q.refl _ | assumption | refine Q.drewN ?_ _ | refine Q.drew ?_ | refine Q.alloc ?_ _ | refine Q.trans ?_ (by assumption) | refine Q.set ?_ (by first | exact Nat.le_refl _ | omega | (simp; done) | (simp; omega)) _)) q4; have k4 : Q wv w4 := Q.trans (by repeat (first | exact Q.refl _ | assumption | refine Q.drewN ?_ _ | refine Q.drew ?_ | refine Q.alloc ?_ _ | refine Q.trans ?_ (by assumption) | refine Q.set ?_ (by first | exact Nat.le_refl _ | omega | (simp; done) | (simp; omega)) _)) q4; have z4 := k4.size; have u4 := q4.size; (try simp at u4); (first | (have nb := nb.q q4) | (have nb := Blk.q (Blk.new _ _ _) q4) | (have nb := Blk.q (Blk.newd _ _ _) q4) | skip); (try have nc := nb.cell); (try have nf := nb.free))
      | (go_at_call 24; refine (spec_Fade W H W' H' t A3 A4 n n' c3 c4 _ _ xs ys _ (o3.q ((by repeat (first | exact Q.refl _ | assumption | refine Q.drewN ?_ _ | refine Q.drew ?_ | refine Q.alloc ?_ _ | refine Q.trans ?_ (by assumption) | refine Q.set ?_ (by first | exact Nat.le_refl _ | omega | (simp; done) | (simp; omega)) _)) : Q w3 _)).rd (Nat.le_refl _) (o4.q ((by repeat (first | exact Q.refl _ | assumption | refine Q.drewN ?_ _ | refine Q.drew ?_ | refine Q.alloc ?_ _ | refine Q.trans ?_ (by assumption) | refine Q.set ?_ (by first | exact Nat.le_refl _ | omega | (simp; done) | (simp; omega)) _)) : Q w4 _)).rd (Nat.le_refl _) HN HN' hm hm').mono ?_; rw [HR.out]; dsimp only; rw [HD.out]; rintro e w5 ⟨v5, rfl, o5, q5⟩; obtain ⟨A5, c5, rfl⟩ := o5.form; have k5 : Q wv w5 := Q.trans (by repeat (first | exact Q.refl _ | assumption | refine Q.drewN ?_ _ | refine Q.drew ?_ | refine Q.alloc ?_ _ | refine Q.trans ?_ (by assumption) | refine Q.set ?_ (by first | exact Nat.le_refl _ | omega | (simp; done) | (simp; omega)) _)) q5; have z5 := k5.size; have u5 := q5.size; (try simp at u5); (first | (have nb := nb.q q5) | (have nb := Blk.q (Blk.new _ _ _) q5) | (have nb := Blk.q (Blk.newd _ _ _) q5) | skip); (try have nc := nb.cell); (try have nf := nb.free)))
    all_goals (go_wp2_with fail; go_meet; first | exact ⟨_, _, _, rfl, Blk.new _ _ _, o5.alloc _, k5.alloc _, (by omega), z5, (by simp)⟩ | exact ⟨_, _, _, rfl, ((nb.set 0 _).set 1 _).set 2 _, ((o5.far (by first | exact Nat.le_refl _ | omega | (simp; done) | (simp; omega)) _).far (by first | exact Nat.le_refl _ | omega | (simp; done) | (simp; omega)) _).far (by first | exact Nat.le_refl _ | omega | (simp; done) | (simp; omega)) _, (by repeat (first | exact Q.refl _ | assumption | refine Q.drewN ?_ _ | refine Q.drew ?_ | refine Q.alloc ?_ _ | refine Q.trans ?_ (by assumption) | refine Q.set ?_ (by first | exact Nat.le_refl _ | omega | (simp; done) | (simp; omega)) _)), (by first | omega | (simp; omega)), (by first | omega | (simp; omega)), (by have := nb.lt; simpa [World.setCell] using this)⟩)
  case rest =>
  obtain ⟨g1, v1, l1, rfl, bc, o1, q1, hl1, hg1, hg2⟩ := hcut
  obtain ⟨A1, c1, rfl⟩ := o1.form
  have oa := o1.i
  clear o1
  generalize wc = wx at oa bc q1 hg2 ⊢
  replace ba := ba.q q1
  replace bb := bb.q q1
  replace HX := Lib.hid (HX.out.q q1 sz)
  replace HY := Lib.hid (HY.out.q q1 sz)
  replace QQ := QQ.trans q1
  replace sz := QQ.size
  clear q1
  obtain ⟨wv, rfl⟩ : ∃ wv, wv = wx := ⟨_, rfl⟩
  (try replace ca := ba.cell); (try replace cb := bb.cell); (try replace cc := bc.cell); (try replace cd := bd.cell); (try replace ce := be.cell); (try replace cf := bf.cell)
  go_wp2_with fail
  refine (toPicture W H A n c _ xs _ HX.out sz HN (by omega)).mono ?_; rintro e wv ⟨v, rfl, o2, q2⟩
  obtain ⟨A2, c2, rfl⟩ := o2.form
  (try replace ba := ba.q q2); (try replace bb := bb.q q2); (try replace bc := bc.q q2); (try replace bd := bd.q q2); (try replace be := be.q q2); (try replace bf := bf.q q2); (try replace oa := oa.q q2); (try replace ob := ob.q q2); (try replace oc := oc.q q2); (try replace od := od.q q2); (try replace oe := oe.q q2); (try replace HX := Lib.hid (HX.out.q q2 sz)); (try replace HY := Lib.hid (HY.out.q q2 sz)); have sq := q2.size; replace QQ := QQ.trans q2; replace sz := QQ.size; clear q2; (try replace ca := ba.cell); (try replace cb := bb.cell); (try replace cc := bc.cell); (try replace cd := bd.cell); (try replace ce := be.cell); (try replace cf := bf.cell)
  have ob := o2.i
  clear o2
  have sb : (wv.alloc (.cells #[.int .i64 W, .int .i64 H, .slice A2 n c2] 27)).heap.size = wv.heap.size + 1 := (by simp); have qb : Q wv (wv.alloc (.cells #[.int .i64 W, .int .i64 H, .slice A2 n c2] 27)) := (Q.refl wv).alloc _; (try replace ba := ba.q qb); (try replace bb := bb.q qb); (try replace bc := bc.q qb); (try replace bd := bd.q qb); (try replace be := be.q qb); (try replace bf := bf.q qb); (try replace oa := oa.q qb); (try replace ob := ob.q qb); (try replace oc := oc.q qb); (try replace od := od.q qb); (try replace oe := oe.q qb); (try replace HX := Lib.hid (HX.out.q qb sz)); (try replace HY := Lib.hid (HY.out.q qb sz)); have sq := qb.size; replace QQ := QQ.trans qb; replace sz := QQ.size; clear qb; (try replace ca := ba.cell); (try replace cb := bb.cell); (try replace cc := bc.cell); (try replace cd := bd.cell); (try replace ce := be.cell); (try replace cf := bf.cell); have bd := Blk.new wv 27 #[.int .i64 W, .int .i64 H, .slice A2 n c2]; (try replace ca := ba.cell); (try replace cb := bb.cell); (try replace cc := bc.cell); (try replace cd := bd.cell); (try replace ce := be.cell); (try replace cf := bf.cell)
  go_wp2_with fail
  refine (toPicture W' H' A' n' c' _ ys _ HY.out sz HN' (by omega)).mono ?_; rintro e wv ⟨v, rfl, o3, q3⟩
  obtain ⟨A3, c3, rfl⟩ := o3.form
  (try replace ba := ba.q q3); (try replace bb := bb.q q3); (try replace bc := bc.q q3); (try replace bd := bd.q q3); (try replace be := be.q q3); (try replace bf := bf.q q3); (try replace oa := oa.q q3); (try replace ob := ob.q q3); (try replace oc := oc.q q3); (try replace od := od.q q3); (try replace oe := oe.q q3); (try replace HX := Lib.hid (HX.out.q q3 sz)); (try replace HY := Lib.hid (HY.out.q q3 sz)); have sq := q3.size; replace QQ := QQ.trans q3; replace sz := QQ.size; clear q3; (try replace ca := ba.cell); (try replace cb := bb.cell); (try replace cc := bc.cell); (try replace cd := bd.cell); (try replace ce := be.cell); (try replace cf := bf.cell)
  have oc := o3.i
  clear o3
  have sb : (wv.alloc (.cells #[.int .i64 W', .int .i64 H', .slice A3 n' c3] 27)).heap.size = wv.heap.size + 1 := (by simp); have qb : Q wv (wv.alloc (.cells #[.int .i64 W', .int .i64 H', .slice A3 n' c3] 27)) := (Q.refl wv).alloc _; (try replace ba := ba.q qb); (try replace bb := bb.q qb); (try replace bc := bc.q qb); (try replace bd := bd.q qb); (try replace be := be.q qb); (try replace bf := bf.q qb); (try replace oa := oa.q qb); (try replace ob := ob.q qb); (try replace oc := oc.q qb); (try replace od := od.q qb); (try replace oe := oe.q qb); (try replace HX := Lib.hid (HX.out.q qb sz)); (try replace HY := Lib.hid (HY.out.q qb sz)); have sq := qb.size; replace QQ := QQ.trans qb; replace sz := QQ.size; clear qb; (try replace ca := ba.cell); (try replace cb := bb.cell); (try replace cc := bc.cell); (try replace cd := bd.cell); (try replace ce := be.cell); (try replace cf := bf.cell); have be := Blk.new wv 27 #[.int .i64 W', .int .i64 H', .slice A3 n' c3]; (try replace ca := ba.cell); (try replace cb := bb.cell); (try replace cc := bc.cell); (try replace cd := bd.cell); (try replace ce := be.cell); (try replace cf := bf.cell)
  go_wp2_with fail
  refine (impl_Fade W H W' H' t A2 A3 n n' c2 c3 _ _ xs ys _ ob.rd (Nat.le_refl _) oc.rd (Nat.le_refl _) HN HN' hm hm').mono ?_; rw [HR.out]; dsimp only; rw [HD.out]; rintro e wv ⟨v4, rfl, o4, q4⟩
  obtain ⟨A4, c4, rfl⟩ := o4.form
  (try replace ba := ba.q q4); (try replace bb := bb.q q4); (try replace bc := bc.q q4); (try replace bd := bd.q q4); (try replace be := be.q q4); (try replace bf := bf.q q4); (try replace oa := oa.q q4); (try replace ob := ob.q q4); (try replace oc := oc.q q4); (try replace od := od.q q4); (try replace oe := oe.q q4); (try replace HX := Lib.hid (HX.out.q q4 sz)); (try replace HY := Lib.hid (HY.out.q q4 sz)); have sq := q4.size; replace QQ := QQ.trans q4; replace sz := QQ.size; clear q4; (try replace ca := ba.cell); (try replace cb := bb.cell); (try replace cc := bc.cell); (try replace cd := bd.cell); (try replace ce := be.cell); (try replace cf := bf.cell)
  have od := o4.i
  clear o4
  have sb : (wv.alloc (.cells #[.int .i64 R1, .int .i64 R2, .slice A4 d c4] 27)).heap.size = wv.heap.size + 1 := (by simp); have qb : Q wv (wv.alloc (.cells #[.int .i64 R1, .int .i64 R2, .slice A4 d c4] 27)) := (Q.refl wv).alloc _; (try replace ba := ba.q qb); (try replace bb := bb.q qb); (try replace bc := bc.q qb); (try replace bd := bd.q qb); (try replace be := be.q qb); (try replace bf := bf.q qb); (try replace oa := oa.q qb); (try replace ob := ob.q qb); (try replace oc := oc.q qb); (try replace od := od.q qb); (try replace oe := oe.q qb); (try replace HX := Lib.hid (HX.out.q qb sz)); (try replace HY := Lib.hid (HY.out.q qb sz)); have sq := qb.size; replace QQ := QQ.trans qb; replace sz := QQ.size; clear qb; (try replace ca := ba.cell); (try replace cb := bb.cell); (try replace cc := bc.cell); (try replace cd := bd.cell); (try replace ce := be.cell); (try replace cf := bf.cell); have bf := Blk.new wv 27 #[.int .i64 R1, .int .i64 R2, .slice A4 d c4]; (try replace ca := ba.cell); (try replace cb := bb.cell); (try replace cc := bc.cell); (try replace cd := bd.cell); (try replace ce := be.cell); (try replace cf := bf.cell)
  go_wp2_with fail
  refine (eqPicture R1 R2 R1 R2 A4 A1 d d c4 c1 _ _ rs rs true _ od.rd (Nat.le_refl _) oa.rd (Nat.le_refl _) HD HD hdm hdm (decide_eq_true ⟨rfl, rfl, rfl⟩)).mono ?_; rintro e wv ⟨rfl, q5⟩
  (try replace ba := ba.q q5); (try replace bb := bb.q q5); (try replace bc := bc.q q5); (try replace bd := bd.q q5); (try replace be := be.q q5); (try replace bf := bf.q q5); (try replace oa := oa.q q5); (try replace ob := ob.q q5); (try replace oc := oc.q q5); (try replace od := od.q q5); (try replace oe := oe.q q5); (try replace HX := Lib.hid (HX.out.q q5 sz)); (try replace HY := Lib.hid (HY.out.q q5 sz)); have sq := q5.size; replace QQ := QQ.trans q5; replace sz := QQ.size; clear q5; (try replace ca := ba.cell); (try replace cb := bb.cell); (try replace cc := bc.cell); (try replace cd := bd.cell); (try replace ce := be.cell); (try replace cf := bf.cell)
  go_upto_region 14 with fail
  go_cut [48] (fun cc wx => cc = .bool false ∧ Q wv wx)
  case first =>
    go_region_with (first
      | (go_at_call 15; refine (toPicture W H A n c _ xs _ (HX.out.q ((by repeat (first | exact Q.refl _ | assumption | refine Q.drewN ?_ _ | refine Q.drew ?_ | refine Q.alloc ?_ _ | refine Q.trans ?_ (by assumption) | refine Q.set ?_ (by first | exact Nat.le_refl _ | omega | (simp; done) | (simp; omega)) _)) : Q wv _) sz) (by exact sz) HN (by omega)).mono ?_; rintro e w9 ⟨v9, rfl, o9, q9⟩; obtain ⟨A9, c9, rfl⟩ := o9.form; have k9 : Q wv w9 := Q.trans (by repeat (first | exact Q.refl _ | assumption | refine Q.drewN ?_ _ | refine Q.drew ?_ | refine Q.alloc ?_ _ | refine Q.trans ?_ (by assumption) | refine Q.set ?_ (by first | exact Nat.le_refl _ | omega | (simp; done) | (simp; omega)) _)) q9; have dc9 := (bd.q k9).cell)
      | (go_at_call 18; refine (eqPicture W H W H A2 A9 n n c2 c9 _ _ xs xs true _ (ob.q k9).rd (Nat.le_refl _) o9.rd (Nat.le_refl _) HN HN hmx hmx (decide_eq_true ⟨rfl, rfl, rfl⟩)).mono ?_; rintro e w10 ⟨rfl, q10⟩))
    all_goals (go_wp2_with fail; go_meet; exact ⟨rfl, k9.trans q10⟩)
  case rest =>
  obtain ⟨rfl, q6⟩ := hcut
  generalize wc = wv at q6 ⊢
  (try replace ba := ba.q q6); (try replace bb := bb.q q6); (try replace bc := bc.q q6); (try replace bd := bd.q q6); (try replace be := be.q q6); (try replace bf := bf.q q6); (try replace oa := oa.q q6); (try replace ob := ob.q q6); (try replace oc := oc.q q6); (try replace od := od.q q6); (try replace oe := oe.q q6); (try replace HX := Lib.hid (HX.out.q q6 sz)); (try replace HY := Lib.hid (HY.out.q q6 sz)); have sq := q6.size; replace QQ := QQ.trans q6; replace sz := QQ.size; clear q6; (try replace ca := ba.cell); (try replace cb := bb.cell); (try replace cc := bc.cell); (try replace cd := bd.cell); (try replace ce := be.cell); (try replace cf := bf.cell)
  go_upto_region 16 with fail
  go_cut [53] (fun cc wx => cc = .bool false ∧ Q wv wx)
  case first =>
    go_region_with (first
      | (go_at_call 15; refine (toPicture W' H' A' n' c' _ ys _ (HY.out.q ((by repeat (first | exact Q.refl _ | assumption | refine Q.drewN ?_ _ | refine Q.drew ?_ | refine Q.alloc ?_ _ | refine Q.trans ?_ (by assumption) | refine Q.set ?_ (by first | exact Nat.le_refl _ | omega | (simp; done) | (simp; omega)) _)) : Q wv _) sz) (by exact sz) HN' (by omega)).mono ?_; rintro e w9 ⟨v9, rfl, o9, q9⟩; obtain ⟨A9, c9, rfl⟩ := o9.form; have k9 : Q wv w9 := Q.trans (by repeat (first | exact Q.refl _ | assumption | refine Q.drewN ?_ _ | refine Q.drew ?_ | refine Q.alloc ?_ _ | refine Q.trans ?_ (by assumption) | refine Q.set ?_ (by first | exact Nat.le_refl _ | omega | (simp; done) | (simp; omega)) _)) q9; have dc9 := (be.q k9).cell)
      | (go_at_call 18; refine (eqPicture W' H' W' H' A3 A9 n' n' c3 c9 _ _ ys ys true _ (oc.q k9).rd (Nat.le_refl _) o9.rd (Nat.le_refl _) HN' HN' hmx' hmx' (decide_eq_true ⟨rfl, rfl, rfl⟩)).mono ?_; rintro e w10 ⟨rfl, q10⟩))
    all_goals (go_wp2_with fail; go_meet; exact ⟨rfl, k9.trans q10⟩)
  case rest =>
  obtain ⟨rfl, q7⟩ := hcut
  generalize wc = wv at q7 ⊢
  (try replace ba := ba.q q7); (try replace bb := bb.q q7); (try replace bc := bc.q q7); (try replace bd := bd.q q7); (try replace be := be.q q7); (try replace bf := bf.q q7); (try replace oa := oa.q q7); (try replace ob := ob.q q7); (try replace oc := oc.q q7); (try replace od := od.q q7); (try replace oe := oe.q q7); (try replace HX := Lib.hid (HX.out.q q7 sz)); (try replace HY := Lib.hid (HY.out.q q7 sz)); have sq := q7.size; replace QQ := QQ.trans q7; replace sz := QQ.size; clear q7; (try replace ca := ba.cell); (try replace cb := bb.cell); (try replace cc := bc.cell); (try replace cd := bd.cell); (try replace ce := be.cell); (try replace cf := bf.cell)
  go_wp2_with fail
  refine (markPicture W H (.slice A2 n c2) n _ 1 xs _ ob.1 (by omega) (by omega) (by omega)).mono ?_; rintro e wv ⟨rfl, o8, g8⟩
  (try replace ba := ba.mark ob g8 (by omega)); (try replace bb := bb.mark ob g8 (by omega)); (try replace bc := bc.mark ob g8 (by omega)); (try replace bd := bd.mark ob g8 (by omega)); (try replace be := be.mark ob g8 (by omega)); (try replace bf := bf.mark ob g8 (by omega)); (try replace oa := oa.other ob g8 (by omega)); (try replace ob := ob.other ob g8 (by omega)); (try replace oc := oc.other ob g8 (by omega)); (try replace od := od.other ob g8 (by omega)); (try replace oe := oe.other ob g8 (by omega)); (try replace HX := Lib.hid (HX.out.mark ob g8 sz (by omega))); (try replace HY := Lib.hid (HY.out.mark ob g8 sz (by omega))); have sq := g8.size; replace QQ := QQ.mark ob g8 (by omega); replace sz := QQ.size; (try replace ca := ba.cell); (try replace cb := bb.cell); (try replace cc := bc.cell); (try replace cd := bd.cell); (try replace ce := be.cell); (try replace cf := bf.cell)
  clear ob o8 g8
  go_wp2_with fail
  refine (markPicture W' H' (.slice A3 n' c3) n' _ (1 + n) ys _ oc.1 (by omega) (by omega) (by omega)).mono ?_; rintro e wv ⟨rfl, o9, g9⟩
  (try replace ba := ba.mark oc g9 (by omega)); (try replace bb := bb.mark oc g9 (by omega)); (try replace bc := bc.mark oc g9 (by omega)); (try replace bd := bd.mark oc g9 (by omega)); (try replace be := be.mark oc g9 (by omega)); (try replace bf := bf.mark oc g9 (by omega)); (try replace oa := oa.other oc g9 (by omega)); (try replace ob := ob.other oc g9 (by omega)); (try replace oc := oc.other oc g9 (by omega)); (try replace od := od.other oc g9 (by omega)); (try replace oe := oe.other oc g9 (by omega)); (try replace HX := Lib.hid (HX.out.mark oc g9 sz (by omega))); (try replace HY := Lib.hid (HY.out.mark oc g9 sz (by omega))); have sq := g9.size; replace QQ := QQ.mark oc g9 (by omega); replace sz := QQ.size; (try replace ca := ba.cell); (try replace cb := bb.cell); (try replace cc := bc.cell); (try replace cd := bd.cell); (try replace ce := be.cell); (try replace cf := bf.cell)
  clear oc o9 g9
  go_wp2_with fail
  refine (eqPicture R1 R2 R1 R2 A4 A1 d d c4 c1 _ _ rs rs true _ od.rd (Nat.le_refl _) oa.rd (Nat.le_refl _) HD HD hdm hdm (decide_eq_true ⟨rfl, rfl, rfl⟩)).mono ?_; rintro e wv ⟨rfl, q10⟩
  (try replace ba := ba.q q10); (try replace bb := bb.q q10); (try replace bc := bc.q q10); (try replace bd := bd.q q10); (try replace be := be.q q10); (try replace bf := bf.q q10); (try replace oa := oa.q q10); (try replace ob := ob.q q10); (try replace oc := oc.q q10); (try replace od := od.q q10); (try replace oe := oe.q q10); (try replace HX := Lib.hid (HX.out.q q10 sz)); (try replace HY := Lib.hid (HY.out.q q10 sz)); have sq := q10.size; replace QQ := QQ.trans q10; replace sz := QQ.size; clear q10; (try replace ca := ba.cell); (try replace cb := bb.cell); (try replace cc := bc.cell); (try replace cd := bd.cell); (try replace ce := be.cell); (try replace cf := bf.cell)
  go_wp2_with fail
  refine (markPicture R1 R2 (.slice A4 d c4) d _ 1 rs _ od.1 (by omega) (by omega) (by omega)).mono ?_; rintro e wv ⟨rfl, o11, g11⟩
  have oz := od.marked o11
  (try replace ba := ba.mark od g11 (by omega)); (try replace bb := bb.mark od g11 (by omega)); (try replace bc := bc.mark od g11 (by omega)); (try replace bd := bd.mark od g11 (by omega)); (try replace be := be.mark od g11 (by omega)); (try replace bf := bf.mark od g11 (by omega)); (try replace oa := oa.other od g11 (by omega)); (try replace ob := ob.other od g11 (by omega)); (try replace oc := oc.other od g11 (by omega)); (try replace od := od.other od g11 (by omega)); (try replace oe := oe.other od g11 (by omega)); (try replace HX := Lib.hid (HX.out.mark od g11 sz (by omega))); (try replace HY := Lib.hid (HY.out.mark od g11 sz (by omega))); have sq := g11.size; replace QQ := QQ.mark od g11 (by omega); replace sz := QQ.size; (try replace ca := ba.cell); (try replace cb := bb.cell); (try replace cc := bc.cell); (try replace cd := bd.cell); (try replace ce := be.cell); (try replace cf := bf.cell)
  clear od o11 g11
  have od := oz
  clear oz
  go_wp2_with fail
  refine (heldPicture R1 R2 (.slice A4 d c4) d _ 1 _ od.1 (by omega) (by omega) (by omega)).mono ?_; rintro e wv ⟨rfl, q12⟩
  (try replace ba := ba.q q12); (try replace bb := bb.q q12); (try replace bc := bc.q q12); (try replace bd := bd.q q12); (try replace be := be.q q12); (try replace bf := bf.q q12); (try replace oa := oa.q q12); (try replace ob := ob.q q12); (try replace oc := oc.q q12); (try replace od := od.q q12); (try replace oe := oe.q q12); (try replace HX := Lib.hid (HX.out.q q12 sz)); (try replace HY := Lib.hid (HY.out.q q12 sz)); have sq := q12.size; replace QQ := QQ.trans q12; replace sz := QQ.size; clear q12; (try replace ca := ba.cell); (try replace cb := bb.cell); (try replace cc := bc.cell); (try replace cd := bd.cell); (try replace ce := be.cell); (try replace cf := bf.cell)
  go_upto_region 31 with fail
  go_cut [15] (fun p wx => ∃ g v lo, p = .pointer (some ⟨g, 0, none⟩) ∧ Blk wx g 27 #[.int .i64 R1, .int .i64 R2, v] ∧ Own wx lo v d rs ∧ Q wv wx ∧ wv.heap.size ≤ lo ∧ wv.heap.size ≤ g ∧ g < wx.heap.size)
  case first =>
    go_region_held3 (fun ww => ww.cell? ⟨w.heap.size, 0, none⟩ = some (.int .i64 W) ∧ ww.cell? ⟨w.heap.size, 1, none⟩ = some (.int .i64 H) ∧ ww.cell? ⟨w.heap.size, 2, none⟩ = some (.slice A n c) ∧ ww.cell? ⟨w.heap.size + 1, 0, none⟩ = some (.int .i64 W') ∧ ww.cell? ⟨w.heap.size + 1, 1, none⟩ = some (.int .i64 H') ∧ ww.cell? ⟨w.heap.size + 1, 2, none⟩ = some (.slice A' n' c')) (first | (refine ⟨?_, ?_, ?_, ?_, ?_, ?_⟩; exact (ba.q (by repeat (first | exact Q.refl _ | assumption | refine Q.drewN ?_ _ | refine Q.drew ?_ | refine Q.alloc ?_ _ | refine Q.trans ?_ (by assumption) | refine Q.set ?_ (by first | exact Nat.le_refl _ | omega | (simp; done) | (simp; omega)) _))).cell 0; exact (ba.q (by repeat (first | exact Q.refl _ | assumption | refine Q.drewN ?_ _ | refine Q.drew ?_ | refine Q.alloc ?_ _ | refine Q.trans ?_ (by assumption) | refine Q.set ?_ (by first | exact Nat.le_refl _ | omega | (simp; done) | (simp; omega)) _))).cell 1; exact (ba.q (by repeat (first | exact Q.refl _ | assumption | refine Q.drewN ?_ _ | refine Q.drew ?_ | refine Q.alloc ?_ _ | refine Q.trans ?_ (by assumption) | refine Q.set ?_ (by first | exact Nat.le_refl _ | omega | (simp; done) | (simp; omega)) _))).cell 2; exact (bb.q (by repeat (first | exact Q.refl _ | assumption | refine Q.drewN ?_ _ | refine Q.drew ?_ | refine Q.alloc ?_ _ | refine Q.trans ?_ (by assumption) | refine Q.set ?_ (by first | exact Nat.le_refl _ | omega | (simp; done) | (simp; omega)) _))).cell 0; exact (bb.q (by repeat (first | exact Q.refl _ | assumption | refine Q.drewN ?_ _ | refine Q.drew ?_ | refine Q.alloc ?_ _ | refine Q.trans ?_ (by assumption) | refine Q.set ?_ (by first | exact Nat.le_refl _ | omega | (simp; done) | (simp; omega)) _))).cell 1; exact (bb.q (by repeat (first | exact Q.refl _ | assumption | refine Q.drewN ?_ _ | refine Q.drew ?_ | refine Q.alloc ?_ _ | refine Q.trans ?_ (by assumption) | refine Q.set ?_ (by first | exact Nat.le_refl _ | omega | (simp; done) | (simp; omega)) _))).cell 2) | go_keep) (first | (go_at_call_of 15 A; refine (toPicture W H A n c _ xs _ (HX.out.q ((by repeat (first | exact Q.refl _ | assumption | refine Q.drewN ?_ _ | refine Q.drew ?_ | refine Q.alloc ?_ _ | refine Q.trans ?_ (by assumption) | refine Q.set ?_ (by first | exact Nat.le_refl _ | omega | (simp; done) | (simp; omega)) _)) : Q wv _) sz) (by first | exact sz | omega | (simp; omega)) HN (by omega)).mono ?_; rintro e w3 ⟨v3, rfl, o3, q3⟩; obtain ⟨A3, c3, rfl⟩ := o3.form; have k3 : Q wv w3 := Q.trans (by repeat (first | exact Q.refl _ | assumption | refine Q.drewN ?_ _ | refine Q.drew ?_ | refine Q.alloc ?_ _ | refine Q.trans ?_ (by assumption) | refine Q.set ?_ (by first | exact Nat.le_refl _ | omega | (simp; done) | (simp; omega)) _)) q3; have z3 := k3.size; have u3 := q3.size; (try simp at u3); (first | (have nb := nb.q q3) | (have nb := Blk.q (Blk.new _ _ _) q3) | (have nb := Blk.q (Blk.newd _ _ _) q3) | skip); (try have nc := nb.cell); (try have nf := nb.free)) | (go_at_call_of 15 A'; refine (toPicture W' H' A' n' c' _ ys _ (HY.out.q ((by repeat (first | exact Q.refl _ | assumption | refine Q.drewN ?_ _ | refine Q.drew ?_ | refine Q.alloc ?_ _ | refine Q.trans ?_ (by assumption) | refine Q.set ?_ (by first | exact Nat.le_refl _ | omega | (simp; done) | (simp; omega)) _)) : Q wv _) sz) (by first | exact sz | omega | (simp; omega)) HN' (by omega)).mono ?_; rintro e w4 ⟨v4, rfl, o4, q4⟩; obtain ⟨A4, c4, rfl⟩ := o4.form; have y4 : Q w3 w4 := Q.trans (by repeat (first | exact Q.refl _ | assumption | refine Q.drewN ?_ _ | refine Q.drew ?_ | refine Q.alloc ?_ _ | refine Q.trans ?_ (by assumption) | refine Q.set ?_ (by first | exact Nat.le_refl _ | omega | (simp; done) | (simp; omega)) _)) q4; have k4 : Q wv w4 := Q.trans (by repeat (first | exact Q.refl _ | assumption | refine Q.drewN ?_ _ | refine Q.drew ?_ | refine Q.alloc ?_ _ | refine Q.trans ?_ (by assumption) | refine Q.set ?_ (by first | exact Nat.le_refl _ | omega | (simp; done) | (simp; omega)) _)) q4; have z4 := k4.size; have u4 := q4.size; (try simp at u4); (first | (have nb := nb.q q4) | (have nb := Blk.q (Blk.new _ _ _) q4) | (have nb := Blk.q (Blk.newd _ _ _) q4) | skip); (try have nc := nb.cell); (try have nf := nb.free)) | (go_at_call 25; refine (impl_Fade W H W' H' t A3 A4 n n' c3 c4 _ _ xs ys _ (o3.q ((by repeat (first | exact Q.refl _ | assumption | refine Q.drewN ?_ _ | refine Q.drew ?_ | refine Q.alloc ?_ _ | refine Q.trans ?_ (by assumption) | refine Q.set ?_ (by first | exact Nat.le_refl _ | omega | (simp; done) | (simp; omega)) _)) : Q w3 _)).rd (Nat.le_refl _) (o4.q ((by repeat (first | exact Q.refl _ | assumption | refine Q.drewN ?_ _ | refine Q.drew ?_ | refine Q.alloc ?_ _ | refine Q.trans ?_ (by assumption) | refine Q.set ?_ (by first | exact Nat.le_refl _ | omega | (simp; done) | (simp; omega)) _)) : Q w4 _)).rd (Nat.le_refl _) HN HN' hm hm').mono ?_; rw [HR.out]; dsimp only; rw [HD.out]; rintro e w5 ⟨v5, rfl, o5, q5⟩; obtain ⟨A5, c5, rfl⟩ := o5.form; have k5 : Q wv w5 := Q.trans (by repeat (first | exact Q.refl _ | assumption | refine Q.drewN ?_ _ | refine Q.drew ?_ | refine Q.alloc ?_ _ | refine Q.trans ?_ (by assumption) | refine Q.set ?_ (by first | exact Nat.le_refl _ | omega | (simp; done) | (simp; omega)) _)) q5; have z5 := k5.size; have u5 := q5.size; (try simp at u5); (first | (have nb := nb.q q5) | (have nb := Blk.q (Blk.new _ _ _) q5) | (have nb := Blk.q (Blk.newd _ _ _) q5) | skip); (try have nc := nb.cell); (try have nf := nb.free))); all_goals (go_wp2_with fail; go_meet; first | exact ⟨_, _, _, rfl, Blk.new _ _ _, o5.alloc _, k5.alloc _, (by omega), z5, (by simp)⟩ | exact ⟨_, _, _, rfl, ((nb.set 0 _).set 1 _).set 2 _, ((o5.far (by first | exact Nat.le_refl _ | omega | (simp; done) | (simp; omega)) _).far (by first | exact Nat.le_refl _ | omega | (simp; done) | (simp; omega)) _).far (by first | exact Nat.le_refl _ | omega | (simp; done) | (simp; omega)) _, (by repeat (first | exact Q.refl _ | assumption | refine Q.drewN ?_ _ | refine Q.drew ?_ | refine Q.alloc ?_ _ | refine Q.trans ?_ (by assumption) | refine Q.set ?_ (by first | exact Nat.le_refl _ | omega | (simp; done) | (simp; omega)) _)), (by first | omega | (simp; omega)), (by first | omega | (simp; omega)), (by have := nb.lt; simpa [World.setCell] using this)⟩)
  case rest =>
  obtain ⟨g2, v2, l2, rfl, bz, o2, q13, hl2, hg3, hg4⟩ := hcut
  obtain ⟨A5, c5, rfl⟩ := o2.form
  generalize wc = wv at o2 bz q13 hg4 ⊢
  (try replace ba := ba.q q13); (try replace bb := bb.q q13); (try replace bc := bc.q q13); (try replace bd := bd.q q13); (try replace be := be.q q13); (try replace bf := bf.q q13); (try replace oa := oa.q q13); (try replace ob := ob.q q13); (try replace oc := oc.q q13); (try replace od := od.q q13); (try replace oe := oe.q q13); (try replace HX := Lib.hid (HX.out.q q13 sz)); (try replace HY := Lib.hid (HY.out.q q13 sz)); have sq := q13.size; replace QQ := QQ.trans q13; replace sz := QQ.size; clear q13; (try replace ca := ba.cell); (try replace cb := bb.cell); (try replace cc := bc.cell); (try replace cd := bd.cell); (try replace ce := be.cell); (try replace cf := bf.cell)
  have cz := bz.cell
  go_wp2_with fail
  refine (eqPicture R1 R2 R1 R2 A5 A1 d d c5 c1 _ _ rs rs true _ o2.rd (Nat.le_refl _) oa.rd (Nat.le_refl _) HD HD hdm hdm (decide_eq_true ⟨rfl, rfl, rfl⟩)).mono ?_; rintro e wv ⟨rfl, q14⟩
  (try replace ba := ba.q q14); (try replace bb := bb.q q14); (try replace bc := bc.q q14); (try replace bd := bd.q q14); (try replace be := be.q q14); (try replace bf := bf.q q14); (try replace oa := oa.q q14); (try replace ob := ob.q q14); (try replace oc := oc.q q14); (try replace od := od.q q14); (try replace oe := oe.q q14); (try replace HX := Lib.hid (HX.out.q q14 sz)); (try replace HY := Lib.hid (HY.out.q q14 sz)); have sq := q14.size; replace QQ := QQ.trans q14; replace sz := QQ.size; clear q14; (try replace ca := ba.cell); (try replace cb := bb.cell); (try replace cc := bc.cell); (try replace cd := bd.cell); (try replace ce := be.cell); (try replace cf := bf.cell)
  go_wp2_with fail
  refine (heldPicture R1 R2 (.slice A4 d c4) d _ 1 _ od.1 (by omega) (by omega) (by omega)).mono ?_; rintro e wv ⟨rfl, q15⟩
  (try replace ba := ba.q q15); (try replace bb := bb.q q15); (try replace bc := bc.q q15); (try replace bd := bd.q q15); (try replace be := be.q q15); (try replace bf := bf.q q15); (try replace oa := oa.q q15); (try replace ob := ob.q q15); (try replace oc := oc.q q15); (try replace od := od.q q15); (try replace oe := oe.q q15); (try replace HX := Lib.hid (HX.out.q q15 sz)); (try replace HY := Lib.hid (HY.out.q q15 sz)); have sq := q15.size; replace QQ := QQ.trans q15; replace sz := QQ.size; clear q15; (try replace ca := ba.cell); (try replace cb := bb.cell); (try replace cc := bc.cell); (try replace cd := bd.cell); (try replace ce := be.cell); (try replace cf := bf.cell)
  go_wp2_with fail
  go_ret
  exact ⟨rfl, QQ⟩

set_option maxRecDepth 100000 in
theorem lifted_FnExactFadePicture (os : Os) (started : os.Started) (H : Type) (enc : TypeId × Value → H) :
    ReturnsInHanded {} Try.checked os 5 .any (Rows.fnExactFadePictureSpec.pre6 enc Try.prog Try.f5 Rows.fnExactFadePictureRow.domain false) (Rows.fnExactFadePictureSpec.post enc Try.prog Try.f5 false true false false) := by
  refine returnsInHanded_of_change (C := Try.checked) own_knob started (by kernel_rfl) Try.func5
    (ChangeSpec.witness6 (enc := enc) (C := Try.checked) false ⟨#[], #[.agg #[.int .i64 0, .int .i64 0, .slice none 0 0], .agg #[.int .i64 0, .int .i64 0, .slice none 0 0], .int .i64 0], []⟩ 8 (by kernel_rfl) (by kernel_rfl) (by kernel_rfl) (by kernel_rfl)) ?_
  intro W base args ds gs before hval0 hW hcnd _
  have hval : ∀ (j : Nat) t v, Try.f5.params[j]? = some t → args[j]? = some v → Value.okWide Try.prog W .any base t v := hval0
  have hW' := hW
  obtain ⟨p, q, hA0, hV, rfl, hfz, hnd⟩ := hW
  have hA : DataW.TrodAll enc Try.prog W 0 (fun _ => true) true Try.f5.params.toList args.toList ds p := hA0
  rw [Try.params5] at hA hval
  obtain ⟨v0, vs0, d0, ds0, p0, q0, hargs, rfl, rfl, h0, r0⟩ := trodAll_cons hA
  obtain ⟨v1, vs1, d1, ds1, p1, q1, rfl, rfl, rfl, h1, r1⟩ := trodAll_cons r0
  obtain ⟨v2, vs2, d2, ds2, p2, q2, rfl, rfl, rfl, h2, r2⟩ := trodAll_cons r1
  obtain ⟨rfl, rfl, rfl⟩ := trodAll_nil r2
  obtain rfl : args = #[v0, v1, v2] := by cases args; simp_all
  obtain ⟨rfl, rfl⟩ := trodVars_none hV
  have k0 := h0
  have lt0 : ∀ x ∈ p0, x.block < W.heap.size := by obtain ⟨m, hm⟩ := k0; exact DataW.trod_lt m _ _ _ hm
  obtain ⟨x0, o0⟩ := open_pic (hval 0 24 v0 rfl rfl) h0
  have k1 := h1
  have lt1 : ∀ x ∈ p1, x.block < W.heap.size := by obtain ⟨m, hm⟩ := k1; exact DataW.trod_lt m _ _ _ hm
  obtain ⟨x1, o1⟩ := open_pic (hval 1 24 v1 rfl rfl) h1
  have k2 := h2
  have lt2 : ∀ x ∈ p2, x.block < W.heap.size := by obtain ⟨m, hm⟩ := k2; exact DataW.trod_lt m _ _ _ hm
  obtain ⟨x2, o2⟩ := open_int (hval 2 3 v2 rfl rfl) h2
  clear hA0 hval0
  refine (walk_FnExactFadePicture W v0 x0 o0 v1 x1 o1 v2 x2 o2).mono fun e W' ⟨he, bel⟩ => ?_
  subst he
  exact ⟨_, rfl, _, _, _, [], _, [], hW', trodAll_mk1 (shut_bool Try.underlying4 _), (trodAll_cons_mk (Below.trod laid_out (by kernel_rfl) (of_decide_eq_true (by kernel_rfl)) k0 bel lt0) (trodAll_cons_mk (Below.trod laid_out (by kernel_rfl) (of_decide_eq_true (by kernel_rfl)) k1 bel lt1) (trodAll_cons_mk (Below.trod laid_out (by kernel_rfl) (of_decide_eq_true (by kernel_rfl)) k2 bel lt2) trodAll_mk0))), rfl, bel.frame _, fun h => by cases h⟩

/-- The statement. -/
theorem FnExactFadePicture_holds : Rows.FnExactFadePictureSaid :=
  OpenClaim.holds_of_wide 5 Try.f5 rfl rfl rfl rfl rfl rfl rfl ⟨rfl, rfl, rfl, rfl, rfl⟩ rfl rfl rfl rfl rfl (by kernel_rfl) Try.func5 (by kernel_rfl)
    (of_decide_eq_true (by kernel_rfl)) (by unfold Func.isWrapper; first | (rw [if_pos (by decide +kernel)]; kernel_rfl) | (rw [if_neg (by decide +kernel)]; exact ⟨rfl, rfl⟩))
    (fun os started H enc _ => lifted_FnExactFadePicture os started H enc)
#print axioms FnExactFadePicture_holds
end Go.Proofs.Ytoipcfpbkjanhaa

/-
  FnExactSceneCut: for every two pictures of at most 1048576 samples together the program's SceneCut returns what the reference's returns, and leaves the pictures alone; for larger ones the law asks nothing; so the law returns true. No condition.
-/
import Derived.Test.YtoipcfpbkjanhaaFrameP
import Derived.Test.YtoipcfpbkjanhaaPictsL
import Derived.Test.YtoipcfpbkjanhaaScene2
import Derived.Deep.RegionWith
import Derived.Deep.DeepCutAuto
namespace Go.Proofs.Ytoipcfpbkjanhaa
open Go.ChangeShapes Go.WideShapes Go.ChangeAt Go.RowKit

set_option maxRecDepth 100000 in
set_option maxHeartbeats 4000000 in
theorem walk_FnExactSceneCut (w : World) (v0 : Value) (x0 : Int × Int × (Option Addr × Nat × List Int)) (h0 : ArgPic w v0 x0) (v1 : Value) (x1 : Int × Int × (Option Addr × Nat × List Int)) (h1 : ArgPic w v1 x1) :
    Calls Try.prog 4 #[v0, v1] w fun e w' => e = .returned (.bool true) ∧ Q w w' := by
  obtain ⟨W, H, A, c, xs⟩ := x0
  obtain ⟨rfl, hr, hm⟩ := h0
  obtain ⟨W', H', A', c', ys⟩ := x1
  obtain ⟨rfl, hr', hm'⟩ := h1
  simp only at hr hm hr' hm' ⊢
  generalize hn : xs.length = n at hm
  generalize hn' : ys.length = n' at hm'
  have HN : Hid (xs.length = n) := hn
  have HN' : Hid (ys.length = n') := hn'
  clear hn hn'
  have hmx := hm
  have hmx' := hm'
  unfold maxLen at hm hm'
  have q0 : Q w ((w.alloc (.cells #[.int .i64 W, .int .i64 H, .slice A n c] 24)).alloc (.cells #[.int .i64 W', .int .i64 H', .slice A' n' c'] 24)) := (by repeat (first | exact Q.refl _ | assumption | refine Q.drewN ?_ _ | refine Q.drew ?_ | refine Q.alloc ?_ _ | refine Q.trans ?_ (by assumption) | refine Q.set ?_ (by first | exact Nat.le_refl _ | omega | (simp; done) | (simp; omega)) _))
  have b0 := (Blk.new w 24 #[.int .i64 W, .int .i64 H, .slice A n c]).alloc (.cells #[.int .i64 W', .int .i64 H', .slice A' n' c'] 24)
  have d0 := Blk.new (w.alloc (.cells #[.int .i64 W, .int .i64 H, .slice A n c] 24)) 24 #[.int .i64 W', .int .i64 H', .slice A' n' c']
  rw [World.size_alloc] at d0
  have s0 := q0.size
  have HX := Lib.hid (hr.q q0 (Nat.le_refl _))
  have HY := Lib.hid (hr'.q q0 (Nat.le_refl _))
  clear hr hr'
  by_cases hbig : (1048576 : Int) < (n : Int)
  · have HB := Lib.hid hbig
    clear hbig
    go_enter Try.func4, Try.ntmps4
    go_wp2_with fail
    refine (szPicture W H A n c 1048576 _ (by omega) (by omega) hm).mono ?_; rw [if_pos HB.out]; rintro e w1 ⟨rfl, q1⟩
    go_wp2_with fail
    go_ret
    exact ⟨rfl, q0.trans q1⟩
  have hle : (n : Int) ≤ 1048576 := by omega
  clear hbig
  by_cases hbig2 : 1048576 - (n : Int) < (n' : Int)
  · have HB := Lib.hid hbig2
    clear hbig2
    go_enter Try.func4, Try.ntmps4
    go_wp2_with fail
    refine (szPicture W H A n c 1048576 _ (by omega) (by omega) hm).mono ?_; rw [if_neg (Int.not_lt.2 hle)]; rintro e w1 ⟨rfl, q1⟩
    have d1 := (d0.q q1).cell
    go_wp2_with fail
    refine (szPicture W' H' A' n' c' (1048576 - n) _ (by omega) (by omega) hm').mono ?_; rw [if_pos HB.out]; rintro e w2 ⟨rfl, q2⟩
    go_wp2_with fail
    go_ret
    exact ⟨rfl, (q0.trans q1).trans q2⟩
  have hle2 : (n' : Int) ≤ 1048576 - n := by omega
  clear hbig2
  generalize ht : cutB W H xs W' H' ys = t
  have HT := Lib.hid ht
  clear ht
  go_enter Try.func4, Try.ntmps4
  go_wp2_with fail
  refine (szPicture W H A n c 1048576 _ (by omega) (by omega) hm).mono ?_; rw [if_neg (Int.not_lt.2 hle)]; rintro e w1 ⟨rfl, q1⟩
  have d1 := (d0.q q1).cell
  go_wp2_with fail
  refine (szPicture W' H' A' n' c' (1048576 - n) _ (by omega) (by omega) hm').mono ?_; rw [if_neg (Int.not_lt.2 hle2)]; rintro e w2 ⟨rfl, q2⟩
  have q12 := q1.trans q2
  have b2 := b0.q q12
  have d2 := d0.q q12
  have X2 := Lib.hid (HX.out.q q12 s0)
  have Y2 := Lib.hid (HY.out.q q12 s0)
  have Q2 := q0.trans q12
  have s2 := Q2.size
  have bc2 := b2.cell
  have dc2 := d2.cell
  clear q0 b0 d0 s0 HX HY d1 q1 q2 q12
  go_upto_region 8 with fail
  go_cut [6] (fun cc wx => cc = .bool t ∧ Q w2 wx)
  case first =>
    go_region_with (first
      | (go_at_call_of 15 A; refine (toPicture W H A n c _ xs _ (show Rd w2.drew _ _ _ from X2.out) s2 HN (by omega)).mono ?_; rintro e w3 ⟨v3, rfl, o3, q3⟩; obtain ⟨A3, c3, rfl⟩ := o3.form; have dc3 := (Blk.q (w := w2.drew) d2 q3).cell; have q3' := (Q.refl w2).drew.trans q3)
      | (go_at_call_of 15 A'; refine (toPicture W' H' A' n' c' _ ys _ (Y2.out.q q3' s2) (Nat.le_trans s2 q3'.size) HN' (by omega)).mono ?_; rintro e w4 ⟨v4, rfl, o4, q4⟩; obtain ⟨A4, c4, rfl⟩ := o4.form)
      | (go_at_call 22; refine (spec_SceneCut W H W' H' A3 A4 n n' c3 c4 _ _ xs ys t _ (o3.q q4).rd (Nat.le_refl _) o4.rd (Nat.le_refl _) HN HN' hm hm' HT).mono ?_; rintro e w5 ⟨rfl, q5⟩))
    all_goals (go_wp2_with fail; go_meet; exact ⟨rfl, (q3'.trans q4).trans q5⟩)
  case rest =>
  obtain ⟨rfl, q3⟩ := hcut
  generalize wc = w3 at q3 ⊢
  have b3 := b2.q q3
  have d3 := d2.q q3
  have X3 := Lib.hid (X2.out.q q3 s2)
  have Y3 := Lib.hid (Y2.out.q q3 s2)
  have Q3 := Q2.trans q3
  have s3 := Q3.size
  have bc3 := b3.cell
  clear b2 d2 X2 Y2 Q2 s2 bc2 dc2 q3
  go_wp2_with fail
  refine (toPicture W H A n c _ xs _ X3.out s3 HN (by omega)).mono ?_; rintro e w4 ⟨v4, rfl, o4, q4⟩
  obtain ⟨A4, c4, rfl⟩ := o4.form
  have q4' := q4.alloc (.cells #[.int .i64 W, .int .i64 H, .slice A4 n c4] 27)
  have e4 := Blk.new w4 27 #[.int .i64 W, .int .i64 H, .slice A4 n c4]
  have o4' := o4.alloc (.cells #[.int .i64 W, .int .i64 H, .slice A4 n c4] 27)
  have b4 := b3.q q4'
  have d4 := d3.q q4'
  have X4 := Lib.hid (X3.out.q q4' s3)
  have Y4 := Lib.hid (Y3.out.q q4' s3)
  have Q4 := Q3.trans q4'
  have s4 := Q4.size
  have dc4 := d4.cell
  clear b3 d3 X3 Y3 Q3 s3 bc3 q4 q4' o4
  go_wp2_with fail
  generalize w4.alloc (.cells #[.int .i64 W, .int .i64 H, .slice A4 n c4] 27) = w5 at e4 o4' b4 d4 X4 Y4 Q4 s4 dc4 ⊢
  generalize w4.heap.size = m4 at e4 ⊢
  refine (toPicture W' H' A' n' c' _ ys _ Y4.out s4 HN' (by omega)).mono ?_; rintro e w6 ⟨v6, rfl, o6, q6⟩
  obtain ⟨A6, c6, rfl⟩ := o6.form
  have q6' := q6.alloc (.cells #[.int .i64 W', .int .i64 H', .slice A6 n' c6] 27)
  have f6 := Blk.new w6 27 #[.int .i64 W', .int .i64 H', .slice A6 n' c6]
  have o6' := o6.alloc (.cells #[.int .i64 W', .int .i64 H', .slice A6 n' c6] 27)
  have o46 := o4'.q q6'
  have e6 := e4.q q6'
  have b6 := b4.q q6'
  have d6 := d4.q q6'
  have X6 := Lib.hid (X4.out.q q6' s4)
  have Y6 := Lib.hid (Y4.out.q q6' s4)
  have Q6 := Q4.trans q6'
  have s6 := Q6.size
  have ec6 := e6.cell
  clear b4 d4 X4 Y4 Q4 s4 dc4 q6 q6' o6 e4 o4'
  go_wp2_with fail
  generalize w6.alloc (.cells #[.int .i64 W', .int .i64 H', .slice A6 n' c6] 27) = w7 at f6 o6' o46 e6 b6 d6 X6 Y6 Q6 s6 ec6 ⊢
  generalize w6.heap.size = m6 at f6 ⊢
  refine (impl_SceneCut W H W' H' A4 A6 n n' c4 c6 _ _ xs ys t _ o46.rd (Nat.le_refl _) o6'.rd (Nat.le_refl _) HN HN' hm hm' HT).mono ?_; rintro e w8 ⟨rfl, q8⟩
  have o68 := o6'.q q8
  have o48 := o46.q q8
  have e8 := e6.q q8
  have f8 := f6.q q8
  have b8 := b6.q q8
  have d8 := d6.q q8
  have X8 := Lib.hid (X6.out.q q8 s6)
  have Y8 := Lib.hid (Y6.out.q q8 s6)
  have Q8 := Q6.trans q8
  have s8 := Q8.size
  have ec8 := e8.cell
  have bc8 := b8.cell
  clear f6 o6' o46 e6 b6 d6 X6 Y6 Q6 s6 ec6 q8
  cases t
  all_goals
    go_upto_region 14 with fail
    go_cut [39] (fun cc wx => cc = .bool false ∧ Q w8 wx)
    case first =>
      go_region_with (first
        | (go_at_call 15; refine (toPicture W H A n c _ xs _ (show Rd w8.drew _ _ _ from X8.out) s8 HN (by omega)).mono ?_; rintro e w9 ⟨v9, rfl, o9, q9⟩; obtain ⟨A9, c9, rfl⟩ := o9.form; have ec9 := (Blk.q (w := w8.drew) e8 q9).cell)
        | (go_at_call 18; refine (eqPicture W H W H A4 A9 n n c4 c9 _ _ xs xs true _ (o48.drew.q q9).rd (Nat.le_refl _) o9.rd (Nat.le_refl _) HN HN hmx hmx (decide_eq_true ⟨rfl, rfl, rfl⟩)).mono ?_; rintro e w10 ⟨rfl, q10⟩))
      all_goals (go_wp2_with fail; go_meet; exact ⟨rfl, ((Q.refl w8).drew.trans q9).trans q10⟩)
    case rest =>
    obtain ⟨rfl, q9⟩ := hcut
    generalize wc = w9 at q9 ⊢
    have o69 := o68.q q9
    have f9 := f8.q q9
    have d9 := d8.q q9
    have Y9 := Lib.hid (Y8.out.q q9 s8)
    have Q9 := Q8.trans q9
    have s9 := Q9.size
    have fc9 := f9.cell
    have dc9 := d9.cell
    clear o68 o48 e8 f8 b8 d8 X8 Y8 Q8 s8 ec8 bc8 q9
    go_upto_region 16 with fail
    go_cut [44] (fun cc wx => cc = .bool false ∧ Q w9 wx)
    case first =>
      go_region_with (first
        | (go_at_call 15; refine (toPicture W' H' A' n' c' _ ys _ (show Rd w9.drew _ _ _ from Y9.out) s9 HN' (by omega)).mono ?_; rintro e w10 ⟨v10, rfl, o10, q10⟩; obtain ⟨A10, c10, rfl⟩ := o10.form; have fc10 := (Blk.q (w := w9.drew) f9 q10).cell)
        | (go_at_call 18; refine (eqPicture W' H' W' H' A6 A10 n' n' c6 c10 _ _ ys ys true _ (o69.drew.q q10).rd (Nat.le_refl _) o10.rd (Nat.le_refl _) HN' HN' hmx' hmx' (decide_eq_true ⟨rfl, rfl, rfl⟩)).mono ?_; rintro e w11 ⟨rfl, q11⟩))
      all_goals (go_wp2_with fail; go_meet; exact ⟨rfl, ((Q.refl w9).drew.trans q10).trans q11⟩)
    case rest =>
    obtain ⟨rfl, q10⟩ := hcut
    go_wp2_with fail
    go_ret
    exact ⟨rfl, Q9.trans q10⟩

set_option maxRecDepth 100000 in
theorem lifted_FnExactSceneCut (os : Os) (started : os.Started) (H : Type) (enc : TypeId × Value → H) :
    ReturnsInHanded {} Try.checked os 4 .any (Rows.fnExactSceneCutSpec.pre6 enc Try.prog Try.f4 Rows.fnExactSceneCutRow.domain false) (Rows.fnExactSceneCutSpec.post enc Try.prog Try.f4 false true false false) := by
  refine returnsInHanded_of_change (C := Try.checked) own_knob started (by kernel_rfl) Try.func4
    (ChangeSpec.witness6 (enc := enc) (C := Try.checked) false ⟨#[], #[.agg #[.int .i64 0, .int .i64 0, .slice none 0 0], .agg #[.int .i64 0, .int .i64 0, .slice none 0 0]], []⟩ 8 (by kernel_rfl) (by kernel_rfl) (by kernel_rfl) (by kernel_rfl)) ?_
  intro W base args ds gs before hval0 hW hcnd _
  have hval : ∀ (j : Nat) t v, Try.f4.params[j]? = some t → args[j]? = some v → Value.okWide Try.prog W .any base t v := hval0
  have hW' := hW
  obtain ⟨p, q, hA0, hV, rfl, hfz, hnd⟩ := hW
  have hA : DataW.TrodAll enc Try.prog W 0 (fun _ => true) true Try.f4.params.toList args.toList ds p := hA0
  rw [Try.params4] at hA hval
  obtain ⟨v0, vs0, d0, ds0, p0, q0, hargs, rfl, rfl, h0, r0⟩ := trodAll_cons hA
  obtain ⟨v1, vs1, d1, ds1, p1, q1, rfl, rfl, rfl, h1, r1⟩ := trodAll_cons r0
  obtain ⟨rfl, rfl, rfl⟩ := trodAll_nil r1
  obtain rfl : args = #[v0, v1] := by cases args; simp_all
  obtain ⟨rfl, rfl⟩ := trodVars_none hV
  have k0 := h0
  have lt0 : ∀ x ∈ p0, x.block < W.heap.size := by obtain ⟨m, hm⟩ := k0; exact DataW.trod_lt m _ _ _ hm
  obtain ⟨x0, o0⟩ := open_pic (hval 0 24 v0 rfl rfl) h0
  have k1 := h1
  have lt1 : ∀ x ∈ p1, x.block < W.heap.size := by obtain ⟨m, hm⟩ := k1; exact DataW.trod_lt m _ _ _ hm
  obtain ⟨x1, o1⟩ := open_pic (hval 1 24 v1 rfl rfl) h1
  clear hA0 hval0
  refine (walk_FnExactSceneCut W v0 x0 o0 v1 x1 o1).mono fun e W' ⟨he, bel⟩ => ?_
  subst he
  exact ⟨_, rfl, _, _, _, [], _, [], hW', trodAll_mk1 (shut_bool Try.underlying4 _), (trodAll_cons_mk (Below.trod laid_out (by kernel_rfl) (of_decide_eq_true (by kernel_rfl)) k0 bel lt0) (trodAll_cons_mk (Below.trod laid_out (by kernel_rfl) (of_decide_eq_true (by kernel_rfl)) k1 bel lt1) trodAll_mk0)), rfl, bel.frame _, fun h => by cases h⟩

/-- The statement. -/
theorem FnExactSceneCut_holds : Rows.FnExactSceneCutSaid :=
  OpenClaim.holds_of_wide 4 Try.f4 rfl rfl rfl rfl rfl rfl rfl ⟨rfl, rfl, rfl, rfl, rfl⟩ rfl rfl rfl rfl rfl (by kernel_rfl) Try.func4 (by kernel_rfl)
    (of_decide_eq_true (by kernel_rfl)) (by unfold Func.isWrapper; first | (rw [if_pos (by decide +kernel)]; kernel_rfl) | (rw [if_neg (by decide +kernel)]; exact ⟨rfl, rfl⟩))
    (fun os started H enc _ => lifted_FnExactSceneCut os started H enc)
#print axioms FnExactSceneCut_holds
end Go.Proofs.Ytoipcfpbkjanhaa

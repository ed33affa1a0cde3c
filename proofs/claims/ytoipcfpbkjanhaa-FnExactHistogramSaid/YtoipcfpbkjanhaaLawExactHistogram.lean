/-
  FnExactHistogram: for every picture of at most 1048576 samples the program's Histogram returns what the reference's returns, in memory of its own, and leaves the picture alone; for larger pictures the law asks nothing; so the law returns true. No condition.
-/
import Derived.Test.YtoipcfpbkjanhaaFrameP
import Derived.Test.YtoipcfpbkjanhaaPictsL
import Derived.Test.YtoipcfpbkjanhaaHist
import Derived.Deep.RegionWith
import Derived.Deep.DeepCutAuto
namespace Go.Proofs.Ytoipcfpbkjanhaa
open Go.ChangeShapes Go.WideShapes Go.ChangeAt Go.RowKit

set_option maxRecDepth 100000 in
set_option maxHeartbeats 4000000 in
theorem walk_FnExactHistogram (w : World) (v0 : Value) (x0 : Int × Int × (Option Addr × Nat × List Int)) (h0 : ArgPic w v0 x0) :
    Calls Try.prog 3 #[v0] w fun e w' => e = .returned (.bool true) ∧ Q w w' := by
  obtain ⟨W, H, A, c, xs⟩ := x0
  obtain ⟨rfl, hr, hm⟩ := h0
  simp only at hr hm ⊢
  generalize hn : xs.length = n at hm
  have HN : Hid (xs.length = n) := hn
  clear hn
  have hm' := hm
  unfold maxLen at hm
  have q0 : Q w (w.alloc (.cells #[.int .i64 W, .int .i64 H, .slice A n c] 24)) := (by repeat (first | exact Q.refl _ | assumption | refine Q.drewN ?_ _ | refine Q.drew ?_ | refine Q.alloc ?_ _ | refine Q.trans ?_ (by assumption) | refine Q.set ?_ (by first | exact Nat.le_refl _ | omega | (simp; done) | (simp; omega)) _))
  have b0 := Blk.new w 24 #[.int .i64 W, .int .i64 H, .slice A n c]
  by_cases hbig : 1048576 < n
  · have hbig' : (1048576 : Int) < (n : Int) := by omega
    have HB := Lib.hid hbig'
    clear hbig hbig'
    go_enter Try.func3, Try.ntmps3
    go_wp2_with fail
    refine (szPicture W H A n c 1048576 _ (by omega) (by omega) hm).mono ?_; rw [if_pos HB.out]; rintro e w1 ⟨rfl, q1⟩
    go_wp2_with fail
    go_ret
    exact ⟨rfl, q0.trans q1⟩
  have hbig' : ¬ (1048576 : Int) < (n : Int) := by omega
  have hle : (n : Int) ≤ 1048576 := by omega
  have HB := Lib.hid hbig'
  have hd16 := hist_len W H xs
  generalize hds : hist W H xs = ds at hd16
  have HDS := Lib.hid hds
  clear hds
  generalize hdn : ds.length = d at hd16
  have HD : Hid (ds.length = d) := hdn
  clear hdn hbig hbig'
  have hdm : d ≤ maxLen := by unfold maxLen; omega
  have HR := Lib.hid (hr.q q0 (Nat.le_refl _))
  have hs0 := q0.size
  clear hr
  go_enter Try.func3, Try.ntmps3
  go_wp2_with fail
  refine (szPicture W H A n c 1048576 _ (by omega) (by omega) hm).mono ?_; rw [if_neg (Int.not_lt.2 hle)]; rintro e w1 ⟨rfl, q1⟩
  have b1 := b0.q q1
  have Q1 := q0.trans q1
  have R1 := Lib.hid (HR.out.q q1 hs0)
  have c1 := b1.cell
  have s1 := Q1.size
  clear q0 b0 hs0 q1 HR
  go_wp2_with fail
  refine (toPicture W H A n c _ xs _ R1.out s1 HN (by omega)).mono ?_; rintro e w2 ⟨va, rfl, oa, q2⟩
  obtain ⟨Aa, ca, rfl⟩ := oa.form
  go_wp2_with fail
  refine (spec_Histogram W H Aa n ca _ xs _ oa.rd (Nat.le_refl _) HN hm).mono ?_; rw [HDS.out, HD.out]; rintro e w3 ⟨v3, rfl, o3, q3⟩
  obtain ⟨A3, c3, rfl⟩ := o3.form
  have q23 := q2.trans q3
  have b3 := b1.q q23
  have Q3 := Q1.trans q23
  have R3 := Lib.hid (R1.out.q q23 s1)
  have cc3 := b3.cell
  have s3 := Q3.size
  have hb3 := b3.lt
  clear b1 c1 Q1 R1 s1 q2 oa q23 q3
  go_wp2_with fail
  refine (toPicture W H A n c _ xs _ R3.out s3 HN (by omega)).mono ?_; rintro e w4 ⟨vb, rfl, ob, q4⟩
  obtain ⟨Ab, cb, rfl⟩ := ob.form
  have bX := Blk.new w4 27 #[.int .i64 W, .int .i64 H, .slice Ab n cb]
  have q4' := q4.alloc (.cells #[.int .i64 W, .int .i64 H, .slice Ab n cb] 27)
  have b4 := b3.q q4'
  have Q4 := Q3.trans q4'
  have R4 := Lib.hid (R3.out.q q4' s3)
  have o34 := o3.q q4'
  have ob4 := ob.alloc (.cells #[.int .i64 W, .int .i64 H, .slice Ab n cb] 27)
  have hob := q4.size
  have ne1 := o3.ne ob (Nat.le_refl _)
  have s4 := Q4.size
  have HSX : Hid (w4.heap.size < (w4.alloc (.cells #[.int .i64 W, .int .i64 H, .slice Ab n cb] 27)).heap.size) := by rw [Hid, World.size_alloc]; omega
  clear b3 cc3 Q3 R3 q4 q4'
  go_wp2_with fail
  generalize w4.alloc (.cells #[.int .i64 W, .int .i64 H, .slice Ab n cb] 27) = w5 at bX b4 Q4 R4 o34 ob4 s4 HSX ⊢
  generalize hmx : w4.heap.size = mx at bX hob HSX ⊢
  have hw5 : w.heap.size < w5.heap.size := by have := HSX.out; omega
  clear hmx o3 ob
  refine (impl_Histogram W H Ab n cb _ xs _ ob4.rd (Nat.le_refl _) HN hm).mono ?_; rw [HDS.out, HD.out]; rintro e w6 ⟨v6, rfl, o6, q6⟩
  obtain ⟨A6, c6, rfl⟩ := o6.form
  have b6 := b4.q q6
  have bX6 := bX.q q6
  have Q6 := Q4.trans q6
  have R6 := Lib.hid (R4.out.q q6 s4)
  have o36 := o34.q q6
  have ob6 := ob4.q q6
  have ne2 := ob4.ne' o6 (Nat.le_refl _)
  have ne3 := o34.ne o6 (Nat.le_refl _)
  have s6 := Q6.size
  clear b4 bX Q4 R4 o34 ob4 s4 q6
  go_wp2_with fail
  refine (eqIntS A6 A3 d d c6 c3 _ _ ds ds _ o6.rd o36.rd HD.out HD.out hdm hdm).mono ?_; rw [beq_self_eq_true]; rintro e w7 ⟨rfl, k7, rfl⟩
  have b7 := b6.drewN k7
  have bX7 := bX6.drewN k7
  have Q7 := Q6.drewN k7
  have R7 := Lib.hid (R6.out.drewN k7)
  have o37 := o36.drewN k7
  have ob7 := ob6.drewN k7
  have o67 := o6.drewN k7
  have s7 := Q7.size
  generalize w6.drewN k7 = w7 at b7 bX7 Q7 R7 o37 ob7 o67 s7 ⊢
  clear b6 bX6 Q6 R6 o36 ob6 o6 s6
  have c7 := b7.cell
  have cx7 := bX7.cell
  go_upto_region 10 with fail
  go_cut [31] (fun cc wx => cc = .bool false ∧ Q w7 wx)
  case first =>
    go_region_with (first
      | (go_at_call 15; refine (toPicture W H A n c _ xs _ (show Rd w7.drew _ _ _ from R7.out) s7 HN (by omega)).mono ?_; rintro e w8 ⟨v8, rfl, o8, q8⟩; obtain ⟨A8, c8, rfl⟩ := o8.form; have bX8 := Blk.q (w := w7.drew) bX7 q8; have cx8 := bX8.cell)
      | (go_at_call 18; refine (eqPicture W H W H Ab A8 n n cb c8 _ _ xs xs true _ (ob7.drew.q q8).rd (Nat.le_refl _) o8.rd (Nat.le_refl _) HN HN hm' hm' (decide_eq_true ⟨rfl, rfl, rfl⟩)).mono ?_; rintro e w9 ⟨rfl, q9⟩))
    all_goals (go_wp2_with fail; go_meet; exact ⟨rfl, ((Q.refl w7).drew.trans q8).trans q9⟩)
  case rest =>
  obtain ⟨rfl, q8⟩ := hcut
  generalize wc = w8 at q8 ⊢
  have b8 := b7.q q8
  have bX8 := bX7.q q8
  have Q8 := Q7.trans q8
  have R8 := Lib.hid (R7.out.q q8 s7)
  have o38 := o37.q q8
  have ob8 := ob7.q q8
  have o68 := o67.q q8
  have s8 := Q8.size
  clear b7 bX7 Q7 R7 o37 ob7 o67 s7 c7 cx7 q8
  have cx8 := bX8.cell
  go_wp2_with fail
  refine (markPicture W H (.slice Ab n cb) n _ 1 xs _ ob8 (by omega) (by omega) (by omega)).mono ?_; rintro e w9 ⟨rfl, ob9, g9⟩
  have o39 := o38.other g9 ne1
  have o69 := o68.other g9 ne2
  have Q9 := ob8.qmark Q8 s3 g9
  have R9 := Lib.hid (R8.out.grown g9 s8 (fun g e => Nat.le_trans s3 (ob8.2.lt g e).1))
  have b9 := b8.grown g9 (fun e => by have := (ob8.2.lt _ e.symm).1; omega)
  clear b8 bX8 Q8 R8 o38 ob8 o68 s8 cx8 g9 ob9 ne1 ne2
  have s9 := Q9.size
  go_wp2_with fail
  refine (eqIntS A6 A3 d d c6 c3 _ _ ds ds _ o69.rd o39.rd HD.out HD.out hdm hdm).mono ?_; rw [beq_self_eq_true]; rintro e w10 ⟨rfl, k10, rfl⟩
  go_wp2_with fail
  refine (markIntS (.slice A6 d c6) d _ 1 ds _ (o69.drewN k10) (by omega) (by omega) (by omega)).mono ?_; rintro e w11 ⟨rfl, o611, g11⟩
  have o311 := (o39.drewN k10).other g11 ne3
  have Q11 := (o69.drewN k10).qmark (Q9.drewN k10) (by omega) g11
  have R11 := Lib.hid ((R9.out.drewN k10).grown g11 s9 (fun g e => Nat.le_trans (by omega) ((o69.drewN k10).2.lt g e).1))
  have b11 := (b9.drewN k10).grown g11 (fun e => by have := ((o69.drewN k10).2.lt _ e.symm).1; omega)
  have s11 := Q11.size
  clear b9 Q9 R9 o39 o69 g11 s9 ne3
  go_wp2_with fail
  refine (heldIntS (.slice A6 d c6) d _ 1 _ o611 (by omega) (by omega) (by omega)).mono ?_; rintro e w12 ⟨rfl, k12, rfl⟩
  have c12 := (b11.drewN k12).cell
  go_wp2_with fail
  refine (toPicture W H A n c _ xs _ (R11.out.drewN k12) s11 HN (by omega)).mono ?_; rintro e w13 ⟨vc, rfl, oc, q13⟩
  obtain ⟨Ac, cc, rfl⟩ := oc.form
  go_wp2_with fail
  refine (impl_Histogram W H Ac n cc _ xs _ oc.rd (Nat.le_refl _) HN hm).mono ?_; rw [HDS.out, HD.out]; rintro e w14 ⟨v14, rfl, o14, q14⟩
  obtain ⟨A14, c14, rfl⟩ := o14.form
  have q1214 := q13.trans q14
  go_wp2_with fail
  refine (eqIntS A14 A3 d d c14 c3 _ _ ds ds _ o14.rd ((o311.drewN k12).q q1214).rd HD.out HD.out hdm hdm).mono ?_; rw [beq_self_eq_true]; rintro e w15 ⟨rfl, k15, rfl⟩
  go_wp2_with fail
  refine (heldIntS (.slice A6 d c6) d _ 1 _ (((o611.drewN k12).q q1214).drewN k15) (by omega) (by omega) (by omega)).mono ?_; rintro e w16 ⟨rfl, k16, rfl⟩
  go_wp2_with fail
  go_ret
  exact ⟨rfl, ((Q11.drewN k12).trans q1214).drewN _⟩

set_option maxRecDepth 100000 in
theorem lifted_FnExactHistogram (os : Os) (started : os.Started) (H : Type) (enc : TypeId × Value → H) :
    ReturnsInHanded {} Try.checked os 3 .any (Rows.fnExactHistogramSpec.pre6 enc Try.prog Try.f3 Rows.fnExactHistogramRow.domain false) (Rows.fnExactHistogramSpec.post enc Try.prog Try.f3 false true false false) := by
  refine returnsInHanded_of_change (C := Try.checked) own_knob started (by kernel_rfl) Try.func3
    (ChangeSpec.witness6 (enc := enc) (C := Try.checked) false ⟨#[], #[.agg #[.int .i64 0, .int .i64 0, .slice none 0 0]], []⟩ 8 (by kernel_rfl) (by kernel_rfl) (by kernel_rfl) (by kernel_rfl)) ?_
  intro W base args ds gs before hval0 hW hcnd _
  have hval : ∀ (j : Nat) t v, Try.f3.params[j]? = some t → args[j]? = some v → Value.okWide Try.prog W .any base t v := hval0
  have hW' := hW
  obtain ⟨p, q, hA0, hV, rfl, hfz, hnd⟩ := hW
  have hA : DataW.TrodAll enc Try.prog W 0 (fun _ => true) true Try.f3.params.toList args.toList ds p := hA0
  rw [Try.params3] at hA hval
  obtain ⟨v0, vs0, d0, ds0, p0, q0, hargs, rfl, rfl, h0, r0⟩ := trodAll_cons hA
  obtain ⟨rfl, rfl, rfl⟩ := trodAll_nil r0
  obtain rfl : args = #[v0] := by cases args; simp_all
  obtain ⟨rfl, rfl⟩ := trodVars_none hV
  have k0 := h0
  have lt0 : ∀ x ∈ p0, x.block < W.heap.size := by obtain ⟨m, hm⟩ := k0; exact DataW.trod_lt m _ _ _ hm
  obtain ⟨x0, o0⟩ := open_pic (hval 0 24 v0 rfl rfl) h0
  clear hA0 hval0
  refine (walk_FnExactHistogram W v0 x0 o0).mono fun e W' ⟨he, bel⟩ => ?_
  subst he
  exact ⟨_, rfl, _, _, _, [], _, [], hW', trodAll_mk1 (shut_bool Try.underlying4 _), (trodAll_cons_mk (Below.trod laid_out (by kernel_rfl) (of_decide_eq_true (by kernel_rfl)) k0 bel lt0) trodAll_mk0), rfl, bel.frame _, fun h => by cases h⟩

/-- The statement. -/
theorem FnExactHistogram_holds : Rows.FnExactHistogramSaid :=
  OpenClaim.holds_of_wide 3 Try.f3 rfl rfl rfl rfl rfl rfl rfl ⟨rfl, rfl, rfl, rfl, rfl⟩ rfl rfl rfl rfl rfl (by kernel_rfl) Try.func3 (by kernel_rfl)
    (of_decide_eq_true (by kernel_rfl)) (by unfold Func.isWrapper; first | (rw [if_pos (by decide +kernel)]; kernel_rfl) | (rw [if_neg (by decide +kernel)]; exact ⟨rfl, rfl⟩))
    (fun os started H enc _ => lifted_FnExactHistogram os started H enc)
#print axioms FnExactHistogram_holds
end Go.Proofs.Ytoipcfpbkjanhaa

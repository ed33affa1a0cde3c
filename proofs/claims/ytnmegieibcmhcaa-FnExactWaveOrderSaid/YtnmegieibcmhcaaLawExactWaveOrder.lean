/-
  FnExactWaveOrder: for all columns and rows the program's WaveOrder returns what the reference's returns, in memory of its own; so the law returns true. No condition.
-/
import Derived.Test.YtnmegieibcmhcaaFrame
import Derived.Test.YtnmegieibcmhcaaWOrder2
namespace Go.Proofs.Ytnmegieibcmhcaa
open Go.ChangeShapes Go.WideShapes Go.ChangeAt Go.RowKit

set_option maxHeartbeats 1000000 in
theorem walk_FnExactWaveOrder (w : World) (v0 : Value) (x0 : Int) (h0 : ArgInt v0 x0) (v1 : Value) (x1 : Int) (h1 : ArgInt v1 x1) :
    Calls Try.prog 11 #[v0, v1] w fun e w' => e = .returned (.bool true) ∧ Q w w' := by
  obtain ⟨rfl, _⟩ := h0
  obtain ⟨rfl, _⟩ := h1
  have hle := order_le x0 x1
  generalize hxs : waveOrder x0 x1 = xs at hle
  have HX := Lib.hid hxs
  clear hxs
  generalize hn : xs.length = n at hle
  have HN := Lib.hid hn
  clear hn
  have hm : n ≤ maxLen := by unfold maxLen; omega
  go_enter Try.func11, Try.ntmps11
  go_wp2_with fail
  refine (spec_WaveOrder _ _ _).mono ?_; rw [HX.out, HN.out]; rintro e w1 ⟨v0, rfl, o0, q1⟩
  obtain ⟨A0, c0, rfl⟩ := o0.form
  go_wp2_with fail
  refine (impl_WaveOrder _ _ _).mono ?_; rw [HX.out, HN.out]; rintro e w2 ⟨v1, rfl, o1, q2⟩
  obtain ⟨A1, c1, rfl⟩ := o1.form
  go_wp2_with fail
  refine (eqIntS A1 A0 n n c1 c0 _ _ xs xs _ o1.rd (o0.q q2).rd HN.out HN.out hm hm).mono ?_; rintro e w3 ⟨rfl, k3, rfl⟩
  go_wp2_with fail
  refine (markIntS (.slice A1 n c1) n _ 1 xs _ (o1.drewN k3) (by omega) (by omega) (by omega)).mono ?_; rintro e w4 ⟨rfl, o4, g4⟩
  have o4' := ((o0.q q2).drewN k3).other g4 (o0.ne o1 (Nat.le_refl _))
  have q4 : Q w w4 := (o1.drewN k3).qmark ((q1.trans q2).drewN k3) q1.size g4
  go_wp2_with fail
  refine (heldIntS (.slice A1 n c1) n _ 1 _ o4 (by omega) (by omega) (by omega)).mono ?_; rintro e w5 ⟨rfl, k5, rfl⟩
  go_wp2_with fail
  refine (impl_WaveOrder _ _ _).mono ?_; rw [HX.out, HN.out]; rintro e w6 ⟨v6, rfl, o6, q6⟩
  obtain ⟨A6, c6, rfl⟩ := o6.form
  go_wp2_with fail
  refine (eqIntS A6 A0 n n c6 c0 _ _ xs xs _ o6.rd ((o4'.drewN k5).q q6).rd HN.out HN.out hm hm).mono ?_; rintro e w7 ⟨rfl, k7, rfl⟩
  go_wp2_with fail
  refine (heldIntS (.slice A1 n c1) n _ 1 _ (((o4.drewN k5).q q6).drewN k7) (by omega) (by omega) (by omega)).mono ?_; rintro e w8 ⟨rfl, k8, rfl⟩
  go_wp2_with fail
  go_ret
  exact ⟨rfl, (by repeat (first | exact Q.refl _ | assumption | refine Q.drewN ?_ _ | refine Q.drew ?_ | refine Q.alloc ?_ _ | refine Q.trans ?_ (by assumption) | refine Q.set ?_ (by first | exact Nat.le_refl _ | omega | (simp; done) | (simp; omega)) _))⟩

set_option maxRecDepth 100000 in
theorem lifted_FnExactWaveOrder (os : Os) (started : os.Started) (H : Type) (enc : TypeId × Value → H) :
    ReturnsInHanded {} Try.checked os 11 .any (Rows.fnExactWaveOrderSpec.pre6 enc Try.prog Try.f11 Rows.fnExactWaveOrderRow.domain false) (Rows.fnExactWaveOrderSpec.post enc Try.prog Try.f11 false true false false) := by
  refine returnsInHanded_of_change (C := Try.checked) own_knob started (by kernel_rfl) Try.func11
    (ChangeSpec.witness6 (enc := enc) (C := Try.checked) false ⟨#[], #[.int .i64 0, .int .i64 0], []⟩ 8 (by kernel_rfl) (by kernel_rfl) (by kernel_rfl) (by kernel_rfl)) ?_
  intro W base args ds gs before hval0 hW hcnd _
  have hval : ∀ (j : Nat) t v, Try.f11.params[j]? = some t → args[j]? = some v → Value.okWide Try.prog W .any base t v := hval0
  have hW' := hW
  obtain ⟨p, q, hA0, hV, rfl, hfz, hnd⟩ := hW
  have hA : DataW.TrodAll enc Try.prog W 0 (fun _ => true) true Try.f11.params.toList args.toList ds p := hA0
  rw [Try.params11] at hA hval
  obtain ⟨v0, vs0, d0, ds0, p0, q0, hargs, rfl, rfl, h0, r0⟩ := trodAll_cons hA
  obtain ⟨v1, vs1, d1, ds1, p1, q1, rfl, rfl, rfl, h1, r1⟩ := trodAll_cons r0
  obtain ⟨rfl, rfl, rfl⟩ := trodAll_nil r1
  obtain rfl : args = #[v0, v1] := by cases args; simp_all
  obtain ⟨rfl, rfl⟩ := trodVars_none hV
  have k0 := h0
  have lt0 : ∀ x ∈ p0, x.block < W.heap.size := by obtain ⟨m, hm⟩ := k0; exact DataW.trod_lt m _ _ _ hm
  obtain ⟨x0, o0⟩ := open_int (hval 0 3 v0 rfl rfl) h0
  have k1 := h1
  have lt1 : ∀ x ∈ p1, x.block < W.heap.size := by obtain ⟨m, hm⟩ := k1; exact DataW.trod_lt m _ _ _ hm
  obtain ⟨x1, o1⟩ := open_int (hval 1 3 v1 rfl rfl) h1
  clear hA0 hval0
  refine (walk_FnExactWaveOrder W v0 x0 o0 v1 x1 o1).mono fun e W' ⟨he, bel⟩ => ?_
  subst he
  exact ⟨_, rfl, _, _, _, [], _, [], hW', trodAll_mk1 (shut_bool Try.underlying4 _), (trodAll_cons_mk (Below.trod laid_out (by kernel_rfl) (of_decide_eq_true (by kernel_rfl)) k0 bel lt0) (trodAll_cons_mk (Below.trod laid_out (by kernel_rfl) (of_decide_eq_true (by kernel_rfl)) k1 bel lt1) trodAll_mk0)), rfl, bel.frame _, fun h => by cases h⟩

/-- The statement. -/
theorem FnExactWaveOrder_holds : Rows.FnExactWaveOrderSaid :=
  OpenClaim.holds_of_wide 11 Try.f11 rfl rfl rfl rfl rfl rfl rfl ⟨rfl, rfl, rfl, rfl, rfl⟩ rfl rfl rfl rfl rfl (by kernel_rfl) Try.func11 (by kernel_rfl)
    (of_decide_eq_true (by kernel_rfl)) (by unfold Func.isWrapper; first | (rw [if_pos (by decide +kernel)]; kernel_rfl) | (rw [if_neg (by decide +kernel)]; exact ⟨rfl, rfl⟩))
    (fun os started H enc _ => lifted_FnExactWaveOrder os started H enc)
#print axioms FnExactWaveOrder_holds
end Go.Proofs.Ytnmegieibcmhcaa

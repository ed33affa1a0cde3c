/-
  FnExactWaveTime: for all columns, rows and workers the program's WaveTime returns what the reference's returns; so the law returns true. No condition.
-/
import Derived.Test.YtnmegieibcmhcaaFrame
import Derived.Test.YtnmegieibcmhcaaTime4
namespace Go.Proofs.Ytnmegieibcmhcaa
open Go.ChangeShapes Go.WideShapes Go.ChangeAt Go.RowKit

set_option maxHeartbeats 1000000 in
theorem walk_FnExactWaveTime (w : World) (v0 : Value) (x0 : Int) (h0 : ArgInt v0 x0) (v1 : Value) (x1 : Int) (h1 : ArgInt v1 x1) (v2 : Value) (x2 : Int) (h2 : ArgInt v2 x2) :
    Calls Try.prog 12 #[v0, v1, v2] w fun e w' => e = .returned (.bool true) ∧ Q w w' := by
  obtain ⟨rfl, _⟩ := h0
  obtain ⟨rfl, _⟩ := h1
  obtain ⟨rfl, _⟩ := h2
  go_enter Try.func12, Try.ntmps12
  go_wp2_with fail
  refine (spec_WaveTime _ _ _ _).mono ?_; rintro e w1 ⟨rfl, q1⟩
  go_wp2_with fail
  refine (impl_WaveTime _ _ _ _).mono ?_; rintro e w2 ⟨rfl, q2⟩
  go_wp2_with fail
  go_ret
  exact ⟨rfl, q1.trans q2⟩

set_option maxRecDepth 100000 in
theorem lifted_FnExactWaveTime (os : Os) (started : os.Started) (H : Type) (enc : TypeId × Value → H) :
    ReturnsInHanded {} Try.checked os 12 .any (Rows.fnExactWaveTimeSpec.pre6 enc Try.prog Try.f12 Rows.fnExactWaveTimeRow.domain false) (Rows.fnExactWaveTimeSpec.post enc Try.prog Try.f12 false true false false) := by
  refine returnsInHanded_of_change (C := Try.checked) own_knob started (by kernel_rfl) Try.func12
    (ChangeSpec.witness6 (enc := enc) (C := Try.checked) false ⟨#[], #[.int .i64 0, .int .i64 0, .int .i64 0], []⟩ 8 (by kernel_rfl) (by kernel_rfl) (by kernel_rfl) (by kernel_rfl)) ?_
  intro W base args ds gs before hval0 hW hcnd _
  have hval : ∀ (j : Nat) t v, Try.f12.params[j]? = some t → args[j]? = some v → Value.okWide Try.prog W .any base t v := hval0
  have hW' := hW
  obtain ⟨p, q, hA0, hV, rfl, hfz, hnd⟩ := hW
  have hA : DataW.TrodAll enc Try.prog W 0 (fun _ => true) true Try.f12.params.toList args.toList ds p := hA0
  rw [Try.params12] at hA hval
  obtain ⟨v0, vs0, d0, ds0, p0, q0, hargs, rfl, rfl, h0, r0⟩ := trodAll_cons hA
  obtain ⟨v1, vs1, d1, ds1, p1, q1, rfl, rfl, rfl, h1, r1⟩ := trodAll_cons r0
  obtain ⟨v2, vs2, d2, ds2, p2, q2, rfl, rfl, rfl, h2, r2⟩ := trodAll_cons r1
  obtain ⟨rfl, rfl, rfl⟩ := trodAll_nil r2
  obtain rfl : args = #[v0, v1, v2] := by cases args; simp_all
  obtain ⟨rfl, rfl⟩ := trodVars_none hV
  have k0 := h0
  have lt0 : ∀ x ∈ p0, x.block < W.heap.size := by obtain ⟨m, hm⟩ := k0; exact DataW.trod_lt m _ _ _ hm
  obtain ⟨x0, o0⟩ := open_int (hval 0 3 v0 rfl rfl) h0
  have k1 := h1
  have lt1 : ∀ x ∈ p1, x.block < W.heap.size := by obtain ⟨m, hm⟩ := k1; exact DataW.trod_lt m _ _ _ hm
  obtain ⟨x1, o1⟩ := open_int (hval 1 3 v1 rfl rfl) h1
  have k2 := h2
  have lt2 : ∀ x ∈ p2, x.block < W.heap.size := by obtain ⟨m, hm⟩ := k2; exact DataW.trod_lt m _ _ _ hm
  obtain ⟨x2, o2⟩ := open_int (hval 2 3 v2 rfl rfl) h2
  clear hA0 hval0
  refine (walk_FnExactWaveTime W v0 x0 o0 v1 x1 o1 v2 x2 o2).mono fun e W' ⟨he, bel⟩ => ?_
  subst he
  exact ⟨_, rfl, _, _, _, [], _, [], hW', trodAll_mk1 (shut_bool Try.underlying4 _), (trodAll_cons_mk (Below.trod laid_out (by kernel_rfl) (of_decide_eq_true (by kernel_rfl)) k0 bel lt0) (trodAll_cons_mk (Below.trod laid_out (by kernel_rfl) (of_decide_eq_true (by kernel_rfl)) k1 bel lt1) (trodAll_cons_mk (Below.trod laid_out (by kernel_rfl) (of_decide_eq_true (by kernel_rfl)) k2 bel lt2) trodAll_mk0))), rfl, bel.frame _, fun h => by cases h⟩

/-- The statement. -/
theorem FnExactWaveTime_holds : Rows.FnExactWaveTimeSaid :=
  OpenClaim.holds_of_wide 12 Try.f12 rfl rfl rfl rfl rfl rfl rfl ⟨rfl, rfl, rfl, rfl, rfl⟩ rfl rfl rfl rfl rfl (by kernel_rfl) Try.func12 (by kernel_rfl)
    (of_decide_eq_true (by kernel_rfl)) (by unfold Func.isWrapper; first | (rw [if_pos (by decide +kernel)]; kernel_rfl) | (rw [if_neg (by decide +kernel)]; exact ⟨rfl, rfl⟩))
    (fun os started H enc _ => lifted_FnExactWaveTime os started H enc)
#print axioms FnExactWaveTime_holds
end Go.Proofs.Ytnmegieibcmhcaa

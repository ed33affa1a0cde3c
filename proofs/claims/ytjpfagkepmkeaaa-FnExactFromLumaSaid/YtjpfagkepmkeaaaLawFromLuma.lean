/-
  FnExactFromLuma: for every color the program's FromLuma returns what the reference's returns; so the law returns true. No condition.
-/
import Derived.Test.YtjpfagkepmkeaaaFrame
import Derived.Test.YtjpfagkepmkeaaaColor3
namespace Go.Proofs.Ytjpfagkepmkeaaa
open Go.ChangeShapes Go.WideShapes Go.ChangeAt Go.RowKit

theorem fromV_form (a b c : Int) : ∃ x y z t, fromV a b c = .tuple #[.agg #[.int .i64 x, .int .i64 y, .int .i64 z], .bool t] := by
  unfold fromV
  split
  · exact ⟨_, _, _, _, rfl⟩
  · exact ⟨_, _, _, _, rfl⟩

set_option maxHeartbeats 1000000 in
theorem walk_FnExactFromLuma (w : World) (v0 : Value) (x0 : Int × Int × Int) (h0 : ArgColor v0 x0) :
    Calls Try.prog 6 #[v0] w fun e w' => e = .returned (.bool true) ∧ Q w w' := by
  obtain ⟨a, b, c⟩ := x0
  obtain rfl := h0
  obtain ⟨x, y, z, t, hf⟩ := fromV_form a b c
  have HF := Lib.hid hf
  have ht : (t != t) = false := by simp
  clear hf
  go_enter Try.func6, Try.ntmps6
  go_wp2_with fail
  refine (toColor _ _ _ _).mono ?_; unfold colV; rintro e w1 ⟨rfl, q1⟩
  have b1 := (Blk.new _ _ _).q q1
  have c1 := b1.cell
  go_wp2_with fail
  refine (spec_FromLuma _ _ _ _).mono ?_; rw [HF.out]; rintro e w2 ⟨rfl, q2⟩
  have b2 := b1.q q2
  have c2 := (b2.alloc (.cells #[.int .i64 x, .int .i64 y, .int .i64 z] 26)).cell
  go_wp2_with fail
  have b3' := Blk.new w2 26 #[.int .i64 x, .int .i64 y, .int .i64 z]
  refine (toColor _ _ _ _).mono ?_; unfold colV; rintro e w3 ⟨rfl, q3⟩
  have b4 := b3'.q q3
  have c4 := b4.cell
  go_wp2_with fail
  refine (impl_FromLuma _ _ _ _).mono ?_; rw [HF.out]; rintro e w4 ⟨rfl, q4⟩
  have b5 := b4.q q4
  have b6 := b5.alloc (.cells #[.int .i64 x, .int .i64 y, .int .i64 z] 26)
  have c5 := b5.cell
  have c6 := b6.cell
  go_wp2_with fail
  refine (eqColor _ _ _ _ _ _ true _ (hid_ _ (by simp))).mono ?_; rintro e w5 ⟨rfl, q5⟩
  go_wp2_with fail
  go_ret
  exact ⟨rfl, (by repeat (first | exact Q.refl _ | assumption | refine Q.drewN ?_ _ | refine Q.drew ?_ | refine Q.alloc ?_ _ | refine Q.trans ?_ (by assumption) | refine Q.set ?_ (by first | exact Nat.le_refl _ | omega | (simp; done) | (simp; omega)) _))⟩

set_option maxRecDepth 100000 in
theorem lifted_FnExactFromLuma (os : Os) (started : os.Started) (H : Type) (enc : TypeId × Value → H) :
    ReturnsInHanded {} Try.checked os 6 .any (Rows.fnExactFromLumaSpec.pre6 enc Try.prog Try.f6 Rows.fnExactFromLumaRow.domain false) (Rows.fnExactFromLumaSpec.post enc Try.prog Try.f6 false true false false) := by
  refine returnsInHanded_of_change (C := Try.checked) own_knob started (by kernel_rfl) Try.func6
    (ChangeSpec.witness6 (enc := enc) (C := Try.checked) false ⟨#[], #[.agg #[.int .i64 0, .int .i64 0, .int .i64 0]], []⟩ 8 (by kernel_rfl) (by kernel_rfl) (by kernel_rfl) (by kernel_rfl)) ?_
  intro W base args ds gs before hval0 hW hcnd _
  have hval : ∀ (j : Nat) t v, Try.f6.params[j]? = some t → args[j]? = some v → Value.okWide Try.prog W .any base t v := hval0
  have hW' := hW
  obtain ⟨p, q, hA0, hV, rfl, hfz, hnd⟩ := hW
  have hA : DataW.TrodAll enc Try.prog W 0 (fun _ => true) true Try.f6.params.toList args.toList ds p := hA0
  rw [Try.params6] at hA hval
  obtain ⟨v0, vs0, d0, ds0, p0, q0, hargs, rfl, rfl, h0, r0⟩ := trodAll_cons hA
  obtain ⟨rfl, rfl, rfl⟩ := trodAll_nil r0
  obtain rfl : args = #[v0] := by cases args; simp_all
  obtain ⟨rfl, rfl⟩ := trodVars_none hV
  have k0 := h0
  have lt0 : ∀ x ∈ p0, x.block < W.heap.size := by obtain ⟨m, hm⟩ := k0; exact DataW.trod_lt m _ _ _ hm
  obtain ⟨x0, o0⟩ := open_color (hval 0 25 v0 rfl rfl) h0
  clear hA0 hval0
  refine (walk_FnExactFromLuma W v0 x0 o0).mono fun e W' ⟨he, bel⟩ => ?_
  subst he
  exact ⟨_, rfl, _, _, _, [], _, [], hW', trodAll_mk1 (shut_bool Try.underlying4 _), (trodAll_cons_mk (Below.trod laid_out (by kernel_rfl) (of_decide_eq_true (by kernel_rfl)) k0 bel lt0) trodAll_mk0), rfl, bel.frame _, fun h => by cases h⟩

/-- The statement. -/
theorem FnExactFromLuma_holds : Rows.FnExactFromLumaSaid :=
  OpenClaim.holds_of_wide 6 Try.f6 rfl rfl rfl rfl rfl rfl rfl ⟨rfl, rfl, rfl, rfl, rfl⟩ rfl rfl rfl rfl rfl (by kernel_rfl) Try.func6 (by kernel_rfl)
    (of_decide_eq_true (by kernel_rfl)) (by unfold Func.isWrapper; first | (rw [if_pos (by decide +kernel)]; kernel_rfl) | (rw [if_neg (by decide +kernel)]; exact ⟨rfl, rfl⟩))
    (fun os started H enc _ => lifted_FnExactFromLuma os started H enc)
#print axioms FnExactFromLuma_holds
end Go.Proofs.Ytjpfagkepmkeaaa

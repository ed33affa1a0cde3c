/-
  FnFromLuma: whatever triple the code draws, FromLuma returns what the reference's returns, and if it accepts the triple, ToLuma of the color is the triple; so the law returns true. No condition.
-/
import Derived.Test.YtnmegieibcmhcaaDrawF
import Derived.Test.YtnmegieibcmhcaaColor3
import Derived.Test.YtnmegieibcmhcaaPict
import Derived.Test.YtnmegieibcmhcaaAft
import Derived.Deep.DeepCutAuto
namespace Go.Proofs.Ytnmegieibcmhcaa
open Go.ChangeShapes Go.WideShapes Go.ChangeAt Go.RowKit

theorem run_eq_col (a b c : Int) (w : World) :
    (binOp .eql 24 (.agg #[.int .i64 a, .int .i64 b, .int .i64 c]) (.agg #[.int .i64 a, .int .i64 b, .int .i64 c])).run Try.prog w = .ok (.bool true) w := by
  simp [go_sem]
theorem from_cases (a b c : Int) : (∃ R G B, Hid (fromV a b c = .tuple #[colV R G B, .bool true]) ∧ Hid (lumV R G B = colV a b c)) ∨ Hid (fromV a b c = .tuple #[colV 0 0 0, .bool false]) := by
  by_cases h : fromOk a b c
  · refine .inl ⟨colR a b c, colG a c, colB a b c, if_pos h, ?_⟩
    obtain ⟨h1, h2, h3, h4⟩ := h
    unfold Hid lumV
    rw [if_pos h1, h2, h3, h4]
  · exact .inr (if_neg h)

set_option maxRecDepth 100000 in
set_option maxHeartbeats 2000000 in
theorem walk_FnFromLuma (w : World) (v0 : Value) (x0 : Option Addr × Nat × List Int) (h0 : ArgBytes w v0 x0) :
    Calls Try.prog 6 #[v0] w fun e w' => e = .returned (.bool true) ∧ Q w w' := by
  have hv := h0.1; have hm := h0.2.2.1; unfold maxLen at hm; generalize hn : x0.2.2.length = nn at hv hm; have HN := Lib.hid hn; clear hn; by_cases hbig : 1048576 < nn; (subst hv; go_enter Try.func6, Try.ntmps6; go_wp2_with fail; go_ret; exact ⟨rfl, Q.refl _⟩); have H0 : ArgBytes w (.slice x0.1 nn x0.2.1) x0 := (by rw [hv] at h0; exact h0); subst hv; clear h0; go_enter Try.func6, Try.ntmps6; go_wp2_with fail
  refine (DrawFromLuma _ _ _ H0).mono ?_; rintro e w1 ⟨a, b, c, rfl, q1⟩
  have hcs := from_cases a b c
  have HCS := Lib.hid hcs
  clear hcs
  have b2 := Blk.new w1 24 #[.int .i64 a, .int .i64 b, .int .i64 c]
  have q2 := q1.alloc (.cells #[.int .i64 a, .int .i64 b, .int .i64 c] 24)
  unfold colV
  go_wp2_with fail
  generalize w1.heap.size = m2 at b2 ⊢
  generalize w1.alloc (.cells #[.int .i64 a, .int .i64 b, .int .i64 c] 24) = w2 at b2 q2 ⊢
  clear q1
  obtain ⟨R, G, B, HV, HL⟩ | HV := HCS.out
  · have hne := fun w => run_neq_col true R G B R G B (hid_ _ (by simp)) w
    have heq := fun w => run_eq_col a b c w
    refine (impl_FromLuma _ _ _ _).mono ?_; rw [HV.out]; unfold colV; rintro e w3 ⟨rfl, q3⟩
    have b3 := b2.q q3
    have q3' := q2.trans q3
    have c4 := (b3.alloc (.cells #[.int .i64 R, .int .i64 G, .int .i64 B] 24)).cell
    go_wp2_with fail
    have b4 := b3.alloc (.cells #[.int .i64 R, .int .i64 G, .int .i64 B] 24)
    have d4 := Blk.new w3 24 #[.int .i64 R, .int .i64 G, .int .i64 B]
    have q4 := q3'.alloc (.cells #[.int .i64 R, .int .i64 G, .int .i64 B] 24)
    generalize w3.heap.size = m4 at d4 ⊢
    generalize w3.alloc (.cells #[.int .i64 R, .int .i64 G, .int .i64 B] 24) = w4 at b4 d4 q4 c4 ⊢
    clear b2 q2 b3 q3 q3' c4
    refine (spec_FromLuma _ _ _ _).mono ?_; rw [HV.out]; unfold colV; rintro e w5 ⟨rfl, q5⟩
    have b5 := (b4.q q5).alloc (.cells #[.int .i64 R, .int .i64 G, .int .i64 B] 24)
    have d5 := (d4.q q5).alloc (.cells #[.int .i64 R, .int .i64 G, .int .i64 B] 24)
    have Q5 := (q4.trans q5).alloc (.cells #[.int .i64 R, .int .i64 G, .int .i64 B] 24)
    have k5 := Blk.new w5 24 #[.int .i64 R, .int .i64 G, .int .i64 B]
    have cb5 := b5.cell
    have cd5 := d5.cell
    clear b4 d4 q4 q5
    go_wp2_with fail
    generalize w5.heap.size = m5 at k5 ⊢
    generalize w5.alloc (.cells #[.int .i64 R, .int .i64 G, .int .i64 B] 24) = w6 at b5 d5 Q5 k5 cb5 cd5 ⊢
    have HT : Hid (∀ w : World, Calls Try.prog 16 #[.agg #[.int .i64 R, .int .i64 G, .int .i64 B]] w fun e w' => e = .returned (.agg #[.int .i64 a, .int .i64 b, .int .i64 c]) ∧ Q w w') := fun w => by
      have h := impl_ToLuma R G B w
      rw [HL.out] at h
      exact h
    have ab := b5.aft
    have ad := d5.aft
    clear cb5 cd5 b5 d5 k5
    refine wp_region_aft (by kernel_rfl) (by kernel_rfl) ?_
    repeat (go_big_quiet_step ((go_at_call 16; go_loud (exact Calls.aft (HT.out _)))))
    refine wpQuiet_nil ?_
    rintro _ ⟨⟨w7, q7⟩, rfl⟩
    go_wp2_with fail
    go_ret
    exact ⟨rfl, Q5.trans q7⟩
  · have hne := fun w => run_neq_col true 0 0 0 0 0 0 (hid_ _ (by simp)) w
    have heq := fun w => run_eq_col 0 0 0 w
    refine (impl_FromLuma _ _ _ _).mono ?_; rw [HV.out]; unfold colV; rintro e w3 ⟨rfl, q3⟩
    have b3 := b2.q q3
    have q3' := q2.trans q3
    have c4 := (b3.alloc (.cells #[.int .i64 0, .int .i64 0, .int .i64 0] 24)).cell
    go_wp2_with fail
    have b4 := b3.alloc (.cells #[.int .i64 0, .int .i64 0, .int .i64 0] 24)
    have d4 := Blk.new w3 24 #[.int .i64 0, .int .i64 0, .int .i64 0]
    have q4 := q3'.alloc (.cells #[.int .i64 0, .int .i64 0, .int .i64 0] 24)
    generalize w3.heap.size = m4 at d4 ⊢
    generalize w3.alloc (.cells #[.int .i64 0, .int .i64 0, .int .i64 0] 24) = w4 at b4 d4 q4 c4 ⊢
    clear b2 q2 b3 q3 q3' c4
    refine (spec_FromLuma _ _ _ _).mono ?_; rw [HV.out]; unfold colV; rintro e w5 ⟨rfl, q5⟩
    have d5 := (d4.q q5).alloc (.cells #[.int .i64 0, .int .i64 0, .int .i64 0] 24)
    have Q5 := (q4.trans q5).alloc (.cells #[.int .i64 0, .int .i64 0, .int .i64 0] 24)
    have k5 := Blk.new w5 24 #[.int .i64 0, .int .i64 0, .int .i64 0]
    have cd5 := d5.cell
    clear b4 d4 q4 q5
    go_wp2_with fail
    generalize w5.heap.size = m5 at k5 ⊢
    generalize w5.alloc (.cells #[.int .i64 0, .int .i64 0, .int .i64 0] 24) = w6 at d5 Q5 k5 cd5 ⊢
    have ad := d5.aft
    clear cd5 d5 k5
    refine wp_region_aft (by kernel_rfl) (by kernel_rfl) ?_
    repeat (go_big_quiet_step ((go_at_call 18; exact Calls.aft (alive _))))
    refine wpQuiet_nil ?_
    rintro _ ⟨⟨w7, q7⟩, rfl⟩
    go_wp2_with fail
    go_ret
    exact ⟨rfl, Q5.trans q7⟩

set_option maxRecDepth 100000 in
theorem lifted_FnFromLuma (os : Os) (started : os.Started) (H : Type) (enc : TypeId × Value → H) :
    ReturnsInHanded {} Try.checked os 6 .any (Rows.fnFromLumaSpec.pre6 enc Try.prog Try.f6 Rows.fnFromLumaRow.domain false) (Rows.fnFromLumaSpec.post enc Try.prog Try.f6 false true false false) := by
  refine returnsInHanded_of_change (C := Try.checked) own_knob started (by kernel_rfl) Try.func6
    (ChangeSpec.witness6 (enc := enc) (C := Try.checked) false ⟨#[], #[.slice none 0 0], []⟩ 8 (by kernel_rfl) (by kernel_rfl) (by kernel_rfl) (by kernel_rfl)) ?_
  intro W base args ds gs before hval0 hW hcnd _
  have hval : ∀ (j : Nat) t v, Try.f6.params[j]? = some t → args[j]? = some v → Value.okWide Try.prog W .any base t v := hval0
  have hW' := hW
  obtain ⟨p, q, hA0, hV, rfl, hfz, hnd⟩ := hW
  have hA : DataW.TrodAll enc Try.prog W 0 (fun _ => true) true Try.f6.params.toList args.toList ds p := hA0
  rw [Try.params6] at hA hval
  obtain ⟨v0, vs0, d0, ds0, p0, q0, hargs, rfl, rfl, h0, r0⟩ := trodAll_cons hA
  obtain ⟨rfl, rfl, rfl⟩ := trodAll_nil r0
  obtain rfl : args = #[v0] := by cases args; simp_all
  obtain ⟨rfl, rfl⟩ := trodVars_none hV
  have k0 := h0
  have lt0 : ∀ x ∈ p0, x.block < W.heap.size := by obtain ⟨m, hm⟩ := k0; exact DataW.trod_lt m _ _ _ hm
  obtain ⟨x0, o0⟩ := open_bytes (hval 0 22 v0 rfl rfl) h0
  clear hA0 hval0
  refine (walk_FnFromLuma W v0 x0 o0).mono fun e W' ⟨he, bel⟩ => ?_
  subst he
  exact ⟨_, rfl, _, _, _, [], _, [], hW', trodAll_mk1 (shut_bool Try.underlying4 _), (trodAll_cons_mk (Below.trod laid_out (by kernel_rfl) (of_decide_eq_true (by kernel_rfl)) k0 bel lt0) trodAll_mk0), rfl, bel.frame _, fun h => by cases h⟩

/-- The statement. -/
theorem FnFromLuma_holds : Rows.FnFromLumaSaid :=
  OpenClaim.holds_of_wide 6 Try.f6 rfl rfl rfl rfl rfl rfl rfl ⟨rfl, rfl, rfl, rfl, rfl⟩ rfl rfl rfl rfl rfl (by kernel_rfl) Try.func6 (by kernel_rfl)
    (of_decide_eq_true (by kernel_rfl)) (by unfold Func.isWrapper; first | (rw [if_pos (by decide +kernel)]; kernel_rfl) | (rw [if_neg (by decide +kernel)]; exact ⟨rfl, rfl⟩))
    (fun os started H enc _ => lifted_FnFromLuma os started H enc)
#print axioms FnFromLuma_holds
end Go.Proofs.Ytnmegieibcmhcaa

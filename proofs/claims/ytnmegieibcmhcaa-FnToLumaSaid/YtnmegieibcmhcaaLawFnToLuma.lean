/-
  FnToLuma: whatever color the code draws, ToLuma returns what the reference's returns, and the color comes back; so the law returns true. No condition.
-/
import Derived.Test.YtnmegieibcmhcaaDrawC
import Derived.Test.YtnmegieibcmhcaaColor3
import Derived.Test.YtnmegieibcmhcaaPict
import Derived.Deep.DeepCutAuto
namespace Go.Proofs.Ytnmegieibcmhcaa
open Go.ChangeShapes Go.WideShapes Go.ChangeAt Go.RowKit

theorem abs_any (n : Int) (w : World) (h1 : -1000000000000 ≤ n) (h2 : n ≤ 1000000000000) :
    Calls Try.prog 20 #[.int .i64 n] w fun e w' => ∃ m : Int, e = .returned (.int .i64 m) ∧ 0 ≤ m ∧ (m = n ∨ m = -n) ∧ w = w' := by
  go_enter Try.func20, Try.ntmps20
  go_wp2
  · go_ret
    exact ⟨_, rfl, by omega, by omega, rfl⟩
  · go_ret
    exact ⟨_, rfl, by omega, by omega, rfl⟩

theorem lumV_form (a b c : Int) : ∃ x y z, lumV a b c = colV x y z := by
  unfold lumV
  split
  · exact ⟨_, _, _, rfl⟩
  · exact ⟨_, _, _, rfl⟩

theorem luma_facts {a b c x y z : Int} (h : isCol a b c) (hf : lumV a b c = colV x y z) :
    0 ≤ x ∧ x ≤ 255 ∧ -255 ≤ y ∧ y ≤ 255 ∧ -255 ≤ z ∧ z ≤ 255 ∧ fromV x y z = .tuple #[colV a b c, .bool true] ∧ lumV a a a = colV a 0 0 := by
  unfold lumV at hf
  rw [if_pos h] at hf
  unfold colV at hf
  simp at hf
  obtain ⟨rfl, rfl, rfl⟩ := hf
  obtain ⟨⟨h1, h2⟩, ⟨h3, h4⟩, h5, h6⟩ := h
  have hl : lumV a a a = colV a 0 0 := by
    unfold lumV
    rw [if_pos ⟨⟨h1, h2⟩, ⟨h1, h2⟩, h1, h2⟩]
    unfold lumY lumT
    simp
  refine ⟨?_, ?_, ?_, ?_, ?_, ?_, ?_, hl⟩
  · unfold lumY lumT; omega
  · unfold lumY lumT; omega
  · omega
  · omega
  · unfold lumT; omega
  · unfold lumT; omega
  · rw [fromV_yes (by unfold inA lumY lumT; omega) (by unfold inD; omega) (by unfold inD lumT; omega) (by unfold inB lumY lumT; omega)]
    unfold colV lumY lumT
    simp
    omega
theorem run_eq_col (a b c : Int) (w : World) :
    (binOp .eql 24 (.agg #[.int .i64 a, .int .i64 b, .int .i64 c]) (.agg #[.int .i64 a, .int .i64 b, .int .i64 c])).run Try.prog w = .ok (.bool true) w := by
  simp [go_sem]

set_option maxRecDepth 100000 in
set_option maxHeartbeats 2000000 in
theorem walk_FnToLuma (w : World) (v0 : Value) (x0 : Option Addr × Nat × List Int) (h0 : ArgBytes w v0 x0) :
    Calls Try.prog 3 #[v0] w fun e w' => e = .returned (.bool true) ∧ Q w w' := by
  have hv := h0.1
  have hm := h0.2.2.1
  unfold maxLen at hm
  generalize hn : x0.2.2.length = n at hv hm
  have HN := Lib.hid hn
  clear hn
  by_cases hbig : 1048576 < n
  · subst hv
    go_enter Try.func3, Try.ntmps3
    go_wp2_with fail
    go_ret
    exact ⟨rfl, Q.refl _⟩
  have Hv := Lib.hid hv
  have H0 : ArgBytes w (.slice x0.1 n x0.2.1) x0 := by rw [hv] at h0; exact h0
  subst hv
  go_enter Try.func3, Try.ntmps3
  go_wp2_with fail
  refine (DrawToLuma _ _ _ H0).mono ?_; rintro e w1 ⟨a, b, c, rfl, hd, q1⟩
  have hcol := lumV_form a b c
  obtain ⟨x, y, z, hf⟩ := hcol
  have hne := fun w => run_neq_col true x y z x y z (hid_ _ (by simp)) w
  have HF := Lib.hid hf
  have HD := Lib.hid hd
  clear hf hd
  have b2 := Blk.new w1 24 #[.int .i64 a, .int .i64 b, .int .i64 c]
  have q2 := q1.alloc (.cells #[.int .i64 a, .int .i64 b, .int .i64 c] 24)
  unfold colV
  go_wp2_with fail
  generalize w1.heap.size = m2 at b2 ⊢
  generalize w1.alloc (.cells #[.int .i64 a, .int .i64 b, .int .i64 c] 24) = w2 at b2 q2 ⊢
  clear q1
  refine (impl_ToLuma _ _ _ _).mono ?_; rw [HF.out]; unfold colV; rintro e w3 ⟨rfl, q3⟩
  have b3 := b2.q q3
  have q3' := q2.trans q3
  go_wp2_with fail
  have b4 := b3.alloc (.cells #[.int .i64 x, .int .i64 y, .int .i64 z] 24)
  have d4 := Blk.new w3 24 #[.int .i64 x, .int .i64 y, .int .i64 z]
  have q4 := q3'.alloc (.cells #[.int .i64 x, .int .i64 y, .int .i64 z] 24)
  generalize w3.heap.size = m4 at d4 ⊢
  generalize w3.alloc (.cells #[.int .i64 x, .int .i64 y, .int .i64 z] 24) = w4 at b4 d4 q4 ⊢
  have c4 := b4.cell
  have e4 := d4.cell
  clear b2 q2 b3 q3 q3'
  go_upto_region 5 with fail
  go_cut [18] (fun cc wx => cc = .bool false ∧ Blk wx m2 24 #[.int .i64 a, .int .i64 b, .int .i64 c] ∧ Blk wx m4 24 #[.int .i64 x, .int .i64 y, .int .i64 z] ∧ Q w wx)
  case first =>
    go_region_with (first | (go_at_call 17; refine (spec_ToLuma _ _ _ _).mono ?_; rw [HF.out]; unfold colV; rintro e w5 ⟨rfl, q5⟩; have b5 := Blk.q (w := w4.drew) b4 q5; have c5 := b5.cell; have d5 := Blk.q (w := w4.drew) d4 q5; have e5 := d5.cell))
    all_goals (go_wp2_with fail; go_meet; exact ⟨rfl, b5, d5, q4.drew.trans q5⟩)
  case rest =>
  obtain ⟨rfl, b5, d5, Q5⟩ := hcut
  generalize wc = w5 at b5 d5 Q5 ⊢
  clear b4 d4 q4 c4 e4
  have c5 := b5.cell
  have e5 := d5.cell
  by_cases hcol : isCol a b c
  · obtain ⟨f1, f2, f3, f4, f5, f6, f7, f8⟩ := luma_facts hcol HF.out
    have F7 := Lib.hid f7
    have F8 := Lib.hid f8
    have hq1 := fun w => run_eq_col a b c w
    have hq2 := fun w => run_eq_col a 0 0 w
    obtain ⟨⟨h1, h2⟩, ⟨h3, h4⟩, h5, h6⟩ := hcol
    clear f7 f8 HD hne
    go_upto_region 7 with fail
    go_cut [36] (fun cc wx => cc = .bool false ∧ wx = w5)
    case first =>
      go_wp2_with fail
      all_goals (go_meet; exact ⟨by first | rfl | (simp; done) | (simp; omega), rfl⟩)
    case rest =>
      obtain ⟨rfl, rfl⟩ := hcut
      go_wp2_with fail
      refine (impl_FromLuma _ _ _ _).mono ?_; rw [F7.out]; unfold colV; rintro e w6 ⟨rfl, q6⟩
      have b6 := b5.q q6
      have d6 := d5.q q6
      have Q6 := Q5.trans q6
      have c6 := (b6.alloc (.cells #[.int .i64 a, .int .i64 b, .int .i64 c] 24)).cell
      go_wp2_with fail
      have b7 := b6.alloc (.cells #[.int .i64 a, .int .i64 b, .int .i64 c] 24)
      have d7 := d6.alloc (.cells #[.int .i64 a, .int .i64 b, .int .i64 c] 24)
      have Q7 := Q6.alloc (.cells #[.int .i64 a, .int .i64 b, .int .i64 c] 24)
      have k7 := Blk.new w6 24 #[.int .i64 a, .int .i64 b, .int .i64 c]
      generalize w6.heap.size = m7 at k7 ⊢
      generalize w6.alloc (.cells #[.int .i64 a, .int .i64 b, .int .i64 c] 24) = w7 at b7 d7 Q7 k7 ⊢
      clear b6 d6 Q6 c6 q6 b5 d5 Q5 c5 e5
      refine (impl_ToLuma _ _ _ _).mono ?_; rw [F8.out]; unfold colV; rintro e w8 ⟨rfl, q8⟩
      have b8 := (b7.q q8).alloc (.cells #[.int .i64 a, .int .i64 0, .int .i64 0] 24)
      have d8 := (d7.q q8).alloc (.cells #[.int .i64 a, .int .i64 0, .int .i64 0] 24)
      have k8 := (k7.q q8).alloc (.cells #[.int .i64 a, .int .i64 0, .int .i64 0] 24)
      have Q8 := (Q7.trans q8).alloc (.cells #[.int .i64 a, .int .i64 0, .int .i64 0] 24)
      have g8 := Blk.new w8 24 #[.int .i64 a, .int .i64 0, .int .i64 0]
      have cb8 := b8.cell
      have cd8 := d8.cell
      have ck8 := k8.cell
      go_wp2_with fail
      refine (abs_any _ _ (by omega) (by omega)).mono ?_; rintro e w9 ⟨m9, rfl, z1, z2, rfl⟩
      have z5 : m9 ≤ 255 := by omega
      go_wp2_with fail
      refine (abs_any _ _ (by omega) (by omega)).mono ?_; rintro e w9 ⟨m10, rfl, z3, z4, rfl⟩
      have z6 : m10 ≤ 255 := by omega
      go_wp2_with fail
      go_ret
      exact ⟨by simp [z6], Q8⟩
  · have hb : b = -1 ∨ b = 256 := by have := HD.out; unfold isCol inB at hcol; omega
    have h0 : x = 0 ∧ y = 0 ∧ z = 0 := by have h := HF.out; unfold lumV colV at h; rw [if_neg hcol] at h; simp at h; omega
    obtain ⟨⟨h1, h2⟩, ⟨h3, h4⟩, _⟩ := HD.out
    obtain ⟨rfl, rfl, rfl⟩ := h0
    clear hcol HD HF hne
    have hq1 := fun w => run_eq_col 0 0 0 w
    obtain rfl | rfl := hb
    · go_wp2_with fail
      all_goals
        refine (alive _).mono ?_; rintro e w6 ⟨rfl, q6⟩
        go_wp2_with fail
        go_ret
        exact ⟨rfl, Q5.trans q6⟩
    · go_wp2_with fail
      all_goals
        refine (alive _).mono ?_; rintro e w6 ⟨rfl, q6⟩
        go_wp2_with fail
        go_ret
        exact ⟨rfl, Q5.trans q6⟩

set_option maxRecDepth 100000 in
theorem lifted_FnToLuma (os : Os) (started : os.Started) (H : Type) (enc : TypeId × Value → H) :
    ReturnsInHanded {} Try.checked os 3 .any (Rows.fnToLumaSpec.pre6 enc Try.prog Try.f3 Rows.fnToLumaRow.domain false) (Rows.fnToLumaSpec.post enc Try.prog Try.f3 false true false false) := by
  refine returnsInHanded_of_change (C := Try.checked) own_knob started (by kernel_rfl) Try.func3
    (ChangeSpec.witness6 (enc := enc) (C := Try.checked) false ⟨#[], #[.slice none 0 0], []⟩ 8 (by kernel_rfl) (by kernel_rfl) (by kernel_rfl) (by kernel_rfl)) ?_
  intro W base args ds gs before hval0 hW hcnd _
  have hval : ∀ (j : Nat) t v, Try.f3.params[j]? = some t → args[j]? = some v → Value.okWide Try.prog W .any base t v := hval0
  have hW' := hW
  obtain ⟨p, q, hA0, hV, rfl, hfz, hnd⟩ := hW
  have hA : DataW.TrodAll enc Try.prog W 0 (fun _ => true) true Try.f3.params.toList args.toList ds p := hA0
  rw [Try.params3] at hA hval
  obtain ⟨v0, vs0, d0, ds0, p0, q0, hargs, rfl, rfl, h0, r0⟩ := trodAll_cons hA
  obtain ⟨rfl, rfl, rfl⟩ := trodAll_nil r0
  obtain rfl : args = #[v0] := by cases args; simp_all
  obtain ⟨rfl, rfl⟩ := trodVars_none hV
  have k0 := h0
  have lt0 : ∀ x ∈ p0, x.block < W.heap.size := by obtain ⟨m, hm⟩ := k0; exact DataW.trod_lt m _ _ _ hm
  obtain ⟨x0, o0⟩ := open_bytes (hval 0 22 v0 rfl rfl) h0
  clear hA0 hval0
  refine (walk_FnToLuma W v0 x0 o0).mono fun e W' ⟨he, bel⟩ => ?_
  subst he
  exact ⟨_, rfl, _, _, _, [], _, [], hW', trodAll_mk1 (shut_bool Try.underlying4 _), (trodAll_cons_mk (Below.trod laid_out (by kernel_rfl) (of_decide_eq_true (by kernel_rfl)) k0 bel lt0) trodAll_mk0), rfl, bel.frame _, fun h => by cases h⟩

/-- The statement. -/
theorem FnToLuma_holds : Rows.FnToLumaSaid :=
  OpenClaim.holds_of_wide 3 Try.f3 rfl rfl rfl rfl rfl rfl rfl ⟨rfl, rfl, rfl, rfl, rfl⟩ rfl rfl rfl rfl rfl (by kernel_rfl) Try.func3 (by kernel_rfl)
    (of_decide_eq_true (by kernel_rfl)) (by unfold Func.isWrapper; first | (rw [if_pos (by decide +kernel)]; kernel_rfl) | (rw [if_neg (by decide +kernel)]; exact ⟨rfl, rfl⟩))
    (fun os started H enc _ => lifted_FnToLuma os started H enc)
#print axioms FnToLuma_holds
end Go.Proofs.Ytnmegieibcmhcaa

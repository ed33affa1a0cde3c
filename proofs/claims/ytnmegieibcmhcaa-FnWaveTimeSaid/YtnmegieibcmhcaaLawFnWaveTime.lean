/-
  FnWaveTime: whatever grid and workers the code draws, WaveTime returns what the reference's returns; one worker takes as many steps as there are macroblocks, sixteen take the last step's number and one, and one worker more never takes more steps; so the law returns true. No condition.
-/
import Derived.Test.YtnmegieibcmhcaaDrawW
import Derived.Test.YtnmegieibcmhcaaTime4
import Derived.Test.YtnmegieibcmhcaaPict
import Derived.Test.YtnmegieibcmhcaaSame
import Derived.Test.YtnmegieibcmhcaaAft
namespace Go.Proofs.Ytnmegieibcmhcaa
open Go.ChangeShapes Go.WideShapes Go.ChangeAt Go.RowKit

set_option maxRecDepth 100000 in
set_option maxHeartbeats 4000000 in
theorem walk_FnWaveTime (w : World) (v0 : Value) (x0 : Option Addr × Nat × List Int) (h0 : ArgBytes w v0 x0) :
    Calls Try.prog 14 #[v0] w fun e w' => e = .returned (.bool true) ∧ Q w w' := by
  have hv := h0.1; have hm := h0.2.2.1; unfold maxLen at hm; generalize hn : x0.2.2.length = nn at hv hm; have HN := Lib.hid hn; clear hn; by_cases hbig : 1048576 < nn; (subst hv; go_enter Try.func14, Try.ntmps14; go_wp2_with fail; go_ret; exact ⟨rfl, Q.refl _⟩); have H0 : ArgBytes w (.slice x0.1 nn x0.2.1) x0 := (by rw [hv] at h0; exact h0); subst hv; clear h0; go_enter Try.func14, Try.ntmps14; go_wp2_with fail
  refine (DrawWaveTime _ _ _ H0).mono ?_; rintro e w1 ⟨a, b, n, rfl, hab, hn0, hn1, q1⟩
  clear hab
  obtain ⟨N, hN⟩ : ∃ N : Int, a * b = N := ⟨_, rfl⟩
  have hrg := waveTime_range a b n
  have HL := Lib.hid (fun h => waveTime_laws (c := a) (r := b) (W := n) h hN)
  have HN := Lib.hid hN
  generalize hT : waveTime a b n = T at HL hrg
  have HT := Lib.hid hT
  clear hT hN
  go_wp2_with fail
  refine (impl_WaveTime _ _ _ _).mono ?_; rw [HT.out]; rintro e w2 ⟨rfl, q2⟩
  go_wp2_with fail
  refine (spec_WaveTime _ _ _ _).mono ?_; rw [HT.out]; rintro e w3 ⟨rfl, q3⟩
  have Q3 := (q1.trans q2).trans q3
  clear q1 q2 q3
  by_cases hs : T < 0
  · clear HL
    go_wp2_with fail
    refine (alive _).mono ?_; rintro e w7 ⟨rfl, q7⟩
    go_wp2_with fail
    go_ret
    exact ⟨rfl, Q3.trans q7⟩
  · obtain ⟨⟨f1, f2, f3, f4⟩, f5, f6, f7, f8, f9, f10, f11, f12⟩ := HL.out (by omega)
    have hs' : decide (T < 0) = false := by simp; omega
    have t1 : IntKind.i64.wrap (a * b) = N := by rw [HN.out]; exact IntWalk.i64_in _ ⟨by omega, by omega⟩
    have hst := step_range_t a b (N - 1)
    generalize hS : waveStep a b (N - 1) = s at f10 hst
    have HS := Lib.hid hS
    have HF9 := Lib.hid f9
    have HF10 := Lib.hid f10
    have TG : Hid (∀ x : Int, ∀ w : World, Calls Try.prog 46 #[.int .i64 a, .int .i64 b, .int .i64 x] w fun e w' => e = .returned (.int .i64 (waveTime a b x)) ∧ Q w w') := fun x w => impl_WaveTime a b x w
    have T1 : Hid (∀ w : World, Calls Try.prog 46 #[.int .i64 a, .int .i64 b, .int .i64 1] w fun e w' => e = .returned (.int .i64 N) ∧ Q w w') := fun w => by have h := impl_WaveTime a b 1 w; rw [HF9.out] at h; exact h
    have TS : Hid (∀ w : World, Calls Try.prog 32 #[.int .i64 a, .int .i64 b, .int .i64 (N - 1)] w fun e w' => e = .returned (.int .i64 s) ∧ Q w w') := fun w => by have h := impl_WaveStep a b (N - 1) w; rw [HS.out] at h; exact h
    have T16 : Hid (∀ w : World, Calls Try.prog 46 #[.int .i64 a, .int .i64 b, .int .i64 16] w fun e w' => e = .returned (.int .i64 (s + 1)) ∧ Q w w') := fun w => by have h := impl_WaveTime a b 16 w; rw [HF10.out] at h; exact h
    have HT2 := Lib.hid (waveTime_range a b (n + 1))
    clear hs hS f9 f10 HL HN HT
    by_cases hn16 : n = 16
    · clear f12
      subst hn16
      have t8 : decide (T ≤ N) = true := by simp; omega
      go_wp2_with fail
      refine (T1.out _).mono ?_; rintro e w4 ⟨rfl, q4⟩
      go_wp2_with fail
      refine (T16.out _).mono ?_; rintro e w5 ⟨rfl, q5⟩
      go_wp2_with fail
      refine (TS.out _).mono ?_; rintro e w6 ⟨rfl, q6⟩
      go_wp2_with fail
      go_ret
      exact ⟨rfl, ((Q3.trans q4).trans q5).trans q6⟩
    · have f13 : waveTime a b (n + 1) ≤ T := by omega
      have hr2 := HT2.out
      generalize hT2 : waveTime a b (n + 1) = T2 at f13 hr2
      have HHT := Lib.hid hT2
      have TN : Hid (∀ w : World, Calls Try.prog 46 #[.int .i64 a, .int .i64 b, .int .i64 (n + 1)] w fun e w' => e = .returned (.int .i64 T2) ∧ Q w w') := fun w => by have h := impl_WaveTime a b (n + 1) w; rw [HHT.out] at h; exact h
      clear hT2 f12
      have t8 : decide (T ≤ N) = true := by simp; omega
      have t9 : decide (T2 ≤ T) = true := by simp; omega
      have t10 : (n == 16) = false := by rw [beq_eq_false_iff_ne]; exact hn16
      go_wp2_with fail
      refine (T1.out _).mono ?_; rintro e w4 ⟨rfl, q4⟩
      go_wp2_with fail
      refine (T16.out _).mono ?_; rintro e w5 ⟨rfl, q5⟩
      go_wp2_with fail
      refine (TS.out _).mono ?_; rintro e w6 ⟨rfl, q6⟩
      go_wp2_with fail
      refine (TN.out _).mono ?_; rintro e w7 ⟨rfl, q7⟩
      go_wp2_with fail
      go_ret
      exact ⟨rfl, (((Q3.trans q4).trans q5).trans q6).trans q7⟩

set_option maxRecDepth 100000 in
theorem lifted_FnWaveTime (os : Os) (started : os.Started) (H : Type) (enc : TypeId × Value → H) :
    ReturnsInHanded {} Try.checked os 14 .any (Rows.fnWaveTimeSpec.pre6 enc Try.prog Try.f14 Rows.fnWaveTimeRow.domain false) (Rows.fnWaveTimeSpec.post enc Try.prog Try.f14 false true false false) := by
  refine returnsInHanded_of_change (C := Try.checked) own_knob started (by kernel_rfl) Try.func14
    (ChangeSpec.witness6 (enc := enc) (C := Try.checked) false ⟨#[], #[.slice none 0 0], []⟩ 8 (by kernel_rfl) (by kernel_rfl) (by kernel_rfl) (by kernel_rfl)) ?_
  intro W base args ds gs before hval0 hW hcnd _
  have hval : ∀ (j : Nat) t v, Try.f14.params[j]? = some t → args[j]? = some v → Value.okWide Try.prog W .any base t v := hval0
  have hW' := hW
  obtain ⟨p, q, hA0, hV, rfl, hfz, hnd⟩ := hW
  have hA : DataW.TrodAll enc Try.prog W 0 (fun _ => true) true Try.f14.params.toList args.toList ds p := hA0
  rw [Try.params14] at hA hval
  obtain ⟨v0, vs0, d0, ds0, p0, q0, hargs, rfl, rfl, h0, r0⟩ := trodAll_cons hA
  obtain ⟨rfl, rfl, rfl⟩ := trodAll_nil r0
  obtain rfl : args = #[v0] := by cases args; simp_all
  obtain ⟨rfl, rfl⟩ := trodVars_none hV
  have k0 := h0
  have lt0 : ∀ x ∈ p0, x.block < W.heap.size := by obtain ⟨m, hm⟩ := k0; exact DataW.trod_lt m _ _ _ hm
  obtain ⟨x0, o0⟩ := open_bytes (hval 0 22 v0 rfl rfl) h0
  clear hA0 hval0
  refine (walk_FnWaveTime W v0 x0 o0).mono fun e W' ⟨he, bel⟩ => ?_
  subst he
  exact ⟨_, rfl, _, _, _, [], _, [], hW', trodAll_mk1 (shut_bool Try.underlying4 _), (trodAll_cons_mk (Below.trod laid_out (by kernel_rfl) (of_decide_eq_true (by kernel_rfl)) k0 bel lt0) trodAll_mk0), rfl, bel.frame _, fun h => by cases h⟩

/-- The statement. -/
theorem FnWaveTime_holds : Rows.FnWaveTimeSaid :=
  OpenClaim.holds_of_wide 14 Try.f14 rfl rfl rfl rfl rfl rfl rfl ⟨rfl, rfl, rfl, rfl, rfl⟩ rfl rfl rfl rfl rfl (by kernel_rfl) Try.func14 (by kernel_rfl)
    (of_decide_eq_true (by kernel_rfl)) (by unfold Func.isWrapper; first | (rw [if_pos (by decide +kernel)]; kernel_rfl) | (rw [if_neg (by decide +kernel)]; exact ⟨rfl, rfl⟩))
    (fun os started H enc _ => lifted_FnWaveTime os started H enc)
#print axioms FnWaveTime_holds
end Go.Proofs.Ytnmegieibcmhcaa

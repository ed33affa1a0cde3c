/-
  FnWaveNeeds: whatever the code draws, WaveNeeds returns what the reference's returns: numbers of near macroblocks, in ascending order; so the law returns true. No condition.
-/
import Derived.Test.YtnmegieibcmhcaaGrid
import Derived.Test.YtnmegieibcmhcaaNeeds2
import Derived.Test.YtnmegieibcmhcaaPict
import Derived.Test.YtnmegieibcmhcaaAbs
import Derived.Test.YtnmegieibcmhcaaSame
namespace Go.Proofs.Ytnmegieibcmhcaa
open Go.ChangeShapes Go.WideShapes Go.ChangeAt Go.RowKit

def needOk (c n : Int) (xs : List Int) (k : Nat) : Prop :=
  let x := xs[k]?.getD 0
  0 ≤ x ∧ x < n ∧ -1 ≤ x % c - n % c ∧ x % c - n % c ≤ 1 ∧ n / c - x / c ≤ 1 ∧ (k = 0 ∨ xs[k - 1]?.getD 0 < x)
instance (c n : Int) (xs : List Int) (k : Nat) : Decidable (needOk c n xs k) := by unfold needOk; infer_instance
theorem need_fin : ∀ c : Fin 5, ∀ r : Fin 5, ∀ n : Fin 16, 1 ≤ c.1 → 1 ≤ r.1 → n.1 < c.1 * r.1 → ∀ k : Fin 3, k.1 < (needsV c.1 n.1).length → needOk c.1 n.1 (needsV c.1 n.1) k.1 := by decide +kernel
theorem need_law {c r n : Int} (h : sizeOk c r ∧ 0 ≤ n ∧ n < c * r) (k : Nat) (hk : k < (needsV c n).length) : needOk c n (needsV c n) k := by
  have hcr := size_le h.1
  have hle := needs_le c n
  obtain ⟨⟨h1, h2, h3, h4⟩, h5, h6⟩ := h
  obtain ⟨c, rfl⟩ := Int.eq_ofNat_of_zero_le (show 0 ≤ c by omega)
  obtain ⟨r, rfl⟩ := Int.eq_ofNat_of_zero_le (show 0 ≤ r by omega)
  obtain ⟨n, rfl⟩ := Int.eq_ofNat_of_zero_le h5
  have h7 : n < c * r := by exact_mod_cast h6
  exact need_fin ⟨c, by omega⟩ ⟨r, by omega⟩ ⟨n, by omega⟩ (by show 1 ≤ c; omega) (by show 1 ≤ r; omega) h7 ⟨k, by omega⟩ hk
/-- what the last line asks -/
theorem needs_ends : (needs 2 2 0) = [] ∧ (needs 2 2 2).length = 2 := by decide +kernel

set_option maxRecDepth 100000 in
set_option maxHeartbeats 2000000 in
theorem walk_FnWaveNeeds (w : World) (v0 : Value) (x0 : Option Addr × Nat × List Int) (h0 : ArgBytes w v0 x0) :
    Calls Try.prog 8 #[v0] w fun e w' => e = .returned (.bool true) ∧ Q w w' := by
  have hv := h0.1; have hm := h0.2.2.1; unfold maxLen at hm; generalize hn : x0.2.2.length = nn at hv hm; have HN := Lib.hid hn; clear hn; by_cases hbig : 1048576 < nn; (subst hv; go_enter Try.func8, Try.ntmps8; go_wp2_with fail; go_ret; exact ⟨rfl, Q.refl _⟩); have H0 : ArgBytes w (.slice x0.1 nn x0.2.1) x0 := (by rw [hv] at h0; exact h0); subst hv; clear h0; go_enter Try.func8, Try.ntmps8; go_wp2_with fail
  refine (DrawWaveNeeds _ _ _ H0).mono ?_; rintro e w1 ⟨a, b, n, rfl, hab, q1⟩
  have Hab := Lib.hid hab
  clear hab
  have hle : (needs a b n).length ≤ 3 := by
    unfold needs; split
    · exact needs_le _ _
    · simp
  have HK : Hid (∀ k, k < (needs a b n).length → (1 ≤ a ∧ a ≤ 4 ∧ 0 ≤ n ∧ n ≤ 16) ∧ needOk a n (needs a b n) k) := by
    intro k hk
    unfold needs at hk ⊢
    split at hk
    · rename_i h
      rw [if_pos h]
      have := size_le h.1
      exact ⟨⟨h.1.1, h.1.2.1, by omega, by omega⟩, need_law h k hk⟩
    · simp at hk
  generalize hxs : needs a b n = xs at hle HK
  generalize hln : xs.length = ln at hle HK
  have HX := Lib.hid hxs
  have HL := Lib.hid hln
  have HE := Lib.hid needs_ends.1
  have HE2 := Lib.hid needs_ends.2
  clear hxs hln
  have hm : ln ≤ maxLen := by unfold maxLen; omega
  go_wp2_with fail
  refine (impl_WaveNeeds _ _ _ _).mono ?_; rw [HX.out, HL.out]; rintro e w2 ⟨v2, rfl, o2, q2⟩
  obtain ⟨A2, c2, rfl⟩ := o2.form
  go_wp2_with fail
  refine (spec_WaveNeeds _ _ _ _).mono ?_; rw [HX.out, HL.out]; rintro e w3 ⟨v3, rfl, o3, q3⟩
  obtain ⟨A3, c3, rfl⟩ := o3.form
  go_wp2_with fail
  refine (sameInts A2 A3 ln ln c2 c3 _ _ xs xs _ (o2.q q3).rd o3.rd HL.out HL.out hm hm).mono ?_; rintro e w4 ⟨rfl, k4, rfl⟩
  rw [beq_self_eq_true]
  have o4 := (o2.q q3).drewN k4
  have Q4 : Q w (w3.drewN k4) := (by repeat (first | exact Q.refl _ | assumption | refine Q.drewN ?_ _ | refine Q.drew ?_ | refine Q.alloc ?_ _ | refine Q.trans ?_ (by assumption) | refine Q.set ?_ (by first | exact Nat.le_refl _ | omega | (simp; done) | (simp; omega)) _))
  have R4 := Lib.hid o4.rd
  generalize w3.drewN k4 = w4 at R4 Q4 ⊢
  clear o4 o2 o3 q2 q3 q1
  go_wp2_with fail
  go_loopw [7] (fun i wr => ∃ k : Nat, k ≤ ln ∧ i = .int .i64 k ∧ ∃ d, wr = w4.drewN d) (fun i _ => ln - (intOf i).toNat)
  case atStart => exact ⟨0, Nat.zero_le _, rfl, 0, rfl⟩
  case round =>
    obtain ⟨k, hk, rfl, d, hd⟩ := hrel
    have HD := Lib.hid hd
    have hqd : Q w4 wr := by rw [hd]; exact (Q.refl _).drewN _
    clear hd
    by_cases hlt : k < ln
    · obtain ⟨⟨a1, a2, n1, n2⟩, ok⟩ := HK.out k hlt
      obtain ⟨g, o, rfl, hb, hc⟩ := R4.out (by rw [HL.out]; omega)
      have hc1 := (hqd.cell g _ hb).trans (hc k (by rw [HL.out]; exact hlt))
      have hc2 := (hqd.cell g _ hb).trans (hc (k - 1) (by rw [HL.out]; omega))
      unfold needOk at ok
      obtain ⟨e1, e2, e3, e4, e5, e6⟩ := ok
      generalize xs[k]?.getD 0 = x at hc1 e1 e2 e3 e4 e5 e6
      generalize xs[k - 1]?.getD 0 = y at hc2 e6
      have HC := Lib.hid hc
      clear hc
      have t1 : IntKind.i64.wrap (x % a - n % a) = x % a - n % a := IntWalk.i64_in _ ⟨by omega, by omega⟩
      have t2 : decide (1 < absV (x % a - n % a)) = false := by unfold absV; simp; split <;> omega
      have d1 : 0 ≤ n / a := Int.ediv_nonneg n1 (by omega)
      have d2 : n / a ≤ n := Int.ediv_le_self _ n1
      have d3 : 0 ≤ x / a := Int.ediv_nonneg e1 (by omega)
      have d4 : x / a ≤ x := Int.ediv_le_self _ e1
      have t3 : IntKind.i64.wrap (n / a - x / a) = n / a - x / a := IntWalk.i64_in _ ⟨by omega, by omega⟩
      have t11 : IntKind.i64.wrap (n / a) = n / a := IntWalk.i64_in _ ⟨by omega, by omega⟩
      have t12 : IntKind.i64.wrap (x / a) = x / a := IntWalk.i64_in _ ⟨by omega, by omega⟩
      have za : ¬ a = 0 := by omega
      have zb : (a == 0) = false := by rw [beq_eq_false_iff_ne]; exact za
      have m1 : x.tmod a = x % a := Int.tmod_eq_emod_of_nonneg e1
      have m2 : n.tmod a = n % a := Int.tmod_eq_emod_of_nonneg n1
      have m3 : x.tdiv a = x / a := Int.tdiv_eq_ediv_of_nonneg e1
      have m4 : n.tdiv a = n / a := Int.tdiv_eq_ediv_of_nonneg n1
      have t4 : decide (1 < n / a - x / a) = false := by simp; omega
      have t5 : decide (n ≤ x) = false := by simp; omega
      have t6 : decide (x < 0) = false := by simp; omega
      have ha : ∀ w : World, Calls Try.prog 20 #[.int .i64 (x % a - n % a)] w fun e w' => e = .returned (.int .i64 (absV (x % a - n % a))) ∧ w = w' := fun w => abs_val _ w (by omega) (by omega)
      by_cases hk0 : k = 0
      · subst hk0
        rw [Nat.add_zero] at hc1
        clear e6 hc2
        go_wp2_with fail
        go_quiet ((go_at_call 20; go_loud (exact Calls.quiet_of_same ((ha _).mono fun _ _ h => ⟨h.1, h.2.symm⟩))))
        clear t1 t3 t11 t12
        go_wp2_with fail
        go_roundw
        case rel => exact ⟨0 + 1, by omega, by go_num, _, by rw [HD.out]; first | rfl | exact World.drewN_drewN _ _ _⟩
        case measure => simp [intOf]; omega
      · have t7 : decide (0 < k) = true := by simp; omega
        have t7' : 0 < k := by omega
        have t8 : IntKind.i64.wrap ((k : Int) - 1) = (k : Int) - 1 := IntWalk.i64_in _ ⟨by omega, by omega⟩
        have t9 : ((k : Int) - 1).toNat = k - 1 := by omega
        have t10 : decide (x ≤ y) = false := by simp; omega
        clear e6
        go_wp2_with fail
        go_quiet ((go_at_call 20; go_loud (exact Calls.quiet_of_same ((ha _).mono fun _ _ h => ⟨h.1, h.2.symm⟩))))
        clear t1 t3 t8 t11 t12
        go_wp2_with fail
        go_roundw
        case rel => exact ⟨k + 1, by omega, by go_num, _, by rw [HD.out]; first | rfl | exact World.drewN_drewN _ _ _⟩
        case measure => simp [intOf]; omega
    · go_wp2_with fail
      refine (impl_WaveNeeds 2 2 0 _).mono ?_; rw [HE.out]; rintro e w5 ⟨v5, rfl, o5, q5⟩
      obtain ⟨A5, c5, rfl⟩ := o5.form
      go_wp2_with fail
      refine (impl_WaveNeeds 2 2 2 _).mono ?_; rw [HE2.out]; rintro e w6 ⟨v6, rfl, o6, q6⟩
      obtain ⟨A6, c6, rfl⟩ := o6.form
      go_wp2_with fail
      refine (alive _).mono ?_; rintro e w7 ⟨rfl, q7⟩
      go_wp2_with fail
      go_ret
      exact ⟨rfl, (by repeat (first | exact Q.refl _ | assumption | refine Q.drewN ?_ _ | refine Q.drew ?_ | refine Q.alloc ?_ _ | refine Q.trans ?_ (by assumption) | refine Q.set ?_ (by first | exact Nat.le_refl _ | omega | (simp; done) | (simp; omega)) _))⟩

set_option maxRecDepth 100000 in
theorem lifted_FnWaveNeeds (os : Os) (started : os.Started) (H : Type) (enc : TypeId × Value → H) :
    ReturnsInHanded {} Try.checked os 8 .any (Rows.fnWaveNeedsSpec.pre6 enc Try.prog Try.f8 Rows.fnWaveNeedsRow.domain false) (Rows.fnWaveNeedsSpec.post enc Try.prog Try.f8 false true false false) := by
  refine returnsInHanded_of_change (C := Try.checked) own_knob started (by kernel_rfl) Try.func8
    (ChangeSpec.witness6 (enc := enc) (C := Try.checked) false ⟨#[], #[.slice none 0 0], []⟩ 8 (by kernel_rfl) (by kernel_rfl) (by kernel_rfl) (by kernel_rfl)) ?_
  intro W base args ds gs before hval0 hW hcnd _
  have hval : ∀ (j : Nat) t v, Try.f8.params[j]? = some t → args[j]? = some v → Value.okWide Try.prog W .any base t v := hval0
  have hW' := hW
  obtain ⟨p, q, hA0, hV, rfl, hfz, hnd⟩ := hW
  have hA : DataW.TrodAll enc Try.prog W 0 (fun _ => true) true Try.f8.params.toList args.toList ds p := hA0
  rw [Try.params8] at hA hval
  obtain ⟨v0, vs0, d0, ds0, p0, q0, hargs, rfl, rfl, h0, r0⟩ := trodAll_cons hA
  obtain ⟨rfl, rfl, rfl⟩ := trodAll_nil r0
  obtain rfl : args = #[v0] := by cases args; simp_all
  obtain ⟨rfl, rfl⟩ := trodVars_none hV
  have k0 := h0
  have lt0 : ∀ x ∈ p0, x.block < W.heap.size := by obtain ⟨m, hm⟩ := k0; exact DataW.trod_lt m _ _ _ hm
  obtain ⟨x0, o0⟩ := open_bytes (hval 0 22 v0 rfl rfl) h0
  clear hA0 hval0
  refine (walk_FnWaveNeeds W v0 x0 o0).mono fun e W' ⟨he, bel⟩ => ?_
  subst he
  exact ⟨_, rfl, _, _, _, [], _, [], hW', trodAll_mk1 (shut_bool Try.underlying4 _), (trodAll_cons_mk (Below.trod laid_out (by kernel_rfl) (of_decide_eq_true (by kernel_rfl)) k0 bel lt0) trodAll_mk0), rfl, bel.frame _, fun h => by cases h⟩

/-- The statement. -/
theorem FnWaveNeeds_holds : Rows.FnWaveNeedsSaid :=
  OpenClaim.holds_of_wide 8 Try.f8 rfl rfl rfl rfl rfl rfl rfl ⟨rfl, rfl, rfl, rfl, rfl⟩ rfl rfl rfl rfl rfl (by kernel_rfl) Try.func8 (by kernel_rfl)
    (of_decide_eq_true (by kernel_rfl)) (by unfold Func.isWrapper; first | (rw [if_pos (by decide +kernel)]; kernel_rfl) | (rw [if_neg (by decide +kernel)]; exact ⟨rfl, rfl⟩))
    (fun os started H enc _ => lifted_FnWaveNeeds os started H enc)
#print axioms FnWaveNeeds_holds
end Go.Proofs.Ytnmegieibcmhcaa

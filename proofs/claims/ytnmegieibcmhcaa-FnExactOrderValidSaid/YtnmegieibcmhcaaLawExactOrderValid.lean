/-
  FnExactOrderValid: for every list of at most 1048576 numbers, all columns and rows, the program's OrderValid returns what the reference's returns, and leaves the list alone; for longer lists the law asks nothing; so the law returns true. No condition.
-/
import Derived.Test.YtnmegieibcmhcaaFrame
import Derived.Test.YtnmegieibcmhcaaOrder2
import Derived.Test.YtnmegieibcmhcaaInts
namespace Go.Proofs.Ytnmegieibcmhcaa
open Go.ChangeShapes Go.WideShapes Go.ChangeAt Go.RowKit

set_option maxHeartbeats 2000000 in
theorem walk_FnExactOrderValid (w : World) (v0 : Value) (x0 : Int) (h0 : ArgInt v0 x0) (v1 : Value) (x1 : Int) (h1 : ArgInt v1 x1) (v2 : Value) (x2 : Option Addr × Nat × List Int) (h2 : ArgInts w v2 x2) :
    Calls Try.prog 4 #[v0, v1, v2] w fun e w' => e = .returned (.bool true) ∧ Q w w' := by
  obtain ⟨A, c, xs⟩ := x2
  obtain ⟨rfl, hr, hm, _⟩ := h2
  obtain ⟨rfl, _⟩ := h0
  obtain ⟨rfl, _⟩ := h1
  simp only at hr hm ⊢
  generalize hn : xs.length = n at hm
  have HN := Lib.hid hn
  clear hn
  unfold maxLen at hm
  by_cases hbig : 1048576 < n
  · go_enter Try.func4, Try.ntmps4
    go_wp2_with fail
    go_ret
    exact ⟨rfl, Q.refl _⟩
  have hnm : n ≤ maxLen := by unfold maxLen; omega
  have hbig' : n ≤ 1048576 := by omega
  clear hbig
  generalize ht : orderValid x0 x1 xs = t
  have HT := Lib.hid ht
  clear ht
  go_enter Try.func4, Try.ntmps4
  go_wp2_with fail
  refine (toIntS A n c _ xs _ hr HN.out (by omega) (Nat.le_refl _)).mono ?_; rintro e w1 ⟨va, rfl, oa, q1⟩
  obtain ⟨Aa, ca, rfl⟩ := oa.form
  go_wp2_with fail
  refine (spec_OrderValid _ _ Aa n ca _ xs _ oa.rd (Nat.le_refl _) HN.out (by omega)).mono ?_; rw [HT.out]; rintro e w2 ⟨rfl, q2⟩
  have Q2 := q1.trans q2
  go_wp2_with fail
  refine (toIntS A n c _ xs _ (hr.q Q2 (Nat.le_refl _)) HN.out (by omega) Q2.size).mono ?_; rintro e w3 ⟨v3, rfl, o3, q3⟩
  obtain ⟨A3, c3, rfl⟩ := o3.form
  go_wp2_with fail
  refine (impl_OrderValid _ _ A3 n c3 _ xs _ o3.rd (Nat.le_refl _) HN.out (by omega)).mono ?_; rw [HT.out]; rintro e w4 ⟨rfl, q4⟩
  have Q4 := (Q2.trans q3).trans q4
  cases t
  all_goals
    go_wp2_with fail
    refine (toIntS A n c _ xs _ (hr.q Q4 (Nat.le_refl _)) HN.out (by omega) Q4.size).mono ?_; rintro e w6 ⟨v6, rfl, o6, q6⟩
    obtain ⟨A6, c6, rfl⟩ := o6.form
    go_wp2_with fail
    refine (eqIntS A3 A6 n n c3 c6 _ _ xs xs _ ((o3.q q4).q q6).rd o6.rd HN.out HN.out hnm hnm).mono ?_; rintro e w7 ⟨rfl, k7, rfl⟩
    go_wp2_with fail
    go_ret
    exact ⟨rfl, (by repeat (first | exact Q.refl _ | assumption | refine Q.drewN ?_ _ | refine Q.drew ?_ | refine Q.alloc ?_ _ | refine Q.trans ?_ (by assumption) | refine Q.set ?_ (by first | exact Nat.le_refl _ | omega | (simp; done) | (simp; omega)) _))⟩

set_option maxRecDepth 100000 in
theorem lifted_FnExactOrderValid (os : Os) (started : os.Started) (H : Type) (enc : TypeId × Value → H) :
    ReturnsInHanded {} Try.checked os 4 .any (Rows.fnExactOrderValidSpec.pre6 enc Try.prog Try.f4 Rows.fnExactOrderValidRow.domain false) (Rows.fnExactOrderValidSpec.post enc Try.prog Try.f4 false true false false) := by
  refine returnsInHanded_of_change (C := Try.checked) own_knob started (by kernel_rfl) Try.func4
    (ChangeSpec.witness6 (enc := enc) (C := Try.checked) false ⟨#[], #[.int .i64 0, .int .i64 0, .slice none 0 0], []⟩ 8 (by kernel_rfl) (by kernel_rfl) (by kernel_rfl) (by kernel_rfl)) ?_
  intro W base args ds gs before hval0 hW hcnd _
  have hval : ∀ (j : Nat) t v, Try.f4.params[j]? = some t → args[j]? = some v → Value.okWide Try.prog W .any base t v := hval0
  have hW' := hW
  obtain ⟨p, q, hA0, hV, rfl, hfz, hnd⟩ := hW
  have hA : DataW.TrodAll enc Try.prog W 0 (fun _ => true) true Try.f4.params.toList args.toList ds p := hA0
  rw [Try.params4] at hA hval
  obtain ⟨v0, vs0, d0, ds0, p0, q0, hargs, rfl, rfl, h0, r0⟩ := trodAll_cons hA
  obtain ⟨v1, vs1, d1, ds1, p1, q1, rfl, rfl, rfl, h1, r1⟩ := trodAll_cons r0
  obtain ⟨v2, vs2, d2, ds2, p2, q2, rfl, rfl, rfl, h2, r2⟩ := trodAll_cons r1
  obtain ⟨rfl, rfl, rfl⟩ := trodAll_nil r2
  obtain rfl : args = #[v0, v1, v2] := by cases args; simp_all
  obtain ⟨rfl, rfl⟩ := trodVars_none hV
  have k0 := h0
  have lt0 : ∀ x ∈ p0, x.block < W.heap.size := by obtain ⟨m, hm⟩ := k0; exact DataW.trod_lt m _ _ _ hm
  obtain ⟨x0, o0⟩ := open_int (hval 0 3 v0 rfl rfl) h0
  have k1 := h1
  have lt1 : ∀ x ∈ p1, x.block < W.heap.size := by obtain ⟨m, hm⟩ := k1; exact DataW.trod_lt m _ _ _ hm
  obtain ⟨x1, o1⟩ := open_int (hval 1 3 v1 rfl rfl) h1
  have k2 := h2
  have lt2 : ∀ x ∈ p2, x.block < W.heap.size := by obtain ⟨m, hm⟩ := k2; exact DataW.trod_lt m _ _ _ hm
  obtain ⟨x2, o2⟩ := open_ints (hval 2 32 v2 rfl rfl) h2
  clear hA0 hval0
  refine (walk_FnExactOrderValid W v0 x0 o0 v1 x1 o1 v2 x2 o2).mono fun e W' ⟨he, bel⟩ => ?_
  subst he
  exact ⟨_, rfl, _, _, _, [], _, [], hW', trodAll_mk1 (shut_bool Try.underlying4 _), (trodAll_cons_mk (Below.trod laid_out (by kernel_rfl) (of_decide_eq_true (by kernel_rfl)) k0 bel lt0) (trodAll_cons_mk (Below.trod laid_out (by kernel_rfl) (of_decide_eq_true (by kernel_rfl)) k1 bel lt1) (trodAll_cons_mk (Below.trod laid_out (by kernel_rfl) (of_decide_eq_true (by kernel_rfl)) k2 bel lt2) trodAll_mk0))), rfl, bel.frame _, fun h => by cases h⟩

/-- The statement. -/
theorem FnExactOrderValid_holds : Rows.FnExactOrderValidSaid :=
  OpenClaim.holds_of_wide 4 Try.f4 rfl rfl rfl rfl rfl rfl rfl ⟨rfl, rfl, rfl, rfl, rfl⟩ rfl rfl rfl rfl rfl (by kernel_rfl) Try.func4 (by kernel_rfl)
    (of_decide_eq_true (by kernel_rfl)) (by unfold Func.isWrapper; first | (rw [if_pos (by decide +kernel)]; kernel_rfl) | (rw [if_neg (by decide +kernel)]; exact ⟨rfl, rfl⟩))
    (fun os started H enc _ => lifted_FnExactOrderValid os started H enc)
#print axioms FnExactOrderValid_holds
end Go.Proofs.Ytnmegieibcmhcaa

/-
  FnExactHalveChroma: for every table and width the program's HalveChroma returns what the reference's returns, in memory of its own, and leaves the table alone; so the law returns true. No condition.
-/
import Derived.Test.YtjpfagkepmkeaaaFrame
import Derived.Test.YtjpfagkepmkeaaaHalve4
import Derived.Test.YtjpfagkepmkeaaaInts
namespace Go.Proofs.Ytjpfagkepmkeaaa
open Go.ChangeShapes Go.WideShapes Go.ChangeAt Go.RowKit

set_option maxHeartbeats 2000000 in
theorem walk_FnExactHalveChroma (w : World) (v0 : Value) (x0 : Option Addr × Nat × List Int) (h0 : ArgInts w v0 x0) (v1 : Value) (x1 : Int) (h1 : ArgInt v1 x1) :
    Calls Try.prog 8 #[v0, v1] w fun e w' => e = .returned (.bool true) ∧ Q w w' := by
  obtain ⟨A, c, xs⟩ := x0
  obtain ⟨rfl, hr, hm, _⟩ := h0
  obtain ⟨rfl, _⟩ := h1
  simp only at hr hm ⊢
  generalize hn : xs.length = n at hm
  have HN := Lib.hid hn
  clear hn
  unfold maxLen at hm
  by_cases hbig : 1048576 < n
  · go_enter Try.func8, Try.ntmps8
    go_wp2_with fail
    go_ret
    exact ⟨rfl, Q.refl _⟩
  have hle := hal_len xs x1
  generalize hd : hal xs x1 = ds at hle
  have HD := Lib.hid hd
  clear hd
  generalize hdn : ds.length = d at hle
  have HDN := Lib.hid hdn
  clear hdn
  have hdm : d ≤ maxLen := by unfold maxLen; omega
  have hnm : n ≤ maxLen := by unfold maxLen; omega
  have hbig' : n ≤ 1048576 := by omega
  clear hbig
  go_enter Try.func8, Try.ntmps8
  go_wp2_with fail
  refine (toIntS A n c _ xs _ hr HN.out (by omega) (Nat.le_refl _)).mono ?_; rintro e w1 ⟨va, rfl, oa, q1⟩
  obtain ⟨Aa, ca, rfl⟩ := oa.form
  go_wp2_with fail
  refine (spec_Halve Aa n ca _ _ xs _ oa.rd (Nat.le_refl _) HN.out (by omega)).mono ?_; rw [HD.out, HDN.out]; rintro e w2 ⟨v2, rfl, o2, q2⟩
  obtain ⟨A2, c2, rfl⟩ := o2.form
  have Q2 := q1.trans q2
  go_wp2_with fail
  refine (toIntS A n c _ xs _ (hr.q Q2 (Nat.le_refl _)) HN.out (by omega) Q2.size).mono ?_; rintro e w3 ⟨v3, rfl, o3, q3⟩
  obtain ⟨A3, c3, rfl⟩ := o3.form
  go_wp2_with fail
  refine (impl_Halve A3 n c3 _ _ xs _ o3.rd (Nat.le_refl _) HN.out (by omega)).mono ?_; rw [HD.out, HDN.out]; rintro e w4 ⟨v4, rfl, o4, q4⟩
  obtain ⟨A4, c4, rfl⟩ := o4.form
  go_wp2_with fail
  refine (eqIntS A4 A2 d d c4 c2 _ _ ds ds _ o4.rd ((o2.q q3).q q4).rd HDN.out HDN.out hdm hdm).mono ?_; rintro e w5 ⟨rfl, k5, rfl⟩
  go_wp2_with fail
  have Q4 := ((Q2.trans q3).trans q4).drewN k5
  refine (toIntS A n c _ xs _ (hr.q Q4 (Nat.le_refl _)) HN.out (by omega) Q4.size).mono ?_; rintro e w6 ⟨v6, rfl, o6, q6⟩
  obtain ⟨A6, c6, rfl⟩ := o6.form
  go_wp2_with fail
  have o3' := ((o3.q q4).drewN k5).q q6
  refine (eqIntS A3 A6 n n c3 c6 _ _ xs xs _ o3'.rd o6.rd HN.out HN.out hnm hnm).mono ?_; rintro e w7 ⟨rfl, k7, rfl⟩
  go_wp2_with fail
  refine (markIntS (.slice A3 n c3) n _ 1 xs _ (o3'.drewN k7) (by omega) (by omega) (by omega)).mono ?_; rintro e w8 ⟨rfl, o8, g8⟩
  have o2' := ((((o2.q q3).q q4).drewN k5).q q6).drewN k7
  have o4' := ((o4.drewN k5).q q6).drewN k7
  have o2'' := o2'.other g8 (o2.ne o3 (Nat.le_refl _))
  have o4'' := o4'.other g8 (o3.ne' o4 (Nat.le_refl _))
  have Q8 : Q w w8 := (o3'.drewN k7).qmark (a := w) (by repeat (first | exact Q.refl _ | assumption | refine Q.drewN ?_ _ | refine Q.drew ?_ | refine Q.alloc ?_ _ | refine Q.trans ?_ (by assumption) | refine Q.set ?_ (by first | exact Nat.le_refl _ | omega | (simp; done) | (simp; omega)) _)) Q2.size g8
  clear o2' o4' o8
  go_wp2_with fail
  refine (eqIntS A4 A2 d d c4 c2 _ _ ds ds _ o4''.rd o2''.rd HDN.out HDN.out hdm hdm).mono ?_; rintro e w9 ⟨rfl, k9, rfl⟩
  go_wp2_with fail
  refine (markIntS (.slice A4 d c4) d _ 1 ds _ (o4''.drewN k9) (by omega) (by omega) (by omega)).mono ?_; rintro e w10 ⟨rfl, o10, g10⟩
  have o2c := (o2''.drewN k9).other g10 (o2.ne o4 q3.size)
  have Q10 : Q w w10 := (o4''.drewN k9).qmark (a := w) (by repeat (first | exact Q.refl _ | assumption | refine Q.drewN ?_ _ | refine Q.drew ?_ | refine Q.alloc ?_ _ | refine Q.trans ?_ (by assumption) | refine Q.set ?_ (by first | exact Nat.le_refl _ | omega | (simp; done) | (simp; omega)) _)) (Q2.trans q3).size g10
  clear o2'' o4''
  go_wp2_with fail
  refine (heldIntS (.slice A4 d c4) d _ 1 _ o10 (by omega) (by omega) (by omega)).mono ?_; rintro e w11 ⟨rfl, k11, rfl⟩
  go_wp2_with fail
  refine (toIntS A n c _ xs _ ((hr.q Q10 (Nat.le_refl _)).drewN k11) HN.out (by omega) Q10.size).mono ?_; rintro e w12 ⟨v12, rfl, o12, q12⟩
  obtain ⟨A12, c12, rfl⟩ := o12.form
  go_wp2_with fail
  refine (impl_Halve A12 n c12 _ _ xs _ o12.rd (Nat.le_refl _) HN.out (by omega)).mono ?_; rw [HD.out, HDN.out]; rintro e w13 ⟨v13, rfl, o13, q13⟩
  obtain ⟨A13, c13, rfl⟩ := o13.form
  go_wp2_with fail
  refine (eqIntS A13 A2 d d c13 c2 _ _ ds ds _ o13.rd (((o2c.drewN k11).q q12).q q13).rd HDN.out HDN.out hdm hdm).mono ?_; rintro e w14 ⟨rfl, k14, rfl⟩
  go_wp2_with fail
  refine (heldIntS (.slice A4 d c4) d _ 1 _ ((((o10.drewN k11).q q12).q q13).drewN k14) (by omega) (by omega) (by omega)).mono ?_; rintro e w15 ⟨rfl, k15, rfl⟩
  go_wp2_with fail
  go_ret
  exact ⟨rfl, (by repeat (first | exact Q.refl _ | assumption | refine Q.drewN ?_ _ | refine Q.drew ?_ | refine Q.alloc ?_ _ | refine Q.trans ?_ (by assumption) | refine Q.set ?_ (by first | exact Nat.le_refl _ | omega | (simp; done) | (simp; omega)) _))⟩

set_option maxRecDepth 100000 in
theorem lifted_FnExactHalveChroma (os : Os) (started : os.Started) (H : Type) (enc : TypeId × Value → H) :
    ReturnsInHanded {} Try.checked os 8 .any (Rows.fnExactHalveChromaSpec.pre6 enc Try.prog Try.f8 Rows.fnExactHalveChromaRow.domain false) (Rows.fnExactHalveChromaSpec.post enc Try.prog Try.f8 false true false false) := by
  refine returnsInHanded_of_change (C := Try.checked) own_knob started (by kernel_rfl) Try.func8
    (ChangeSpec.witness6 (enc := enc) (C := Try.checked) false ⟨#[], #[.slice none 0 0, .int .i64 0], []⟩ 8 (by kernel_rfl) (by kernel_rfl) (by kernel_rfl) (by kernel_rfl)) ?_
  intro W base args ds gs before hval0 hW hcnd _
  have hval : ∀ (j : Nat) t v, Try.f8.params[j]? = some t → args[j]? = some v → Value.okWide Try.prog W .any base t v := hval0
  have hW' := hW
  obtain ⟨p, q, hA0, hV, rfl, hfz, hnd⟩ := hW
  have hA : DataW.TrodAll enc Try.prog W 0 (fun _ => true) true Try.f8.params.toList args.toList ds p := hA0
  rw [Try.params8] at hA hval
  obtain ⟨v0, vs0, d0, ds0, p0, q0, hargs, rfl, rfl, h0, r0⟩ := trodAll_cons hA
  obtain ⟨v1, vs1, d1, ds1, p1, q1, rfl, rfl, rfl, h1, r1⟩ := trodAll_cons r0
  obtain ⟨rfl, rfl, rfl⟩ := trodAll_nil r1
  obtain rfl : args = #[v0, v1] := by cases args; simp_all
  obtain ⟨rfl, rfl⟩ := trodVars_none hV
  have k0 := h0
  have lt0 : ∀ x ∈ p0, x.block < W.heap.size := by obtain ⟨m, hm⟩ := k0; exact DataW.trod_lt m _ _ _ hm
  obtain ⟨x0, o0⟩ := open_ints (hval 0 31 v0 rfl rfl) h0
  have k1 := h1
  have lt1 : ∀ x ∈ p1, x.block < W.heap.size := by obtain ⟨m, hm⟩ := k1; exact DataW.trod_lt m _ _ _ hm
  obtain ⟨x1, o1⟩ := open_int (hval 1 3 v1 rfl rfl) h1
  clear hA0 hval0
  refine (walk_FnExactHalveChroma W v0 x0 o0 v1 x1 o1).mono fun e W' ⟨he, bel⟩ => ?_
  subst he
  exact ⟨_, rfl, _, _, _, [], _, [], hW', trodAll_mk1 (shut_bool Try.underlying4 _), (trodAll_cons_mk (Below.trod laid_out (by kernel_rfl) (of_decide_eq_true (by kernel_rfl)) k0 bel lt0) (trodAll_cons_mk (Below.trod laid_out (by kernel_rfl) (of_decide_eq_true (by kernel_rfl)) k1 bel lt1) trodAll_mk0)), rfl, bel.frame _, fun h => by cases h⟩

/-- The statement. -/
theorem FnExactHalveChroma_holds : Rows.FnExactHalveChromaSaid :=
  OpenClaim.holds_of_wide 8 Try.f8 rfl rfl rfl rfl rfl rfl rfl ⟨rfl, rfl, rfl, rfl, rfl⟩ rfl rfl rfl rfl rfl (by kernel_rfl) Try.func8 (by kernel_rfl)
    (of_decide_eq_true (by kernel_rfl)) (by unfold Func.isWrapper; first | (rw [if_pos (by decide +kernel)]; kernel_rfl) | (rw [if_neg (by decide +kernel)]; exact ⟨rfl, rfl⟩))
    (fun os started H enc _ => lifted_FnExactHalveChroma os started H enc)
#print axioms FnExactHalveChroma_holds
end Go.Proofs.Ytjpfagkepmkeaaa

/-
  FnDoubleChroma: whatever table the code draws, DoubleChroma returns what the reference's returns, and every number of the table stands at four places of the result; so the law returns true. No condition.
-/
import Derived.Test.YtnmegieibcmhcaaTable
import Derived.Test.YtnmegieibcmhcaaDouble
import Derived.Test.YtnmegieibcmhcaaPict
import Derived.Test.YtnmegieibcmhcaaSame
namespace Go.Proofs.Ytnmegieibcmhcaa
open Go.ChangeShapes Go.WideShapes Go.ChangeAt Go.RowKit

theorem dbl_four (xs : List Int) (W H k : Nat) (hl : xs.length = H * W) (h1 : 1 ≤ W) (h2 : W ≤ 16) (h3 : 1 ≤ H) (h4 : H ≤ 16) (hk : k < H * W) :
    4 * (k / W) * W + 2 * (k % W) + 2 * W + 1 < 2 * H * (2 * W) ∧
    (dbl xs W)[4 * (k / W) * W + 2 * (k % W)]?.getD 0 = xs[k]?.getD 0 ∧ (dbl xs W)[4 * (k / W) * W + 2 * (k % W) + 1]?.getD 0 = xs[k]?.getD 0 ∧
    (dbl xs W)[4 * (k / W) * W + 2 * (k % W) + 2 * W]?.getD 0 = xs[k]?.getD 0 ∧ (dbl xs W)[4 * (k / W) * W + 2 * (k % W) + 2 * W + 1]?.getD 0 = xs[k]?.getD 0 := by
  have hr : k / W < H := (Nat.div_lt_iff_lt_mul h1).2 hk
  have hm : k % W < W := Nat.mod_lt _ h1
  have hke : k / W * W + k % W = k := by rw [Nat.mul_comm]; exact Nat.div_add_mod k W
  rw [dbl_ok xs W H hl h1 h2 h3 h4]
  generalize k / W = y at hr hke
  generalize k % W = x at hm hke
  subst hke
  have e0 : 4 * y * W + 2 * x = 2 * y * (2 * W) + 2 * x := by
    rw [show 4 * y = 2 * y * 2 by omega, Nat.mul_assoc (2 * y) 2 W]
  have e2 : 4 * y * W + 2 * x + 2 * W = (2 * y + 1) * (2 * W) + 2 * x := by
    rw [e0, Nat.add_mul]; omega
  have b0 : (2 * y + 1) * (2 * W) + 2 * x + 1 < 2 * H * (2 * W) := row_lt (2 * y + 1) (2 * W) (2 * H) (2 * x + 1) (by omega) (by omega)
  have b1 : 2 * y * (2 * W) ≤ (2 * y + 1) * (2 * W) := Nat.mul_le_mul_right _ (by omega)
  refine ⟨by rw [e2]; exact b0, ?_, ?_, ?_, ?_⟩
  · rw [e0, tab_get _ _ _ (by omega), dblAt_row _ _ _ _ (by omega), show 2 * y / 2 = y by omega, show 2 * x / 2 = x by omega]
  · rw [e0, tab_get _ _ _ (by omega), Nat.add_assoc, dblAt_row _ _ _ _ (by omega), show 2 * y / 2 = y by omega, show (2 * x + 1) / 2 = x by omega]
  · rw [e2, tab_get _ _ _ (by omega), dblAt_row _ _ _ _ (by omega), show (2 * y + 1) / 2 = y by omega, show 2 * x / 2 = x by omega]
  · rw [e2, tab_get _ _ _ (by omega), Nat.add_assoc, dblAt_row _ _ _ _ (by omega), show (2 * y + 1) / 2 = y by omega, show (2 * x + 1) / 2 = x by omega]

/-- what the law asks of every number of the table, in the walk's own words -/
def fourOk (xs ds : List Int) (V k : Nat) : Prop :=
  ∃ p : Nat, (k : Int) / (V : Int) * 4 * (V : Int) + (k : Int) % (V : Int) * 2 = p ∧ p + 2 * V + 1 < ds.length ∧
    ds[p]?.getD 0 = xs[k]?.getD 0 ∧ ds[p + 1]?.getD 0 = xs[k]?.getD 0 ∧ ds[p + 2 * V]?.getD 0 = xs[k]?.getD 0 ∧ ds[p + 2 * V + 1]?.getD 0 = xs[k]?.getD 0
theorem dbl_law (xs : List Int) (V : Nat) (h : (dbl xs V).length ≠ 0) : 1 ≤ V ∧ V ≤ 16 ∧ (dbl xs V).length = 4 * xs.length ∧ ∀ k, k < xs.length → fourOk xs (dbl xs V) V k := by
  by_cases ho : dblOk xs.length V
  · have ho' := ho
    obtain ⟨W, H, hW, hl, h1, h2, h3, h4⟩ := ho'
    have hVW : V = W := by omega
    subst hVW
    have hlen : (dbl xs (V : Int)).length = 4 * xs.length := by unfold dbl; rw [if_pos ho, length_tab]
    refine ⟨by omega, by omega, hlen, fun k hk => ?_⟩
    obtain ⟨b, f1, f2, f3, f4⟩ := dbl_four xs V H k hl h1 h2 h3 h4 (by omega)
    refine ⟨4 * (k / V) * V + 2 * (k % V), ?_, ?_, f1, f2, f3, f4⟩
    · rw [Int.mul_comm ((k : Int) / (V : Int)) 4, Int.mul_comm ((k : Int) % (V : Int)) 2]; simp
    · rw [hlen, hl, show 4 * (H * V) = 2 * H * (2 * V) by rw [Nat.mul_mul_mul_comm]]; exact b
  · exact absurd (show (dbl xs V).length = 0 by unfold dbl; rw [if_neg ho]; rfl) h
theorem at_le (k V : Nat) (h : 1 ≤ V) : 0 ≤ (k : Int) / (V : Int) ∧ (k : Int) / (V : Int) ≤ k ∧ 0 ≤ (k : Int) / (V : Int) * 4 * (V : Int) ∧ (k : Int) / (V : Int) * 4 * (V : Int) ≤ 4 * k ∧ 0 ≤ (k : Int) % (V : Int) ∧ (k : Int) % (V : Int) < V := by
  have h1 : 0 ≤ (k : Int) / (V : Int) := Int.ediv_nonneg (by omega) (by omega)
  have h2 : (k : Int) / (V : Int) * (V : Int) ≤ k := Int.ediv_mul_le _ (by omega)
  have h3 : (k : Int) / (V : Int) * 4 * (V : Int) = (k : Int) / (V : Int) * (V : Int) * 4 := Int.mul_right_comm _ _ _
  have h4 : 0 ≤ (k : Int) / (V : Int) * (V : Int) := Int.mul_nonneg h1 (by omega)
  refine ⟨h1, Int.ediv_le_self _ (by omega), by omega, by omega, Int.emod_nonneg _ (by omega), Int.emod_lt_of_pos _ (by omega)⟩

set_option maxRecDepth 100000 in
set_option maxHeartbeats 2000000 in
theorem walk_FnDoubleChroma (w : World) (v0 : Value) (x0 : Option Addr × Nat × List Int) (h0 : ArgBytes w v0 x0) :
    Calls Try.prog 5 #[v0] w fun e w' => e = .returned (.bool true) ∧ Q w w' := by
  have hv := h0.1; have hm := h0.2.2.1; unfold maxLen at hm; generalize hn : x0.2.2.length = nn at hv hm; have HN := Lib.hid hn; clear hn; by_cases hbig : 1048576 < nn; (subst hv; go_enter Try.func5, Try.ntmps5; go_wp2_with fail; go_ret; exact ⟨rfl, Q.refl _⟩); have H0 : ArgBytes w (.slice x0.1 nn x0.2.1) x0 := (by rw [hv] at h0; exact h0); subst hv; clear h0; go_enter Try.func5, Try.ntmps5; go_wp2_with fail
  refine (DrawDoubleChroma _ _ _ H0).mono ?_; rintro e w1 ⟨A, n, c, xs, v, rfl, hr, hn, hm, v1, v2, q1⟩
  obtain ⟨V, rfl⟩ := Int.eq_ofNat_of_zero_le v1
  have HR := Lib.hid hr
  have HN2 := Lib.hid hn
  have HLAW := Lib.hid (dbl_law xs V)
  have hle := dbl_len xs V
  clear hr hn
  generalize hd : dbl xs (V : Int) = ds at HLAW hle
  generalize hdn : ds.length = d at HLAW hle
  have HD := Lib.hid hd
  have HDN := Lib.hid hdn
  clear hd hdn
  have hdm : d ≤ maxLen := by unfold maxLen; omega
  go_wp2_with fail
  refine (impl_Double A n c _ _ xs _ HR.out (Nat.le_refl _) HN2.out (by omega)).mono ?_; rw [HD.out, HDN.out]; rintro e w2 ⟨v2', rfl, o2, q2⟩
  obtain ⟨A2, c2, rfl⟩ := o2.form
  go_wp2_with fail
  refine (spec_Double A n c _ _ xs _ (HR.out.q q2 (Nat.le_refl _)) q2.size HN2.out (by omega)).mono ?_; rw [HD.out, HDN.out]; rintro e w3 ⟨v3, rfl, o3, q3⟩
  obtain ⟨A3, c3, rfl⟩ := o3.form
  go_wp2_with fail
  refine (sameInts A2 A3 d d c2 c3 _ _ ds ds _ (o2.q q3).rd o3.rd HDN.out HDN.out hdm hdm).mono ?_; rintro e w4 ⟨rfl, k4, rfl⟩
  rw [beq_self_eq_true]
  have Q4 : Q w (w3.drewN k4) := (by repeat (first | exact Q.refl _ | assumption | refine Q.drewN ?_ _ | refine Q.drew ?_ | refine Q.alloc ?_ _ | refine Q.trans ?_ (by assumption) | refine Q.set ?_ (by first | exact Nat.le_refl _ | omega | (simp; done) | (simp; omega)) _))
  have R4 := Lib.hid (((o2.q q3).drewN k4).rd)
  have RX := Lib.hid ((HR.out.q (q2.trans q3) (Nat.le_refl _)).drewN k4)
  have hs4 : w1.heap.size ≤ (w3.drewN k4).heap.size := ((q2.trans q3).drewN k4).size
  generalize w3.drewN k4 = w4 at R4 RX Q4 hs4 ⊢
  clear o2 o3 q2 q3 q1
  by_cases hd0 : d = 0
  · subst hd0
    go_wp2_with fail
    refine (alive _).mono ?_; rintro e w5 ⟨rfl, q5⟩
    go_wp2_with fail
    go_ret
    exact ⟨rfl, Q4.trans q5⟩
  have hd0' : ((d : Int) == 0) = false := by rw [beq_eq_false_iff_ne]; omega
  obtain ⟨w1', w2', hdl, hlaw⟩ := HLAW.out hd0
  rw [HN2.out] at hdl hlaw
  have HLW := Lib.hid hlaw
  clear hlaw hd0
  go_wp2_with fail
  go_loopw [6] (fun i wr => ∃ k : Nat, k ≤ n ∧ i = .int .i64 k ∧ ∃ dr, wr = w4.drewN dr) (fun i _ => n - (intOf i).toNat)
  case atStart => exact ⟨0, Nat.zero_le _, rfl, 0, rfl⟩
  case round =>
    obtain ⟨k, hk, rfl, dr, hdr⟩ := hrel
    have HDR := Lib.hid hdr
    have hqd : Q w4 wr := by rw [hdr]; exact (Q.refl _).drewN _
    clear hdr
    by_cases hlt : k < n
    · obtain ⟨p, e0, e1, f1, f2, f3, f4⟩ := HLW.out k hlt
      rw [HDN.out] at e1
      obtain ⟨g, o, rfl, hb, hc⟩ := RX.out (by rw [HN2.out]; omega)
      obtain ⟨g2, o2, rfl, hb2, hc2⟩ := R4.out (by rw [HDN.out]; omega)
      have hb' : g < w4.heap.size := by omega
      have cx := (hqd.cell g _ hb').trans (hc k (by rw [HN2.out]; exact hlt))
      have c0 := (hqd.cell g2 _ hb2).trans (hc2 p (by rw [HDN.out]; omega))
      have c1 := (hqd.cell g2 _ hb2).trans (hc2 (p + 1) (by rw [HDN.out]; omega))
      have cc2 := (hqd.cell g2 _ hb2).trans (hc2 (p + 2 * V) (by rw [HDN.out]; omega))
      have cc3 := (hqd.cell g2 _ hb2).trans (hc2 (p + 2 * V + 1) (by rw [HDN.out]; omega))
      rw [f1] at c0
      rw [f2] at c1
      rw [f3] at cc2
      rw [f4] at cc3
      generalize xs[k]?.getD 0 = x at cx c0 c1 cc2 cc3
      have HC := Lib.hid hc
      have HC2 := Lib.hid hc2
      clear hc hc2 f1 f2 f3 f4
      obtain ⟨a1, a2, a3, a4, a5, a6⟩ := at_le k V w1'
      have za : ¬ (V : Int) = 0 := by omega
      have zb : ((V : Int) == 0) = false := by rw [beq_eq_false_iff_ne]; exact za
      have za' : ¬ V = 0 := by omega
      have m1 : (k : Int).tdiv V = (k : Int) / (V : Int) := Int.tdiv_eq_ediv_of_nonneg (by omega)
      have m2 : (k : Int).tmod V = (k : Int) % (V : Int) := Int.tmod_eq_emod_of_nonneg (by omega)
      have t1 : IntKind.i64.wrap ((k : Int) / (V : Int)) = (k : Int) / (V : Int) := IntWalk.i64_in _ ⟨by omega, by omega⟩
      have t2 : IntKind.i64.wrap ((k : Int) / (V : Int) * 4) = (k : Int) / (V : Int) * 4 := IntWalk.i64_in _ ⟨by omega, by omega⟩
      have t3 : IntKind.i64.wrap ((k : Int) / (V : Int) * 4 * (V : Int)) = (k : Int) / (V : Int) * 4 * (V : Int) := IntWalk.i64_in _ ⟨by omega, by omega⟩
      have t4 : IntKind.i64.wrap ((k : Int) % (V : Int) * 2) = (k : Int) % (V : Int) * 2 := IntWalk.i64_in _ ⟨by omega, by omega⟩
      have t5 : IntKind.i64.wrap ((k : Int) / (V : Int) * 4 * (V : Int) + (k : Int) % (V : Int) * 2) = (p : Int) := by rw [e0]; exact IntWalk.i64_in _ ⟨by omega, by omega⟩
      have b0 : (p : Int) < (d : Int) := by omega
      have b1 : (p : Int) + 1 < (d : Int) := by omega
      have b2 : (p : Int) + 2 * (V : Int) < (d : Int) := by omega
      have b3 : (p : Int) + 2 * (V : Int) + 1 < (d : Int) := by omega
      have kb : (k : Int) < (n : Int) := by omega
      have s1 : IntKind.i64.wrap ((p : Int) + 1) = (p : Int) + 1 := IntWalk.i64_in _ ⟨by omega, by omega⟩
      have s2 : IntKind.i64.wrap (2 * (V : Int)) = 2 * (V : Int) := IntWalk.i64_in _ ⟨by omega, by omega⟩
      have s3 : IntKind.i64.wrap ((p : Int) + 2 * (V : Int)) = (p : Int) + 2 * (V : Int) := IntWalk.i64_in _ ⟨by omega, by omega⟩
      have s4 : IntKind.i64.wrap ((p : Int) + 2 * (V : Int) + 1) = (p : Int) + 2 * (V : Int) + 1 := IntWalk.i64_in _ ⟨by omega, by omega⟩
      have E0 := Lib.hid e0
      clear e0
      go_wp2_with fail
      go_quiet (fail)
      go_wp2_with fail
      go_quiet (fail)
      clear t1 t2 t3 t4 t5 s1 s2 s3 s4 m1 m2
      go_wp2_with fail
      go_roundw
      case rel => exact ⟨k + 1, by omega, by go_num, _, by rw [HDR.out]; first | rfl | exact World.drewN_drewN _ _ _⟩
      case measure => simp [intOf]; omega
    · have : k = n := by omega
      subst this
      go_wp2_with fail
      go_ret
      exact ⟨by simp, Q4.trans hqd⟩

set_option maxRecDepth 100000 in
theorem lifted_FnDoubleChroma (os : Os) (started : os.Started) (H : Type) (enc : TypeId × Value → H) :
    ReturnsInHanded {} Try.checked os 5 .any (Rows.fnDoubleChromaSpec.pre6 enc Try.prog Try.f5 Rows.fnDoubleChromaRow.domain false) (Rows.fnDoubleChromaSpec.post enc Try.prog Try.f5 false true false false) := by
  refine returnsInHanded_of_change (C := Try.checked) own_knob started (by kernel_rfl) Try.func5
    (ChangeSpec.witness6 (enc := enc) (C := Try.checked) false ⟨#[], #[.slice none 0 0], []⟩ 8 (by kernel_rfl) (by kernel_rfl) (by kernel_rfl) (by kernel_rfl)) ?_
  intro W base args ds gs before hval0 hW hcnd _
  have hval : ∀ (j : Nat) t v, Try.f5.params[j]? = some t → args[j]? = some v → Value.okWide Try.prog W .any base t v := hval0
  have hW' := hW
  obtain ⟨p, q, hA0, hV, rfl, hfz, hnd⟩ := hW
  have hA : DataW.TrodAll enc Try.prog W 0 (fun _ => true) true Try.f5.params.toList args.toList ds p := hA0
  rw [Try.params5] at hA hval
  obtain ⟨v0, vs0, d0, ds0, p0, q0, hargs, rfl, rfl, h0, r0⟩ := trodAll_cons hA
  obtain ⟨rfl, rfl, rfl⟩ := trodAll_nil r0
  obtain rfl : args = #[v0] := by cases args; simp_all
  obtain ⟨rfl, rfl⟩ := trodVars_none hV
  have k0 := h0
  have lt0 : ∀ x ∈ p0, x.block < W.heap.size := by obtain ⟨m, hm⟩ := k0; exact DataW.trod_lt m _ _ _ hm
  obtain ⟨x0, o0⟩ := open_bytes (hval 0 22 v0 rfl rfl) h0
  clear hA0 hval0
  refine (walk_FnDoubleChroma W v0 x0 o0).mono fun e W' ⟨he, bel⟩ => ?_
  subst he
  exact ⟨_, rfl, _, _, _, [], _, [], hW', trodAll_mk1 (shut_bool Try.underlying4 _), (trodAll_cons_mk (Below.trod laid_out (by kernel_rfl) (of_decide_eq_true (by kernel_rfl)) k0 bel lt0) trodAll_mk0), rfl, bel.frame _, fun h => by cases h⟩

/-- The statement. -/
theorem FnDoubleChroma_holds : Rows.FnDoubleChromaSaid :=
  OpenClaim.holds_of_wide 5 Try.f5 rfl rfl rfl rfl rfl rfl rfl ⟨rfl, rfl, rfl, rfl, rfl⟩ rfl rfl rfl rfl rfl (by kernel_rfl) Try.func5 (by kernel_rfl)
    (of_decide_eq_true (by kernel_rfl)) (by unfold Func.isWrapper; first | (rw [if_pos (by decide +kernel)]; kernel_rfl) | (rw [if_neg (by decide +kernel)]; exact ⟨rfl, rfl⟩))
    (fun os started H enc _ => lifted_FnDoubleChroma os started H enc)
#print axioms FnDoubleChroma_holds
end Go.Proofs.Ytnmegieibcmhcaa

/-
  FnHalveChroma: whatever table the code draws, HalveChroma returns what the reference's returns; the means lie between the extremes of the table, and doubling and halving them gives them back; so the law returns true. No condition.
-/
import Derived.Test.YtnmegieibcmhcaaTable
import Derived.Test.YtnmegieibcmhcaaDouble
import Derived.Test.YtnmegieibcmhcaaHalve4
import Derived.Test.YtnmegieibcmhcaaPict
import Derived.Test.YtnmegieibcmhcaaSame
namespace Go.Proofs.Ytnmegieibcmhcaa
open Go.ChangeShapes Go.WideShapes Go.ChangeAt Go.RowKit

def meanOf (xs : List Int) (d : Int) : Prop := ∃ i j l m : Nat, i < xs.length ∧ j < xs.length ∧ l < xs.length ∧ m < xs.length ∧ d = (xs[i]?.getD 0 + xs[j]?.getD 0 + xs[l]?.getD 0 + xs[m]?.getD 0 + 2) / 4
theorem hal_mean (xs : List Int) (W H k : Nat) (hl : xs.length = 2 * H * (2 * W)) (hk : k < H * W) (h1 : 1 ≤ W) : meanOf xs (halAt xs W k) := by
  have hr : k / W < H := (Nat.div_lt_iff_lt_mul h1).2 hk
  have hm : k % W < W := Nat.mod_lt _ h1
  unfold halAt halSq
  generalize k / W = y at hr
  generalize k % W = x at hm
  have b : (2 * y + 1) * (2 * W) + (2 * x + 1) < 2 * H * (2 * W) := row_lt (2 * y + 1) (2 * W) (2 * H) (2 * x + 1) (by omega) (by omega)
  rw [Nat.add_mul] at b
  exact ⟨2 * y * (2 * W) + 2 * x, 2 * y * (2 * W) + 2 * x + 1, 2 * y * (2 * W) + 2 * x + 2 * W, 2 * y * (2 * W) + 2 * x + 2 * W + 1, by omega, by omega, by omega, by omega, rfl⟩
theorem mean_in (xs : List Int) (d lo hi : Int) (h : meanOf xs d) (hb : ∀ i, i < xs.length → lo ≤ xs[i]?.getD 0 ∧ xs[i]?.getD 0 ≤ hi) : lo ≤ d ∧ d ≤ hi := by
  obtain ⟨i, j, l, m, h1, h2, h3, h4, rfl⟩ := h
  have a := hb i h1; have b := hb j h2; have c := hb l h3; have e := hb m h4
  omega
theorem hal_back (xs : List Int) (W H : Nat) (hl : xs.length = 2 * H * (2 * W)) (hc : chromaIn xs) (h1 : 1 ≤ W) (h2 : W ≤ 16) (h3 : 1 ≤ H) (h4 : H ≤ 16) :
    hal (dbl (tab (halAt xs W) (H * W)) W) ((2 * W : Nat) : Int) = tab (halAt xs W) (H * W) := by
  have hin : ∀ k, k < H * W → -255 ≤ halAt xs W k ∧ halAt xs W k ≤ 255 := fun k hk => mean_in xs _ _ _ (hal_mean xs W H k hl hk h1) hc
  generalize halAt xs W = f at hin
  have hdl : (tab f (H * W)).length = H * W := length_tab _ _
  have hd := dbl_ok (tab f (H * W)) W H hdl h1 h2 h3 h4
  have hget : ∀ y x, y < 2 * H → x < 2 * W → (dbl (tab f (H * W)) W)[y * (2 * W) + x]?.getD 0 = f (y / 2 * W + x / 2) := fun y x hy hx => by
    rw [hd, tab_get _ _ _ (row_lt _ _ _ _ hy hx), dblAt_row _ _ _ _ hx, tab_get _ _ _ (row_lt _ _ _ _ (by omega) (by omega))]
  have hlen : (dbl (tab f (H * W)) W).length = 2 * H * (2 * W) := by rw [hd, length_tab]
  have hch : chromaIn (dbl (tab f (H * W)) W) := fun i hi => by
    rw [hlen] at hi
    have e : i = i / (2 * W) * (2 * W) + i % (2 * W) := by rw [Nat.mul_comm]; exact (Nat.div_add_mod i (2 * W)).symm
    have hy : i / (2 * W) < 2 * H := (Nat.div_lt_iff_lt_mul (by omega)).2 hi
    have hx : i % (2 * W) < 2 * W := Nat.mod_lt _ (by omega)
    rw [e, hget _ _ hy hx]
    exact hin _ (row_lt _ _ _ _ (by omega) (by omega))
  rw [hal_ok _ W H hlen hch h1 h2 h3 h4]
  apply tab_congr
  intro k hk
  have hy : k / W < H := (Nat.div_lt_iff_lt_mul h1).2 hk
  have hx : k % W < W := Nat.mod_lt _ h1
  have e : k / W * W + k % W = k := by rw [Nat.mul_comm]; exact Nat.div_add_mod k W
  unfold halAt halSq
  generalize k / W = y at hy e
  generalize k % W = x at hx e
  have g0 := hget (2 * y) (2 * x) (by omega) (by omega)
  have g1 := hget (2 * y) (2 * x + 1) (by omega) (by omega)
  have g2 := hget (2 * y + 1) (2 * x) (by omega) (by omega)
  have g3 := hget (2 * y + 1) (2 * x + 1) (by omega) (by omega)
  rw [show (2 * y) / 2 = y by omega, show 2 * x / 2 = x by omega, e] at g0
  rw [show (2 * y) / 2 = y by omega, show (2 * x + 1) / 2 = x by omega, e] at g1
  rw [show (2 * y + 1) / 2 = y by omega, show 2 * x / 2 = x by omega, e] at g2
  rw [show (2 * y + 1) / 2 = y by omega, show (2 * x + 1) / 2 = x by omega, e] at g3
  rw [Nat.add_mul, Nat.one_mul] at g2 g3
  rw [show 2 * y * (2 * W) + 2 * x + 1 = 2 * y * (2 * W) + (2 * x + 1) by omega, show 2 * y * (2 * W) + 2 * x + 2 * W = 2 * y * (2 * W) + 2 * W + 2 * x by omega, show 2 * y * (2 * W) + 2 * W + 2 * x + 1 = 2 * y * (2 * W) + 2 * W + (2 * x + 1) by omega, g0, g1, g2, g3]
  omega
theorem hal_law (xs : List Int) (V : Nat) (h : (hal xs V).length ≠ 0) : 4 * (hal xs V).length = xs.length ∧ (∀ k, k < (hal xs V).length → meanOf xs ((hal xs V)[k]?.getD 0)) ∧ hal (dbl (hal xs V) ((V : Int) / 2)) V = hal xs V := by
  by_cases ho : halOk xs.length V ∧ chromaIn xs
  · obtain ⟨⟨W, H, hW, hl, h1, h2, h3, h4⟩, hc⟩ := ho
    have hVW : V = 2 * W := by omega
    subst hVW
    have e := hal_ok xs W H hl hc h1 h2 h3 h4
    rw [e, show ((2 * W : Nat) : Int) / 2 = (W : Int) by omega, length_tab]
    refine ⟨by rw [hl, show 2 * H * (2 * W) = 4 * (H * W) by rw [Nat.mul_mul_mul_comm]], fun k hk => ?_, hal_back xs W H hl hc h1 h2 h3 h4⟩
    rw [tab_get _ _ _ hk]
    exact hal_mean xs W H k hl hk h1
  · exact absurd (show (hal xs V).length = 0 by unfold hal; rw [if_neg ho]; rfl) h

theorem bnd_next (xs : List Int) (k : Nat) (l h l' h' : Int) (hb : ∀ i, i < k → l ≤ xs[i]?.getD 0 ∧ xs[i]?.getD 0 ≤ h) (h1 : l' ≤ l) (h2 : h ≤ h') (h3 : l' ≤ xs[k]?.getD 0) (h4 : xs[k]?.getD 0 ≤ h') :
    Hid (∀ i, i < k + 1 → l' ≤ xs[i]?.getD 0 ∧ xs[i]?.getD 0 ≤ h') := fun i hi => by
  rcases Nat.lt_or_ge i k with h' | h'
  · have := hb i h'; omega
  · obtain rfl : i = k := by omega
    exact ⟨h3, h4⟩

set_option maxRecDepth 100000 in
set_option maxHeartbeats 2000000 in
theorem walk_FnHalveChroma (w : World) (v0 : Value) (x0 : Option Addr × Nat × List Int) (h0 : ArgBytes w v0 x0) :
    Calls Try.prog 9 #[v0] w fun e w' => e = .returned (.bool true) ∧ Q w w' := by
  have hv := h0.1; have hm := h0.2.2.1; unfold maxLen at hm; generalize hn : x0.2.2.length = nn at hv hm; have HN := Lib.hid hn; clear hn; by_cases hbig : 1048576 < nn; (subst hv; go_enter Try.func9, Try.ntmps9; go_wp2_with fail; go_ret; exact ⟨rfl, Q.refl _⟩); have H0 : ArgBytes w (.slice x0.1 nn x0.2.1) x0 := (by rw [hv] at h0; exact h0); subst hv; clear h0; go_enter Try.func9, Try.ntmps9; go_wp2_with fail
  refine (DrawHalveChroma _ _ _ H0).mono ?_; rintro e w1 ⟨A, n, c, xs, v, rfl, hr, hn, hm, v1, v2, q1⟩
  obtain ⟨V, rfl⟩ := Int.eq_ofNat_of_zero_le v1
  have HR := Lib.hid hr
  have HN2 := Lib.hid hn
  have HLAW := Lib.hid (hal_law xs V)
  have hle := hal_len xs V
  clear hr hn
  generalize hd : hal xs (V : Int) = ds at HLAW hle
  generalize hdn : ds.length = d at HLAW hle
  have HD := Lib.hid hd
  have HDN := Lib.hid hdn
  clear hd hdn
  have hdm : d ≤ maxLen := by unfold maxLen; omega
  go_wp2_with fail
  refine (impl_Halve A n c _ _ xs _ HR.out (Nat.le_refl _) HN2.out (by omega)).mono ?_; rw [HD.out, HDN.out]; rintro e w2 ⟨v2', rfl, o2, q2⟩
  obtain ⟨A2, c2, rfl⟩ := o2.form
  go_wp2_with fail
  refine (spec_Halve A n c _ _ xs _ (HR.out.q q2 (Nat.le_refl _)) q2.size HN2.out (by omega)).mono ?_; rw [HD.out, HDN.out]; rintro e w3 ⟨v3, rfl, o3, q3⟩
  obtain ⟨A3, c3, rfl⟩ := o3.form
  go_wp2_with fail
  refine (sameInts A2 A3 d d c2 c3 _ _ ds ds _ (o2.q q3).rd o3.rd HDN.out HDN.out hdm hdm).mono ?_; rintro e w4 ⟨rfl, k4, rfl⟩
  rw [beq_self_eq_true]
  have Q4 : Q w (w3.drewN k4) := (by repeat (first | exact Q.refl _ | assumption | refine Q.drewN ?_ _ | refine Q.drew ?_ | refine Q.alloc ?_ _ | refine Q.trans ?_ (by assumption) | refine Q.set ?_ (by first | exact Nat.le_refl _ | omega | (simp; done) | (simp; omega)) _))
  have R4 := Lib.hid (((o2.q q3).drewN k4).rd)
  have RX := Lib.hid ((HR.out.q (q2.trans q3) (Nat.le_refl _)).drewN k4)
  have hs4 : w1.heap.size ≤ (w3.drewN k4).heap.size := ((q2.trans q3).drewN k4).size
  generalize w3.drewN k4 = w4 at R4 RX Q4 hs4 ⊢
  clear o2 o3 q2 q3 q1
  by_cases hd0 : d = 0
  · subst hd0
    go_wp2_with fail
    refine (alive _).mono ?_; rintro e w5 ⟨rfl, q5⟩
    go_wp2_with fail
    go_ret
    exact ⟨rfl, Q4.trans q5⟩
  have hd0' : ((d : Int) == 0) = false := by rw [beq_eq_false_iff_ne]; omega
  obtain ⟨hdl, hmean, hback⟩ := HLAW.out hd0
  rw [HN2.out] at hdl
  have HM := Lib.hid hmean
  have HB := Lib.hid hback
  have n4 : 4 ≤ n := by omega
  have d1 : 1 ≤ d := by omega
  clear hmean hback hd0
  have n4' : (0 : Int) < (n : Int) := by omega
  obtain ⟨g, o, rfl, hb, hc⟩ := RX.out (by rw [HN2.out]; omega)
  have HC := Lib.hid hc
  have hc0 : w4.cell? ⟨g, o, none⟩ = some (.int .i64 (xs[0]?.getD 0)) := hc 0 (by rw [HN2.out]; omega)
  clear hc
  have hb0 : Hid (∀ i, i < 0 → xs[0]?.getD 0 ≤ xs[i]?.getD 0 ∧ xs[i]?.getD 0 ≤ xs[0]?.getD 0) := fun i hi => absurd hi (by omega)
  have HX0 : ∃ y, xs[0]?.getD 0 = y := ⟨_, rfl⟩
  obtain ⟨y0, hy0⟩ := HX0
  have HY0 := Lib.hid hy0
  rw [hy0] at hc0 hb0
  clear hy0
  go_wp2_with fail
  go_loop [6, 7, 8] (fun lo hi i => ∃ (k : Nat) (l h : Int), k ≤ n ∧ i = .int .i64 k ∧ lo = .int .i64 l ∧ hi = .int .i64 h ∧ Hid (∀ i, i < k → l ≤ xs[i]?.getD 0 ∧ xs[i]?.getD 0 ≤ h)) (fun _ _ i => n - (intOf i).toNat)
  case atStart => exact ⟨0, _, _, Nat.zero_le _, rfl, rfl, rfl, hb0⟩
  case round =>
    obtain ⟨k, l, h, hk, rfl, rfl, rfl, hbn⟩ := hrel
    clear hb0 hc0
    by_cases hlt : k < n
    · have hck := HC.out k (by rw [HN2.out]; exact hlt)
      have hnx := Lib.hid (bnd_next xs k l h)
      generalize xs[k]?.getD 0 = x at hck hnx
      rcases Int.lt_trichotomy x l with hxl | hxl | hxl <;> rcases Int.lt_trichotomy x h with hxh | hxh | hxh
      all_goals
        go_wp2_with fail
        all_goals
          go_round
          case rel => exact ⟨k + 1, _, _, by omega, by go_num, rfl, rfl, hnx.out _ _ hbn.out (by omega) (by omega) (by omega) (by omega)⟩
          case measure => simp [intOf]; omega
    · have hkn : k = n := by omega
      subst hkn
      have HBN : Hid (∀ j, j < d → l ≤ ds[j]?.getD 0 ∧ ds[j]?.getD 0 ≤ h) := fun j hj => mean_in xs _ _ _ (HM.out j hj) (fun i hi => hbn.out i (by rw [← HN2.out]; exact hi))
      obtain ⟨g2, o2, rfl, hb2, hc2⟩ := R4.out (by rw [HDN.out]; omega)
      have HC2 := Lib.hid hc2
      clear hc2
      go_wp2_with fail
      go_loop [9] (fun i => ∃ j : Nat, j ≤ d ∧ i = .int .i64 j) (fun i => d - (intOf i).toNat)
      case atStart => exact ⟨0, Nat.zero_le _, rfl⟩
      case round =>
        obtain ⟨j, hj, rfl⟩ := hrel
        by_cases hltj : j < d
        · have hcj := HC2.out j (by rw [HDN.out]; exact hltj)
          obtain ⟨b1, b2⟩ := HBN.out j hltj
          generalize ds[j]?.getD 0 = y at hcj b1 b2
          go_wp2_with fail
          go_round
          case rel => exact ⟨j + 1, by omega, by go_num⟩
          case measure => simp [intOf]; omega
        · have hdle := dbl_len ds ((V : Int) / 2)
          have hjd : j = d := by omega
          subst hjd
          generalize hes : dbl ds ((V : Int) / 2) = es at HB hdle
          generalize hen : es.length = en at hdle
          have HES := Lib.hid hes
          have HEN := Lib.hid hen
          clear hes hen
          have he4 : ((4 : Int) * (j : Int) == (k : Int)) = true := by rw [beq_iff_eq]; omega
          go_wp2_with fail
          refine (impl_Double _ j c2 _ _ ds _ R4.out (Nat.le_refl _) HDN.out (by omega)).mono ?_; rw [HES.out, HEN.out]; rintro e w5 ⟨v5, rfl, o5, q5⟩
          obtain ⟨A5, c5, rfl⟩ := o5.form
          go_wp2_with fail
          refine (impl_Halve A5 en c5 _ _ es _ o5.rd (Nat.le_refl _) HEN.out (by omega)).mono ?_; rw [HB.out, HDN.out]; rintro e w6 ⟨v6, rfl, o6, q6⟩
          obtain ⟨A6, c6, rfl⟩ := o6.form
          go_wp2_with fail
          refine (sameInts A6 _ j j c6 c2 _ _ ds ds _ o6.rd (R4.out.q (q5.trans q6) (Nat.le_refl _)) HDN.out HDN.out hdm hdm).mono ?_; rintro e w7 ⟨rfl, k7, rfl⟩
          rw [beq_self_eq_true]
          go_wp2_with fail
          go_ret
          exact ⟨rfl, (by repeat (first | exact Q.refl _ | assumption | refine Q.drewN ?_ _ | refine Q.drew ?_ | refine Q.alloc ?_ _ | refine Q.trans ?_ (by assumption) | refine Q.set ?_ (by first | exact Nat.le_refl _ | omega | (simp; done) | (simp; omega)) _))⟩

set_option maxRecDepth 100000 in
theorem lifted_FnHalveChroma (os : Os) (started : os.Started) (H : Type) (enc : TypeId × Value → H) :
    ReturnsInHanded {} Try.checked os 9 .any (Rows.fnHalveChromaSpec.pre6 enc Try.prog Try.f9 Rows.fnHalveChromaRow.domain false) (Rows.fnHalveChromaSpec.post enc Try.prog Try.f9 false true false false) := by
  refine returnsInHanded_of_change (C := Try.checked) own_knob started (by kernel_rfl) Try.func9
    (ChangeSpec.witness6 (enc := enc) (C := Try.checked) false ⟨#[], #[.slice none 0 0], []⟩ 8 (by kernel_rfl) (by kernel_rfl) (by kernel_rfl) (by kernel_rfl)) ?_
  intro W base args ds gs before hval0 hW hcnd _
  have hval : ∀ (j : Nat) t v, Try.f9.params[j]? = some t → args[j]? = some v → Value.okWide Try.prog W .any base t v := hval0
  have hW' := hW
  obtain ⟨p, q, hA0, hV, rfl, hfz, hnd⟩ := hW
  have hA : DataW.TrodAll enc Try.prog W 0 (fun _ => true) true Try.f9.params.toList args.toList ds p := hA0
  rw [Try.params9] at hA hval
  obtain ⟨v0, vs0, d0, ds0, p0, q0, hargs, rfl, rfl, h0, r0⟩ := trodAll_cons hA
  obtain ⟨rfl, rfl, rfl⟩ := trodAll_nil r0
  obtain rfl : args = #[v0] := by cases args; simp_all
  obtain ⟨rfl, rfl⟩ := trodVars_none hV
  have k0 := h0
  have lt0 : ∀ x ∈ p0, x.block < W.heap.size := by obtain ⟨m, hm⟩ := k0; exact DataW.trod_lt m _ _ _ hm
  obtain ⟨x0, o0⟩ := open_bytes (hval 0 22 v0 rfl rfl) h0
  clear hA0 hval0
  refine (walk_FnHalveChroma W v0 x0 o0).mono fun e W' ⟨he, bel⟩ => ?_
  subst he
  exact ⟨_, rfl, _, _, _, [], _, [], hW', trodAll_mk1 (shut_bool Try.underlying4 _), (trodAll_cons_mk (Below.trod laid_out (by kernel_rfl) (of_decide_eq_true (by kernel_rfl)) k0 bel lt0) trodAll_mk0), rfl, bel.frame _, fun h => by cases h⟩

/-- The statement. -/
theorem FnHalveChroma_holds : Rows.FnHalveChromaSaid :=
  OpenClaim.holds_of_wide 9 Try.f9 rfl rfl rfl rfl rfl rfl rfl ⟨rfl, rfl, rfl, rfl, rfl⟩ rfl rfl rfl rfl rfl (by kernel_rfl) Try.func9 (by kernel_rfl)
    (of_decide_eq_true (by kernel_rfl)) (by unfold Func.isWrapper; first | (rw [if_pos (by decide +kernel)]; kernel_rfl) | (rw [if_neg (by decide +kernel)]; exact ⟨rfl, rfl⟩))
    (fun os started H enc _ => lifted_FnHalveChroma os started H enc)
#print axioms FnHalveChroma_holds
end Go.Proofs.Ytnmegieibcmhcaa

/-
  FnWaveOrder: whatever grid the code draws, WaveOrder returns what the reference's returns: a valid order, along which the steps do not decrease; and the order row by row is valid; so the law returns true. No condition.
-/
import Derived.Test.YtnmegieibcmhcaaDrawW
import Derived.Test.YtnmegieibcmhcaaWOrder2
import Derived.Test.YtnmegieibcmhcaaOrder2
import Derived.Test.YtnmegieibcmhcaaPict
import Derived.Test.YtnmegieibcmhcaaSame
namespace Go.Proofs.Ytnmegieibcmhcaa
open Go.ChangeShapes Go.WideShapes Go.ChangeAt Go.RowKit

theorem facts_fin : ∀ c : Fin 5, ∀ r : Fin 5, 1 ≤ c.1 → 1 ≤ r.1 → orderValid c.1 r.1 (waveOrder c.1 r.1) = true ∧ orderValid c.1 r.1 (upFrom 0 (waveOrder c.1 r.1).length) = true ∧ 1 ≤ (waveOrder c.1 r.1).length ∧
    ∀ k : Fin 16, k.1 + 1 < (waveOrder c.1 r.1).length → waveStep c.1 r.1 ((waveOrder c.1 r.1)[k.1]?.getD 0) ≤ waveStep c.1 r.1 ((waveOrder c.1 r.1)[k.1 + 1]?.getD 0) := by decide +kernel
theorem order_facts {c r : Int} (h : sizeOk c r) : orderValid c r (waveOrder c r) = true ∧ orderValid c r (upFrom 0 (waveOrder c r).length) = true ∧ 1 ≤ (waveOrder c r).length ∧
    ∀ k, k + 1 < (waveOrder c r).length → waveStep c r ((waveOrder c r)[k]?.getD 0) ≤ waveStep c r ((waveOrder c r)[k + 1]?.getD 0) := by
  obtain ⟨h1, h2, h3, h4⟩ := h
  obtain ⟨c, rfl⟩ := Int.eq_ofNat_of_zero_le (show 0 ≤ c by omega)
  obtain ⟨r, rfl⟩ := Int.eq_ofNat_of_zero_le (show 0 ≤ r by omega)
  obtain ⟨a, b, d, e⟩ := facts_fin ⟨c, by omega⟩ ⟨r, by omega⟩ (by show 1 ≤ c; omega) (by show 1 ≤ r; omega)
  refine ⟨a, b, d, fun k hk => e ⟨k, ?_⟩ hk⟩
  have := order_le c r
  omega
theorem step_range (c r n : Int) : -1 ≤ waveStep c r n ∧ waveStep c r n ≤ 1000 := by
  unfold waveStep stepVal
  split
  · rename_i h
    have := size_le h.1
    obtain ⟨⟨h1, h2, h3, h4⟩, h5, h6⟩ := h
    have a := Int.ediv_le_self c h5
    have b := Int.emod_lt_of_pos n (show 0 < c by omega)
    have d := Int.emod_nonneg n (show c ≠ 0 by omega)
    have e : 0 ≤ n / c := Int.ediv_nonneg h5 (by omega)
    split <;> omega
  · omega

set_option maxRecDepth 100000 in
set_option maxHeartbeats 4000000 in
theorem walk_FnWaveOrder (w : World) (v0 : Value) (x0 : Option Addr × Nat × List Int) (h0 : ArgBytes w v0 x0) :
    Calls Try.prog 13 #[v0] w fun e w' => e = .returned (.bool true) ∧ Q w w' := by
  have hv := h0.1; have hm := h0.2.2.1; unfold maxLen at hm; generalize hn : x0.2.2.length = nn at hv hm; have HN := Lib.hid hn; clear hn; by_cases hbig : 1048576 < nn; (subst hv; go_enter Try.func13, Try.ntmps13; go_wp2_with fail; go_ret; exact ⟨rfl, Q.refl _⟩); have H0 : ArgBytes w (.slice x0.1 nn x0.2.1) x0 := (by rw [hv] at h0; exact h0); subst hv; clear h0; go_enter Try.func13, Try.ntmps13; go_wp2_with fail
  refine (DrawWaveOrder _ _ _ H0).mono ?_; rintro e w1 ⟨a, b, rfl, hab, q1⟩
  have Hab := Lib.hid hab
  clear hab
  have HF := Lib.hid (fun h : sizeOk a b => order_facts h)
  have hle := order_le a b
  have HNO : Hid (¬ sizeOk a b → (waveOrder a b).length = 0 ∧ orderValid a b (waveOrder a b) = false) := fun h => ⟨by unfold waveOrder; rw [if_neg h]; rfl, order_no (fun h' => h h'.1)⟩
  generalize hxs : waveOrder a b = xs at HF hle HNO
  generalize hn : xs.length = n at HF hle HNO
  have HX := Lib.hid hxs
  have HN2 := Lib.hid hn
  clear hxs hn
  have hm : n ≤ maxLen := by unfold maxLen; omega
  go_wp2_with fail
  refine (impl_WaveOrder _ _ _).mono ?_; rw [HX.out, HN2.out]; rintro e w2 ⟨v2, rfl, o2, q2⟩
  obtain ⟨A2, c2, rfl⟩ := o2.form
  go_wp2_with fail
  refine (spec_WaveOrder _ _ _).mono ?_; rw [HX.out, HN2.out]; rintro e w3 ⟨v3, rfl, o3, q3⟩
  obtain ⟨A3, c3, rfl⟩ := o3.form
  go_wp2_with fail
  refine (sameInts A2 A3 n n c2 c3 _ _ xs xs _ (o2.q q3).rd o3.rd HN2.out HN2.out hm hm).mono ?_; rintro e w4 ⟨rfl, k4, rfl⟩
  rw [beq_self_eq_true]
  have Q4 : Q w (w3.drewN k4) := (by repeat (first | exact Q.refl _ | assumption | refine Q.drewN ?_ _ | refine Q.drew ?_ | refine Q.alloc ?_ _ | refine Q.trans ?_ (by assumption) | refine Q.set ?_ (by first | exact Nat.le_refl _ | omega | (simp; done) | (simp; omega)) _))
  have R4 := Lib.hid (((o2.q q3).drewN k4).rd)
  generalize w3.drewN k4 = w4 at R4 Q4 ⊢
  clear o2 o3 q2 q3 q1
  by_cases hs : sizeOk a b
  · obtain ⟨f1, f2, f3, f4⟩ := HF.out hs
    have F1 := Lib.hid f1
    have F2 := Lib.hid f2
    have F4 := Lib.hid f4
    clear f1 f2 f4 hs HNO HF
    have hn0 : ((n : Int) == 0) = false := by rw [beq_eq_false_iff_ne]; omega
    obtain ⟨g, o, rfl, hb, hc⟩ := R4.out (by rw [HN2.out]; omega)
    have HC := Lib.hid hc
    have HO : Hid (Own (w4.alloc (.cells #[] 3)) w4.heap.size (.slice (some ⟨w4.heap.size, 0, none⟩) 0 0) 0 (upFrom 0 0)) := Own.lit0 w4 _ (Nat.le_refl _)
    have HQ : Hid (Q w4 (w4.alloc (.cells #[] 3))) := (Q.refl _).alloc _
    clear hc
    go_wp2_with fail
    go_loopw [6, 7] (fun v i wr => ∃ k : Nat, k ≤ n ∧ i = .int .i64 k ∧ Own wr w4.heap.size v k (upFrom 0 k) ∧ Q w4 wr) (fun _ i _ => n - (intOf i).toNat)
    case atStart => exact ⟨0, Nat.zero_le _, rfl, HO.out, HQ.out⟩
    case round =>
      obtain ⟨k, hk, rfl, ho, hq⟩ := hrel
      have hsz := hq.size
      clear HO HQ
      by_cases hlt : k < n
      · have hup := upFrom_succ 0 k
        rw [Int.zero_add] at hup
        have HUP := Lib.hid hup
        clear hup
        go_wp2_with (at_builtin; refine wpList_append_int rfl _ _ rfl w4 w4.heap.size _ _ _ rfl (ho.alloc _) ⟨_, 0, none⟩ _ _ rfl (by omega) (Nat.le_refl _) (by rw [World.size_alloc]; omega) (hq.alloc _) (World.cell?_alloc_new _ _ _ _) ?_; intro v5 w5 o5 q5 s5 _)
        rw [← HUP.out] at o5
        have O5 := Lib.hid o5
        have Q5 := Lib.hid q5
        clear ho hq o5 hsz s5
        cases k with
        | zero =>
          refine wp_region_aft (by kernel_rfl) (by kernel_rfl) ?_
          repeat (go_big_quiet_step (fail))
          refine wpQuiet_nil ?_
          rintro w6 ⟨⟨_, q6⟩, rfl⟩
          go_wp2_with fail
          go_roundw
          case rel => exact ⟨0 + 1, by omega, by go_num, O5.out.q q6, Q5.out.trans q6⟩
          case measure => simp [intOf]; omega
        | succ j =>
          have ax : ∀ x : Aft w5, x.at_.cell? ⟨g, o + (j + 1), none⟩ = _ := fun x => ((Q5.out.trans x.q).cell g _ hb).trans (HC.out (j + 1) (by rw [HN2.out]; exact hlt))
          have ay : ∀ x : Aft w5, x.at_.cell? ⟨g, o + j, none⟩ = _ := fun x => ((Q5.out.trans x.q).cell g _ hb).trans (HC.out j (by rw [HN2.out]; omega))
          have hst := F4.out j hlt
          generalize xs[j + 1]?.getD 0 = x at ax hst
          generalize xs[j]?.getD 0 = y at ay hst
          have T1 : Hid (∀ w : World, Calls Try.prog 32 #[.int .i64 a, .int .i64 b, .int .i64 x] w fun e w' => e = .returned (.int .i64 (waveStep a b x)) ∧ Q w w') := fun w => impl_WaveStep a b x w
          have T2 : Hid (∀ w : World, Calls Try.prog 32 #[.int .i64 a, .int .i64 b, .int .i64 y] w fun e w' => e = .returned (.int .i64 (waveStep a b y)) ∧ Q w w') := fun w => impl_WaveStep a b y w
          generalize waveStep a b x = sx at T1 hst
          generalize waveStep a b y = sy at T2 hst
          have t1 : decide (sx < sy) = false := by simp; omega
          have jz : (j : Int) + 1 < (n : Int) := by omega
          have jz1 : (j : Int) < (n : Int) := by omega
          have hwp : IntKind.i64.wrap (j : Int) = (j : Int) := IntWalk.i64_in _ ⟨by omega, by omega⟩
          have p0 : (0 : Int) ≤ (j : Int) + 1 := by omega
          have p1 : (0 : Int) < (j : Int) + 1 := by omega
          have e0 : ((j : Int) + 1).toNat = j + 1 := by omega
          refine wp_region_aft (by kernel_rfl) (by kernel_rfl) ?_
          repeat (go_big_quiet_step (first | (go_at_call_of 32 x; exact Calls.aft (T1.out _)) | (go_at_call_of 32 y; exact Calls.aft (T2.out _))))
          refine wpQuiet_nil ?_
          rintro w6 ⟨⟨_, q6⟩, rfl⟩
          clear ax ay hwp
          go_wp2_with fail
          go_roundw
          case rel => exact ⟨j + 1 + 1, by omega, by go_num, O5.out.q q6, Q5.out.trans q6⟩
          case measure => simp [intOf]; omega
      · have hkn : k = n := by omega
        subst hkn
        obtain ⟨A5, c5, rfl⟩ := ho.form
        have R5 := Lib.hid ho.rd
        have HUL := Lib.hid (length_upFrom 0 k)
        have HQ5 := Lib.hid hq
        clear ho hq
        have hmm : k ≤ 9223372036854775807 := by omega
        go_wp2_with fail
        refine (impl_OrderValid _ _ _ k c2 w4.heap.size xs _ (R4.out.q HQ5.out (Nat.le_refl _)) hsz HN2.out hmm).mono ?_; rw [F1.out]; rintro e w6 ⟨rfl, q6⟩
        go_wp2_with fail
        refine (impl_OrderValid _ _ A5 k c5 _ (upFrom 0 k) _ (R5.out.q q6 (Nat.le_refl _)) q6.size HUL.out hmm).mono ?_; rw [F2.out]; rintro e w7 ⟨rfl, q7⟩
        go_wp2_with fail
        go_ret
        exact ⟨rfl, ((Q4.trans HQ5.out).trans q6).trans q7⟩
  · obtain ⟨f1, f2⟩ := HNO.out hs
    have F2 := Lib.hid f2
    clear hs HNO HF f2
    subst f1
    go_wp2_with fail
    refine (impl_OrderValid _ _ A2 0 c2 w4.heap.size xs _ R4.out (Nat.le_refl _) HN2.out (by omega)).mono ?_; rw [F2.out]; rintro e w6 ⟨rfl, q6⟩
    go_wp2_with fail
    refine (alive _).mono ?_; rintro e w7 ⟨rfl, q7⟩
    go_wp2_with fail
    go_ret
    exact ⟨rfl, (Q4.trans q6).trans q7⟩

set_option maxRecDepth 100000 in
theorem lifted_FnWaveOrder (os : Os) (started : os.Started) (H : Type) (enc : TypeId × Value → H) :
    ReturnsInHanded {} Try.checked os 13 .any (Rows.fnWaveOrderSpec.pre6 enc Try.prog Try.f13 Rows.fnWaveOrderRow.domain false) (Rows.fnWaveOrderSpec.post enc Try.prog Try.f13 false true false false) := by
  refine returnsInHanded_of_change (C := Try.checked) own_knob started (by kernel_rfl) Try.func13
    (ChangeSpec.witness6 (enc := enc) (C := Try.checked) false ⟨#[], #[.slice none 0 0], []⟩ 8 (by kernel_rfl) (by kernel_rfl) (by kernel_rfl) (by kernel_rfl)) ?_
  intro W base args ds gs before hval0 hW hcnd _
  have hval : ∀ (j : Nat) t v, Try.f13.params[j]? = some t → args[j]? = some v → Value.okWide Try.prog W .any base t v := hval0
  have hW' := hW
  obtain ⟨p, q, hA0, hV, rfl, hfz, hnd⟩ := hW
  have hA : DataW.TrodAll enc Try.prog W 0 (fun _ => true) true Try.f13.params.toList args.toList ds p := hA0
  rw [Try.params13] at hA hval
  obtain ⟨v0, vs0, d0, ds0, p0, q0, hargs, rfl, rfl, h0, r0⟩ := trodAll_cons hA
  obtain ⟨rfl, rfl, rfl⟩ := trodAll_nil r0
  obtain rfl : args = #[v0] := by cases args; simp_all
  obtain ⟨rfl, rfl⟩ := trodVars_none hV
  have k0 := h0
  have lt0 : ∀ x ∈ p0, x.block < W.heap.size := by obtain ⟨m, hm⟩ := k0; exact DataW.trod_lt m _ _ _ hm
  obtain ⟨x0, o0⟩ := open_bytes (hval 0 22 v0 rfl rfl) h0
  clear hA0 hval0
  refine (walk_FnWaveOrder W v0 x0 o0).mono fun e W' ⟨he, bel⟩ => ?_
  subst he
  exact ⟨_, rfl, _, _, _, [], _, [], hW', trodAll_mk1 (shut_bool Try.underlying4 _), (trodAll_cons_mk (Below.trod laid_out (by kernel_rfl) (of_decide_eq_true (by kernel_rfl)) k0 bel lt0) trodAll_mk0), rfl, bel.frame _, fun h => by cases h⟩

/-- The statement. -/
theorem FnWaveOrder_holds : Rows.FnWaveOrderSaid :=
  OpenClaim.holds_of_wide 13 Try.f13 rfl rfl rfl rfl rfl rfl rfl ⟨rfl, rfl, rfl, rfl, rfl⟩ rfl rfl rfl rfl rfl (by kernel_rfl) Try.func13 (by kernel_rfl)
    (of_decide_eq_true (by kernel_rfl)) (by unfold Func.isWrapper; first | (rw [if_pos (by decide +kernel)]; kernel_rfl) | (rw [if_neg (by decide +kernel)]; exact ⟨rfl, rfl⟩))
    (fun os started H enc _ => lifted_FnWaveOrder os started H enc)
#print axioms FnWaveOrder_holds
end Go.Proofs.Ytnmegieibcmhcaa

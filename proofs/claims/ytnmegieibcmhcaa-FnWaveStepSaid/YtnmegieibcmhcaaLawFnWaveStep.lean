/-
  FnWaveStep: whatever the code draws, WaveStep returns what the reference's returns, and one more than the latest step of what the macroblock needs; so the law returns true. No condition.
-/
import Derived.Test.YtnmegieibcmhcaaGrid
import Derived.Test.YtnmegieibcmhcaaNeeds2
import Derived.Test.YtnmegieibcmhcaaPict
namespace Go.Proofs.Ytnmegieibcmhcaa
open Go.ChangeShapes Go.WideShapes Go.ChangeAt Go.RowKit

def mostNext (c r m x : Int) : Int := if m < waveStep c r x then waveStep c r x else m
def mostOf (c r : Int) (xs : List Int) : Int := xs.foldl (mostNext c r) (-1)
theorem most_fin : ∀ c : Fin 5, ∀ r : Fin 5, ∀ n : Fin 16, 1 ≤ c.1 → 1 ≤ r.1 → n.1 < c.1 * r.1 → waveStep c.1 r.1 n.1 = mostOf c.1 r.1 (needsV c.1 n.1) + 1 ∧ waveStep c.1 r.1 n.1 ≤ 16 ∧ 0 ≤ waveStep c.1 r.1 n.1 := by decide +kernel
theorem most_law {c r n : Int} (h : sizeOk c r ∧ 0 ≤ n ∧ n < c * r) : waveStep c r n = mostOf c r (needsV c n) + 1 ∧ waveStep c r n ≤ 16 ∧ 0 ≤ waveStep c r n := by
  have hcr := size_le h.1
  obtain ⟨⟨h1, h2, h3, h4⟩, h5, h6⟩ := h
  obtain ⟨c, rfl⟩ := Int.eq_ofNat_of_zero_le (show 0 ≤ c by omega)
  obtain ⟨r, rfl⟩ := Int.eq_ofNat_of_zero_le (show 0 ≤ r by omega)
  obtain ⟨n, rfl⟩ := Int.eq_ofNat_of_zero_le h5
  have h7 : n < c * r := by exact_mod_cast h6
  exact most_fin ⟨c, by omega⟩ ⟨r, by omega⟩ ⟨n, by omega⟩ (by show 1 ≤ c; omega) (by show 1 ≤ r; omega) h7
theorem waveStep_le (c r n : Int) : -1 ≤ waveStep c r n ∧ waveStep c r n ≤ 16 := by
  by_cases h : sizeOk c r ∧ 0 ≤ n ∧ n < c * r
  · have := most_law h; omega
  · unfold waveStep; rw [if_neg h]; omega
theorem most_le (c r : Int) (xs : List Int) : -1 ≤ mostOf c r xs ∧ mostOf c r xs ≤ 16 := by
  unfold mostOf
  suffices ∀ m : Int, -1 ≤ m ∧ m ≤ 16 → -1 ≤ xs.foldl (mostNext c r) m ∧ xs.foldl (mostNext c r) m ≤ 16 from this (-1) (by omega)
  induction xs with
  | nil => intro m h; exact h
  | cons x xs ih => intro m h; exact ih _ (by have := waveStep_le c r x; unfold mostNext; split <;> omega)
theorem most_succ (c r : Int) (xs : List Int) (k : Nat) (h : k < xs.length) : mostOf c r (xs.take (k + 1)) = mostNext c r (mostOf c r (xs.take k)) (xs[k]?.getD 0) := by
  unfold mostOf
  rw [take_succ_getD _ _ h, List.foldl_append]
  rfl

set_option maxRecDepth 100000 in
set_option maxHeartbeats 2000000 in
theorem walk_FnWaveStep (w : World) (v0 : Value) (x0 : Option Addr × Nat × List Int) (h0 : ArgBytes w v0 x0) :
    Calls Try.prog 7 #[v0] w fun e w' => e = .returned (.bool true) ∧ Q w w' := by
  have hv := h0.1; have hm := h0.2.2.1; unfold maxLen at hm; generalize hn : x0.2.2.length = nn at hv hm; have HN := Lib.hid hn; clear hn; by_cases hbig : 1048576 < nn; (subst hv; go_enter Try.func7, Try.ntmps7; go_wp2_with fail; go_ret; exact ⟨rfl, Q.refl _⟩); have H0 : ArgBytes w (.slice x0.1 nn x0.2.1) x0 := (by rw [hv] at h0; exact h0); subst hv; clear h0; go_enter Try.func7, Try.ntmps7; go_wp2_with fail
  refine (DrawWaveStep _ _ _ H0).mono ?_; rintro e w1 ⟨a, b, n, rfl, hab, q1⟩
  have hs := waveStep_le a b n
  have Hab := Lib.hid hab
  clear hab
  by_cases hok : sizeOk a b ∧ 0 ≤ n ∧ n < a * b
  · obtain ⟨l1, l2, l3⟩ := most_law hok
    have HN' : Hid (needs a b n = needsV a n) := by unfold Hid needs; rw [if_pos hok]
    have hle := needs_le a n
    have HL : Hid (waveStep a b n = mostOf a b (needsV a n) + 1) := l1
    generalize hsv : waveStep a b n = s at hs l1 l2 l3
    have HS := Lib.hid hsv
    clear hsv l1 hok hs
    generalize hxs : needsV a n = xs at hle HL HN'
    generalize hln : xs.length = ln at hle
    have HX := Lib.hid hln
    clear hxs hln
    go_wp2_with fail
    refine (impl_WaveStep _ _ _ _).mono ?_; rw [HS.out]; rintro e w2 ⟨rfl, q2⟩
    go_wp2_with fail
    refine (spec_WaveStep _ _ _ _).mono ?_; rw [HS.out]; rintro e w3 ⟨rfl, k3, rfl⟩
    go_wp2_with fail
    refine (impl_WaveNeeds _ _ _ _).mono ?_; rw [HN'.out, HX.out]; rintro e w4 ⟨v4, rfl, o4, q4⟩
    obtain ⟨A4, c4, rfl⟩ := o4.form
    have Q4 : Q w w4 := (by repeat (first | exact Q.refl _ | assumption | refine Q.drewN ?_ _ | refine Q.drew ?_ | refine Q.alloc ?_ _ | refine Q.trans ?_ (by assumption) | refine Q.set ?_ (by first | exact Nat.le_refl _ | omega | (simp; done) | (simp; omega)) _))
    have r4 := o4.rd
    have R4 := Lib.hid r4
    clear r4 o4
    go_wp2_with fail
    go_loopw [8, 9] (fun m i wr => ∃ k : Nat, k ≤ ln ∧ i = .int .i64 k ∧ m = .int .i64 (mostOf a b (xs.take k)) ∧ Q w4 wr) (fun _ i _ => ln - (intOf i).toNat)
    case atStart => exact ⟨0, Nat.zero_le _, rfl, rfl, Q.refl _⟩
    case round =>
      obtain ⟨k, hk, rfl, rfl, qr⟩ := hrel
      by_cases hlt : k < ln
      · have ms := most_succ a b xs k (by rw [HX.out]; exact hlt)
        unfold mostNext at ms
        obtain ⟨g, o, rfl, hb, hc⟩ := R4.out (by rw [HX.out]; omega)
        have hc := (qr.cell g _ hb).trans (hc k (by rw [HX.out]; exact hlt))
        generalize xs[k]?.getD 0 = x at ms hc
        have hws := waveStep_le a b x
        have MS := Lib.hid ms
        clear ms
        generalize hwx : waveStep a b x = sx at MS hws
        have WX := Lib.hid hwx
        clear hwx
        generalize mostOf a b (xs.take k) = mk at MS
        by_cases hlt2 : mk < sx
        · go_wp2_with fail
          refine (impl_WaveStep _ _ _ _).mono ?_; rw [WX.out]; rintro e w5 ⟨rfl, q5⟩
          go_wp2_with fail
          go_roundw
          case rel => exact ⟨k + 1, by omega, by go_num, by rw [MS.out, if_pos hlt2], qr.trans q5⟩
          case measure => simp [intOf]; omega
        · go_wp2_with fail
          refine (impl_WaveStep _ _ _ _).mono ?_; rw [WX.out]; rintro e w5 ⟨rfl, q5⟩
          go_wp2_with fail
          go_roundw
          case rel => exact ⟨k + 1, by omega, by go_num, by rw [MS.out, if_neg (by omega)], qr.trans q5⟩
          case measure => simp [intOf]; omega
      · have : k = ln := by omega
        subst this
        have hm := most_le a b (xs.take k)
        have he : s = mostOf a b (xs.take k) + 1 := by
          rw [List.take_of_length_le (Nat.le_of_eq HX.out), ← HL.out, HS.out]
        generalize mostOf a b (xs.take k) = mk at hm he ⊢
        subst he
        go_wp2_with fail
        go_ret
        exact ⟨by simp, Q4.trans qr⟩
  · have hs : waveStep a b n = -1 := by unfold waveStep; rw [if_neg hok]
    have HS := Lib.hid hs
    clear hs hok
    go_wp2_with fail
    refine (impl_WaveStep _ _ _ _).mono ?_; rw [HS.out]; rintro e w2 ⟨rfl, q2⟩
    go_wp2_with fail
    refine (spec_WaveStep _ _ _ _).mono ?_; rw [HS.out]; rintro e w3 ⟨rfl, k3, rfl⟩
    go_wp2_with fail
    refine (alive _).mono ?_; rintro e w4 ⟨rfl, q4⟩
    go_wp2_with fail
    go_ret
    exact ⟨rfl, (by repeat (first | exact Q.refl _ | assumption | refine Q.drewN ?_ _ | refine Q.drew ?_ | refine Q.alloc ?_ _ | refine Q.trans ?_ (by assumption) | refine Q.set ?_ (by first | exact Nat.le_refl _ | omega | (simp; done) | (simp; omega)) _))⟩

set_option maxRecDepth 100000 in
theorem lifted_FnWaveStep (os : Os) (started : os.Started) (H : Type) (enc : TypeId × Value → H) :
    ReturnsInHanded {} Try.checked os 7 .any (Rows.fnWaveStepSpec.pre6 enc Try.prog Try.f7 Rows.fnWaveStepRow.domain false) (Rows.fnWaveStepSpec.post enc Try.prog Try.f7 false true false false) := by
  refine returnsInHanded_of_change (C := Try.checked) own_knob started (by kernel_rfl) Try.func7
    (ChangeSpec.witness6 (enc := enc) (C := Try.checked) false ⟨#[], #[.slice none 0 0], []⟩ 8 (by kernel_rfl) (by kernel_rfl) (by kernel_rfl) (by kernel_rfl)) ?_
  intro W base args ds gs before hval0 hW hcnd _
  have hval : ∀ (j : Nat) t v, Try.f7.params[j]? = some t → args[j]? = some v → Value.okWide Try.prog W .any base t v := hval0
  have hW' := hW
  obtain ⟨p, q, hA0, hV, rfl, hfz, hnd⟩ := hW
  have hA : DataW.TrodAll enc Try.prog W 0 (fun _ => true) true Try.f7.params.toList args.toList ds p := hA0
  rw [Try.params7] at hA hval
  obtain ⟨v0, vs0, d0, ds0, p0, q0, hargs, rfl, rfl, h0, r0⟩ := trodAll_cons hA
  obtain ⟨rfl, rfl, rfl⟩ := trodAll_nil r0
  obtain rfl : args = #[v0] := by cases args; simp_all
  obtain ⟨rfl, rfl⟩ := trodVars_none hV
  have k0 := h0
  have lt0 : ∀ x ∈ p0, x.block < W.heap.size := by obtain ⟨m, hm⟩ := k0; exact DataW.trod_lt m _ _ _ hm
  obtain ⟨x0, o0⟩ := open_bytes (hval 0 22 v0 rfl rfl) h0
  clear hA0 hval0
  refine (walk_FnWaveStep W v0 x0 o0).mono fun e W' ⟨he, bel⟩ => ?_
  subst he
  exact ⟨_, rfl, _, _, _, [], _, [], hW', trodAll_mk1 (shut_bool Try.underlying4 _), (trodAll_cons_mk (Below.trod laid_out (by kernel_rfl) (of_decide_eq_true (by kernel_rfl)) k0 bel lt0) trodAll_mk0), rfl, bel.frame _, fun h => by cases h⟩

/-- The statement. -/
theorem FnWaveStep_holds : Rows.FnWaveStepSaid :=
  OpenClaim.holds_of_wide 7 Try.f7 rfl rfl rfl rfl rfl rfl rfl ⟨rfl, rfl, rfl, rfl, rfl⟩ rfl rfl rfl rfl rfl (by kernel_rfl) Try.func7 (by kernel_rfl)
    (of_decide_eq_true (by kernel_rfl)) (by unfold Func.isWrapper; first | (rw [if_pos (by decide +kernel)]; kernel_rfl) | (rw [if_neg (by decide +kernel)]; exact ⟨rfl, rfl⟩))
    (fun os started H enc _ => lifted_FnWaveStep os started H enc)
#print axioms FnWaveStep_holds
end Go.Proofs.Ytnmegieibcmhcaa

/-
  Quantization: steps, levels, coefficients; of the program and of the reference.
-/
import Derived.Test.YtkdmhlbmhjolcaaDoorArr6
namespace Go.Proofs.YtkdmhlbmhjolcaaDoor
open Go.RowKit

def steps : List Int := [1, 2, 4, 8, 12, 16, 24, 32, 48, 64, 96, 128, 192, 256, 384, 512]
def step (q : Nat) : Int := steps[q]?.getD 0
theorem step_in (q : Nat) (h : q < 16) : 1 ≤ step q ∧ step q ≤ 512 := by
  have : ∀ q, q < 16 → 1 ≤ step q ∧ step q ≤ 512 := by decide
  exact this q h
/-- the table of steps lies in block 0 -/
structure Tb (w : World) : Prop where
  pos : 0 < w.heap.size
  at_ : ∀ q, q < 16 → w.cell? ⟨0, q, none⟩ = some (.int .i64 (step q))
theorem Tb.q {w w' : World} (h : Tb w) (hq : Q w w') : Tb w' := ⟨Nat.lt_of_lt_of_le h.pos hq.size, fun q hl => (hq.cell 0 q h.pos).trans (h.at_ q hl)⟩
/-- a number moved to the nearest one in -M..M -/
def cl (n M : Int) : Int := if n < -M then -M else if M < n then M else n
theorem cl_in (n : Int) {M : Int} (h : 0 ≤ M) : -M ≤ cl n M ∧ cl n M ≤ M := by unfold cl; split <;> (try split) <;> omega
theorem cl_same {n M : Int} (h1 : -M ≤ n) (h2 : n ≤ M) : cl n M = n := by unfold cl; rw [if_neg (by omega), if_neg (by omega)]
def quantV (c s : Int) : Int := if c < 0 then -((2 * (-c) + s) / (2 * s)) else (2 * c + s) / (2 * s)
def deqV (l s : Int) : Int := cl (l * s) 4080
theorem ret_i {a b : Int} (h : a = b) : Ending.returned (.int .i64 a) = .returned (.int .i64 b) := by rw [h]

theorem qualityValid (q : Int) (t : Bool) (w : World) (h : Hid (decide (0 ≤ q ∧ q ≤ 15) = t)) :
    Calls Tryd.prog 34 #[.int .i64 q] w fun e w' => e = .returned (.bool t) ∧ w = w' := by
  obtain rfl := h.out
  clear h
  by_cases h1 : 0 ≤ q
  · by_cases h2 : q ≤ 15
    · rw [decide_eq_true ⟨h1, h2⟩]
      go_enter Tryd.func34, Tryd.ntmps34
      go_wp2
      go_ret; exact ⟨by simp [*], rfl⟩
    · rw [decide_eq_false (fun h => h2 h.2)]
      have h4 : decide (q ≤ 15) = false := by simp; omega
      clear h2
      go_enter Tryd.func34, Tryd.ntmps34
      go_wp2
      all_goals (go_ret; exact ⟨by simp [*], rfl⟩)
  · rw [decide_eq_false (fun h => h1 h.1)]
    have h4 : decide (0 ≤ q) = false := by simp; omega
    clear h1
    go_enter Tryd.func34, Tryd.ntmps34
    go_wp2
    all_goals (go_ret; exact ⟨by simp [*], rfl⟩)
set_option maxHeartbeats 1000000 in
theorem clampM (n : Int) (w : World) : Calls Tryd.prog 40 #[.int .i64 n, .int .i64 (-4080), .int .i64 4080] w fun e w' => e = .returned (.int .i64 (cl n 4080)) ∧ w = w' := by
  have e : cl n 4080 = min (max n (-4080)) 4080 := by unfold cl; split <;> (try split) <;> omega
  have E := Lib.hid e
  clear e
  go_enter Tryd.func40, Tryd.ntmps40
  go_wp2
  all_goals (go_ret; exact ⟨ret_i (by rw [E.out]; omega), rfl⟩)
set_option maxHeartbeats 1000000 in
theorem clipM (n : Int) (w : World) : Calls Tryd.prog 37 #[.int .i64 n, .int .i64 (-4080), .int .i64 4080] w fun e w' => e = .returned (.int .i64 (cl n 4080)) ∧ w = w' := by
  have e : cl n 4080 = max (-4080) (min 4080 n) := by unfold cl; split <;> (try split) <;> omega
  have E := Lib.hid e
  clear e
  go_enter Tryd.func37, Tryd.ntmps37
  go_wp2
  all_goals (go_ret; exact ⟨ret_i (by rw [E.out]; omega), rfl⟩)
theorem rounded (n s : Int) (w : World) (h1 : 0 ≤ n) (h2 : n ≤ 1000000) (h3 : 1 ≤ s) (h4 : s ≤ 1000) : Calls Tryd.prog 54 #[.int .i64 n, .int .i64 s] w fun e w' => e = .returned (.int .i64 ((2 * n + s) / (2 * s))) ∧ w = w' := by
  have r0 : 0 ≤ (2 * n + s) / (2 * s) := Int.ediv_nonneg (by omega) (by omega)
  have r1 : (2 * n + s) / (2 * s) ≤ 2 * n + s := Int.ediv_le_self _ (by omega)
  have w1 : IntKind.i64.wrap (2 * n) = 2 * n := IntWalk.i64_in _ ⟨by omega, by omega⟩
  have w2 : IntKind.i64.wrap (2 * n + s) = 2 * n + s := IntWalk.i64_in _ ⟨by omega, by omega⟩
  have w3 : IntKind.i64.wrap (2 * s) = 2 * s := IntWalk.i64_in _ ⟨by omega, by omega⟩
  have w4 : (2 * n + s).tdiv (2 * s) = (2 * n + s) / (2 * s) := Int.tdiv_eq_ediv_of_nonneg (by omega)
  have w5 : IntKind.i64.wrap ((2 * n + s) / (2 * s)) = (2 * n + s) / (2 * s) := IntWalk.i64_in _ ⟨by omega, by omega⟩
  have w6 : ((2 * s : Int) == 0) = false := by rw [beq_eq_false_iff_ne]; omega
  have w7 : ¬ s = 0 := by omega
  go_enter Tryd.func54, Tryd.ntmps54
  go_wp2
  go_ret
  exact ⟨rfl, rfl⟩
theorem impl_absV (n : Int) (w : World) (h1 : -1000000000000 ≤ n) (h2 : n ≤ 1000000000000) :
    Calls Tryd.prog 55 #[.int .i64 n] w fun e w' => e = .returned (.int .i64 (if n < 0 then -n else n)) ∧ w = w' := by
  by_cases h : n < 0
  · rw [if_pos h]
    go_enter Tryd.func55, Tryd.ntmps55
    go_wp2
    go_ret
    exact ⟨rfl, rfl⟩
  · rw [if_neg h]
    by_cases h0 : n = 0
    · subst h0
      go_enter Tryd.func55, Tryd.ntmps55
      go_wp2
      go_ret
      exact ⟨rfl, rfl⟩
    · go_enter Tryd.func55, Tryd.ntmps55
      go_wp2
      go_ret
      exact ⟨rfl, rfl⟩
theorem quo_le {n s : Int} (h1 : 0 ≤ n) (h3 : 1 ≤ s) : 0 ≤ (2 * n + s) / (2 * s) ∧ (2 * n + s) / (2 * s) ≤ n := by
  refine ⟨Int.ediv_nonneg (by omega) (by omega), ?_⟩
  have h : (2 * n + s) / (2 * s) < n + 1 := by
    refine Int.ediv_lt_of_lt_mul (by omega) ?_
    have e1 : (n + 1) * (2 * s) = 2 * (n * s) + 2 * s := by rw [Int.add_mul, Int.one_mul, Int.mul_left_comm]
    have e2 : n * 1 ≤ n * s := Int.mul_le_mul_of_nonneg_left h3 h1
    omega
  omega
theorem quant_in {c s M : Int} (h1 : -M ≤ c) (h2 : c ≤ M) (h3 : 1 ≤ s) : -M ≤ quantV c s ∧ quantV c s ≤ M := by
  unfold quantV
  split
  · have := quo_le (n := -c) (by omega) h3; omega
  · have := quo_le (n := c) (by omega) h3; omega

set_option maxRecDepth 100000 in
theorem impl_Quantize (c q : Int) (n : Nat) (w : World) (hT : Tb w) (hq : q = (n : Int)) (hn : n < 16) (h1 : -4080 ≤ c) (h2 : c ≤ 4080) :
    Calls Tryd.prog 44 #[.int .i64 c, .int .i64 q] w fun e w' => e = .returned (.int .i64 (quantV c (step n))) ∧ Q w w' := by
  subst hq
  have c1 := hT.at_ n hn
  obtain ⟨s1, s2⟩ := step_in n hn
  generalize step n = s at c1 s1 s2 ⊢
  have n16 : (n : Int) < 16 := by omega
  have hv : Hid (decide (0 ≤ (n : Int) ∧ (n : Int) ≤ 15) = true) := decide_eq_true ⟨by omega, by omega⟩
  clear hT
  by_cases hc : c < 0
  · have hqv : quantV c s = -((2 * (-c) + s) / (2 * s)) := if_pos hc
    obtain ⟨r1, r2⟩ := quo_le (n := -c) (s := s) (by omega) s1
    have R := Lib.hid (fun z => rounded (-c) s z (by omega) (by omega) s1 (by omega))
    have A := Lib.hid (fun z => impl_absV c z (by omega) (by omega))
    rw [if_pos hc] at A
    rw [hqv]
    generalize (2 * (-c) + s) / (2 * s) = r at r1 r2 R ⊢
    clear hqv
    go_enter Tryd.func44, Tryd.ntmps44
    go_wp2_with fail
    refine (qualityValid _ _ _ hv).mono ?_; rintro e w' ⟨rfl, rfl⟩
    go_wp2_with fail
    refine wp_region_x (fun ww => Q w ww ∧ ww.cell? ⟨0, n, none⟩ = some (.int .i64 s)) (fun _ => false) (by kernel_rfl) ⟨(Q.refl _).drew, c1⟩ (fun hS => ?_)
    refine wpAnyX_take (i := 0) (v := ?vv1) rfl (by kernel_rfl) (by kernel_rfl) (by kernel_rfl) (by kernel_rfl) (fun _ _ _ h => h) (Or.inl ⟨by rfl, ?hy1⟩) hS ?rest1
    case hy1 => (intro ww hSw; (try dsimp only at hSw); go_split_ands; go_simp; try with_reducible rfl)
    try simp only [Act.put, List.setIfInBounds_toArray, List.set_cons_zero, List.set_cons_succ]
    refine wpAnyX_take (i := 2) (v := ?vv2) rfl (by kernel_rfl) (by kernel_rfl) (by kernel_rfl) (by kernel_rfl) (fun _ _ _ h => h) (Or.inl ⟨by rfl, ?hy2⟩) hS ?rest2
    case hy2 => (intro ww hSw; (try dsimp only at hSw); go_split_ands; go_simp; try with_reducible rfl)
    try simp only [Act.put, List.setIfInBounds_toArray, List.set_cons_zero, List.set_cons_succ]
    refine wpAnyX_take (i := 3) (v := ?vv3) rfl (by kernel_rfl) (by kernel_rfl) (by kernel_rfl) (by kernel_rfl) (fun _ _ _ h => h) (Or.inl ⟨by rfl, ?hy3⟩) hS ?rest3
    case hy3 => (intro ww hSw; (try dsimp only at hSw); go_split_ands; go_simp; try with_reducible rfl)
    try simp only [Act.put, List.setIfInBounds_toArray, List.set_cons_zero, List.set_cons_succ]
    refine wpAnyX_take (i := 4) (v := ?vv4) rfl (by kernel_rfl) (by kernel_rfl) (by kernel_rfl) (by kernel_rfl) (fun _ _ _ h => h) (Or.inl ⟨by rfl, ?hy4⟩) hS ?rest4
    case hy4 => (intro ww hSw; (try dsimp only at hSw); go_split_ands; go_simp; try with_reducible rfl)
    try simp only [Act.put, List.setIfInBounds_toArray, List.set_cons_zero, List.set_cons_succ]
    refine wpAnyX_step (k := 1) (by kernel_rfl) rfl rfl (fun K2 hK2 => ?_); go_simp
    refine (A.out _).mono ?_; rintro e wz ⟨rfl, rfl⟩
    refine hK2.out _ _ hS (fun hS => ?_)
    clear hK2 K2; (try simp only [Act.put, List.setIfInBounds_toArray, List.set_cons_zero, List.set_cons_succ])
    refine wpAnyX_step (k := 5) (by kernel_rfl) rfl rfl (fun K2 hK2 => ?_); go_simp
    refine (R.out _).mono ?_; rintro e wz ⟨rfl, rfl⟩
    refine hK2.out _ _ hS (fun hS => ?_)
    clear hK2 K2; (try simp only [Act.put, List.setIfInBounds_toArray, List.set_cons_zero, List.set_cons_succ])
    refine wpAnyX_take (i := 6) (v := ?vv5) rfl (by kernel_rfl) (by kernel_rfl) (by kernel_rfl) (by kernel_rfl) (fun _ _ _ h => h) (Or.inl ⟨by rfl, ?hy5⟩) hS ?rest5
    case hy5 => (intro ww hSw; (try dsimp only at hSw); go_split_ands; go_simp; try with_reducible rfl)
    try simp only [Act.put, List.setIfInBounds_toArray, List.set_cons_zero, List.set_cons_succ]
    refine wpAnyX_done (by kernel_rfl) ?_ _
    go_wp2_with fail
    go_ret
    exact ⟨rfl, (Q.refl _).drew⟩
  · have hqv : quantV c s = (2 * c + s) / (2 * s) := if_neg hc
    obtain ⟨r1, r2⟩ := quo_le (n := c) (s := s) (by omega) s1
    have R := Lib.hid (fun z => rounded c s z (by omega) (by omega) s1 (by omega))
    have A := Lib.hid (fun z => impl_absV c z (by omega) (by omega))
    rw [if_neg hc] at A
    rw [hqv]
    generalize (2 * c + s) / (2 * s) = r at r1 r2 R ⊢
    clear hqv
    go_enter Tryd.func44, Tryd.ntmps44
    go_wp2_with fail
    refine (qualityValid _ _ _ hv).mono ?_; rintro e w' ⟨rfl, rfl⟩
    go_wp2_with fail
    refine wp_region_x (fun ww => Q w ww ∧ ww.cell? ⟨0, n, none⟩ = some (.int .i64 s)) (fun _ => false) (by kernel_rfl) ⟨(Q.refl _).drew, c1⟩ (fun hS => ?_)
    refine wpAnyX_take (i := 0) (v := ?vv6) rfl (by kernel_rfl) (by kernel_rfl) (by kernel_rfl) (by kernel_rfl) (fun _ _ _ h => h) (Or.inl ⟨by rfl, ?hy6⟩) hS ?rest6
    case hy6 => (intro ww hSw; (try dsimp only at hSw); go_split_ands; go_simp; try with_reducible rfl)
    try simp only [Act.put, List.setIfInBounds_toArray, List.set_cons_zero, List.set_cons_succ]
    refine wpAnyX_take (i := 2) (v := ?vv7) rfl (by kernel_rfl) (by kernel_rfl) (by kernel_rfl) (by kernel_rfl) (fun _ _ _ h => h) (Or.inl ⟨by rfl, ?hy7⟩) hS ?rest7
    case hy7 => (intro ww hSw; (try dsimp only at hSw); go_split_ands; go_simp; try with_reducible rfl)
    try simp only [Act.put, List.setIfInBounds_toArray, List.set_cons_zero, List.set_cons_succ]
    refine wpAnyX_take (i := 3) (v := ?vv8) rfl (by kernel_rfl) (by kernel_rfl) (by kernel_rfl) (by kernel_rfl) (fun _ _ _ h => h) (Or.inl ⟨by rfl, ?hy8⟩) hS ?rest8
    case hy8 => (intro ww hSw; (try dsimp only at hSw); go_split_ands; go_simp; try with_reducible rfl)
    try simp only [Act.put, List.setIfInBounds_toArray, List.set_cons_zero, List.set_cons_succ]
    refine wpAnyX_take (i := 4) (v := ?vv9) rfl (by kernel_rfl) (by kernel_rfl) (by kernel_rfl) (by kernel_rfl) (fun _ _ _ h => h) (Or.inl ⟨by rfl, ?hy9⟩) hS ?rest9
    case hy9 => (intro ww hSw; (try dsimp only at hSw); go_split_ands; go_simp; try with_reducible rfl)
    try simp only [Act.put, List.setIfInBounds_toArray, List.set_cons_zero, List.set_cons_succ]
    refine wpAnyX_step (k := 1) (by kernel_rfl) rfl rfl (fun K2 hK2 => ?_); go_simp
    refine (A.out _).mono ?_; rintro e wz ⟨rfl, rfl⟩
    refine hK2.out _ _ hS (fun hS => ?_)
    clear hK2 K2; (try simp only [Act.put, List.setIfInBounds_toArray, List.set_cons_zero, List.set_cons_succ])
    refine wpAnyX_step (k := 5) (by kernel_rfl) rfl rfl (fun K2 hK2 => ?_); go_simp
    refine (R.out _).mono ?_; rintro e wz ⟨rfl, rfl⟩
    refine hK2.out _ _ hS (fun hS => ?_)
    clear hK2 K2; (try simp only [Act.put, List.setIfInBounds_toArray, List.set_cons_zero, List.set_cons_succ])
    refine wpAnyX_take (i := 6) (v := ?vv10) rfl (by kernel_rfl) (by kernel_rfl) (by kernel_rfl) (by kernel_rfl) (fun _ _ _ h => h) (Or.inl ⟨by rfl, ?hy10⟩) hS ?rest10
    case hy10 => (intro ww hSw; (try dsimp only at hSw); go_split_ands; go_simp; try with_reducible rfl)
    try simp only [Act.put, List.setIfInBounds_toArray, List.set_cons_zero, List.set_cons_succ]
    refine wpAnyX_done (by kernel_rfl) ?_ _
    go_wp2_with fail
    go_ret
    exact ⟨rfl, (Q.refl _).drew⟩
theorem mul_in {l s : Int} (h1 : -4080 ≤ l) (h2 : l ≤ 4080) (s1 : 1 ≤ s) (s2 : s ≤ 512) : -4080 * 512 ≤ l * s ∧ l * s ≤ 4080 * 512 := by
  constructor
  · have a1 : -4080 * 512 ≤ -4080 * s := Int.mul_le_mul_of_nonpos_left (by omega) s2
    have a2 : -4080 * s ≤ l * s := Int.mul_le_mul_of_nonneg_right h1 (by omega)
    omega
  · have a1 : l * s ≤ 4080 * s := Int.mul_le_mul_of_nonneg_right h2 (by omega)
    have a2 : 4080 * s ≤ 4080 * 512 := Int.mul_le_mul_of_nonneg_left s2 (by omega)
    omega
set_option maxRecDepth 100000 in
theorem impl_Dequantize (l q : Int) (n : Nat) (w : World) (hT : Tb w) (hq : q = (n : Int)) (hn : n < 16) (h1 : -4080 ≤ l) (h2 : l ≤ 4080) :
    Calls Tryd.prog 29 #[.int .i64 l, .int .i64 q] w fun e w' => e = .returned (.int .i64 (deqV l (step n))) ∧ Q w w' := by
  subst hq
  have c1 := hT.at_ n hn
  obtain ⟨s1, s2⟩ := step_in n hn
  unfold deqV
  generalize step n = s at c1 s1 s2 ⊢
  have n16 : (n : Int) < 16 := by omega
  have hv : Hid (decide (0 ≤ (n : Int) ∧ (n : Int) ≤ 15) = true) := decide_eq_true ⟨by omega, by omega⟩
  obtain ⟨p1, p2⟩ := mul_in h1 h2 s1 s2
  obtain ⟨p, hp⟩ : ∃ p, l * s = p := ⟨_, rfl⟩
  rw [hp] at p1 p2 ⊢
  have w1 : IntKind.i64.wrap (l * s) = p := by rw [hp]; exact IntWalk.i64_in _ ⟨by omega, by omega⟩
  have w2 : wrap64 (l * s) = p := by rw [← IntWalk.i64_left, w1]
  clear hT hp
  go_enter Tryd.func29, Tryd.ntmps29
  go_wp2_with fail
  refine (qualityValid _ _ _ hv).mono ?_; rintro e w' ⟨rfl, rfl⟩
  go_wp2_with fail
  refine (clampM _ _).mono ?_; rintro e w' ⟨rfl, rfl⟩
  go_wp2_with fail
  go_ret
  exact ⟨rfl, Q.refl _⟩
set_option maxRecDepth 100000 in
theorem spec_QuantStep (q : Int) (n : Nat) (w : World) (hq : q = (n : Int)) (hn : n < 16) :
    Calls Tryd.prog 51 #[.int .i64 q] w fun e w' => e = .returned (.int .i64 (step n)) ∧ Q w w' := by
  subst hq
  have n16 : (n : Int) < 16 := by omega
  have hb := (Bl.new w steps rfl).at n hn
  have q0 : Q w (w.alloc (.cells (arr steps) 22)) := (by repeat (first | exact Q.refl _ | assumption | refine Q.drewN ?_ _ | refine Q.drew ?_ | refine Q.alloc ?_ _ | refine Q.trans ?_ (by assumption) | refine Q.set ?_ (by first | exact Nat.le_refl _ | omega | (simp; done) | (simp; omega)) _))
  have hst : steps[n]?.getD 0 = step n := rfl
  rw [hst] at hb
  have hst' := hst
  generalize step n = s at hb hst' ⊢
  go_enter Tryd.func51, Tryd.ntmps51
  go_wp2_with fail
  refine (l1In_tt _ _ _ _ (by omega) (by omega)).mono ?_; rintro e w' ⟨rfl, rfl⟩
  have hc : (w.alloc (.cells #[.int .i64 1, .int .i64 2, .int .i64 4, .int .i64 8, .int .i64 12, .int .i64 16, .int .i64 24, .int .i64 32, .int .i64 48, .int .i64 64, .int .i64 96, .int .i64 128, .int .i64 192, .int .i64 256, .int .i64 384, .int .i64 512] 3)).cell? ⟨w.heap.size, n, none⟩ = some (.int .i64 s) := by
    rw [← hst']; exact ((Blk.new w 3 (arr steps)).cell n).trans (arr_at steps n hn)
  go_wp2_with fail
  go_ret
  exact ⟨rfl, (by repeat (first | exact Q.refl _ | assumption | refine Q.drewN ?_ _ | refine Q.drew ?_ | refine Q.alloc ?_ _ | refine Q.trans ?_ (by assumption) | refine Q.set ?_ (by first | exact Nat.le_refl _ | omega | (simp; done) | (simp; omega)) _))⟩
theorem l4_abs (c : Int) : max c (-c) = if c < 0 then -c else c := by split <;> omega
set_option maxHeartbeats 2000000 in
set_option maxRecDepth 100000 in
theorem spec_l4Quant (c q : Int) (n : Nat) (w : World) (hq : q = (n : Int)) (hn : n < 16) (h1 : -4080 ≤ c) (h2 : c ≤ 4080) :
    Calls Tryd.prog 43 #[.int .i64 c, .int .i64 q] w fun e w' => e = .returned (.int .i64 (quantV c (step n))) ∧ Q w w' := by
  subst hq
  have T := Lib.hid (spec_QuantStep (n : Int) n w rfl hn)
  obtain ⟨s1, s2⟩ := step_in n hn
  generalize step n = s at T s1 s2 ⊢
  have w6 : ((2 * s : Int) == 0) = false := by rw [beq_eq_false_iff_ne]; omega
  have w7 : ¬ s = 0 := by omega
  have w3 : IntKind.i64.wrap (2 * s) = 2 * s := IntWalk.i64_in _ ⟨by omega, by omega⟩
  by_cases hc : c < 0
  · have hqv : quantV c s = -((2 * (-c) + s) / (2 * s)) := if_pos hc
    obtain ⟨r1, r2⟩ := quo_le (n := -c) (s := s) (by omega) s1
    have w4 : (-c * 2 + s).tdiv (2 * s) = (2 * (-c) + s) / (2 * s) := by rw [Int.mul_comm (-c) 2]; exact Int.tdiv_eq_ediv_of_nonneg (by omega)
    rw [hqv]
    generalize (2 * (-c) + s) / (2 * s) = r at r1 r2 w4 ⊢
    clear hqv
    go_enter Tryd.func43, Tryd.ntmps43
    go_wp2_with fail
    refine T.out.mono ?_; rintro e w' ⟨rfl, qq⟩
    go_wp2_with fail
    all_goals (go_ret; exact ⟨rfl, qq⟩)
  · have hqv : quantV c s = (2 * c + s) / (2 * s) := if_neg hc
    obtain ⟨r1, r2⟩ := quo_le (n := c) (s := s) (by omega) s1
    have w4 : (c * 2 + s).tdiv (2 * s) = (2 * c + s) / (2 * s) := by rw [Int.mul_comm c 2]; exact Int.tdiv_eq_ediv_of_nonneg (by omega)
    rw [hqv]
    generalize (2 * c + s) / (2 * s) = r at r1 r2 w4 ⊢
    clear hqv
    go_enter Tryd.func43, Tryd.ntmps43
    go_wp2_with fail
    refine T.out.mono ?_; rintro e w' ⟨rfl, qq⟩
    go_wp2_with fail
    all_goals (go_ret; exact ⟨rfl, qq⟩)
set_option maxHeartbeats 2000000 in
set_option maxRecDepth 100000 in
theorem spec_Dequantize (l q : Int) (n : Nat) (w : World) (hq : q = (n : Int)) (hn : n < 16) (h1 : -4080 ≤ l) (h2 : l ≤ 4080) :
    Calls Tryd.prog 33 #[.int .i64 l, .int .i64 q] w fun e w' => e = .returned (.int .i64 (deqV l (step n))) ∧ Q w w' := by
  subst hq
  have T := Lib.hid (spec_QuantStep (n : Int) n w rfl hn)
  obtain ⟨s1, s2⟩ := step_in n hn
  unfold deqV
  generalize step n = s at T s1 s2 ⊢
  obtain ⟨p1, p2⟩ := mul_in h1 h2 s1 s2
  obtain ⟨p, hp⟩ : ∃ p, l * s = p := ⟨_, rfl⟩
  rw [hp] at p1 p2 ⊢
  have w1 : IntKind.i64.wrap (l * s) = p := by rw [hp]; exact IntWalk.i64_in _ ⟨by omega, by omega⟩
  have w2 : wrap64 (l * s) = p := by rw [← IntWalk.i64_left, w1]
  clear hp
  go_enter Tryd.func33, Tryd.ntmps33
  go_wp2_with fail
  refine (l1In_tt _ _ _ _ h1 h2).mono ?_; rintro e w' ⟨rfl, rfl⟩
  go_wp2_with fail
  refine (l1In_tt _ _ _ _ (by omega) (by omega)).mono ?_; rintro e w' ⟨rfl, rfl⟩
  go_wp2_with fail
  refine T.out.mono ?_; rintro e w' ⟨rfl, qq⟩
  go_wp2_with fail
  refine (clipM _ _).mono ?_; rintro e w' ⟨rfl, rfl⟩
  go_wp2_with fail
  go_ret
  exact ⟨rfl, qq⟩
end Go.Proofs.YtkdmhlbmhjolcaaDoor

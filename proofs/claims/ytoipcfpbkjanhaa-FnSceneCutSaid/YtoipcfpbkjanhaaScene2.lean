/-
  SceneCut, of the program and of the reference.
-/
import Derived.Test.YtoipcfpbkjanhaaScene
namespace Go.Proofs.Ytoipcfpbkjanhaa
open Go.RowKit

def absD (n : Int) : Int := if n < 0 then -n else n
/-- the sum of the first k absolute differences -/
def adTo (xs ys : List Int) : Nat → Int
  | 0 => 0
  | k + 1 => adTo xs ys k + absD (xs[k]?.getD 0 - ys[k]?.getD 0)
def cutB (W H : Int) (xs : List Int) (W' H' : Int) (ys : List Int) : Bool := sameB W H xs W' H' ys && decide ((xs.length : Int) < adTo (histOf xs) (histOf ys) 16)
theorem adTo_bound (xs ys : List Int) (N : Int) (h0 : 0 ≤ N) (hx : ∀ i : Nat, 0 ≤ xs[i]?.getD 0 ∧ xs[i]?.getD 0 ≤ N) (hy : ∀ i : Nat, 0 ≤ ys[i]?.getD 0 ∧ ys[i]?.getD 0 ≤ N) (k : Nat) : 0 ≤ adTo xs ys k ∧ adTo xs ys k ≤ k * N := by
  induction k with
  | zero => simp [adTo]
  | succ k ih =>
    have a := hx k
    have b := hy k
    have e : ((k + 1 : Nat) : Int) * N = k * N + N := by rw [Int.natCast_succ, Int.add_mul, Int.one_mul]
    rw [adTo, e]
    unfold absD
    split <;> omega
theorem same_parts {W H W' H' : Int} {xs ys : List Int} (h : sameB W H xs W' H' ys = true) : picB W H xs = true ∧ picB W' H' ys = true ∧ W = W' ∧ H = H' := by
  unfold sameB at h
  simp only [Bool.and_eq_true, decide_eq_true_eq] at h
  exact h

theorem impl_abs (n : Int) (w : World) (h1 : -1000000000000 ≤ n) (h2 : n ≤ 1000000000000) :
    Calls Try.prog 49 #[.int .i64 n] w fun e w' => e = .returned (.int .i64 (absD n)) ∧ w = w' := by
  unfold absD
  by_cases h : n < 0
  · rw [if_pos h]
    go_enter Try.func49, Try.ntmps49
    go_wp2
    go_ret
    exact ⟨rfl, rfl⟩
  · rw [if_neg h]
    by_cases h0 : n = 0
    · subst h0
      go_enter Try.func49, Try.ntmps49
      go_wp2
      go_ret
      exact ⟨rfl, rfl⟩
    · go_enter Try.func49, Try.ntmps49
      go_wp2
      go_ret
      exact ⟨rfl, rfl⟩

set_option maxHeartbeats 2000000 in
theorem impl_SceneCut (W H W' H' : Int) (A A' : Option Addr) (n n' c c' B B' : Nat) (xs ys : List Int) (t : Bool) (w : World) (hx : Rd w B A xs) (hB : B ≤ w.heap.size) (hy : Rd w B' A' ys) (hB' : B' ≤ w.heap.size)
    (hn : Hid (xs.length = n)) (hn' : Hid (ys.length = n')) (hm : n ≤ 9223372036854775807) (hm' : n' ≤ 9223372036854775807) (ht : Hid (cutB W H xs W' H' ys = t)) :
    Calls Try.prog 23 #[.agg #[.int .i64 W, .int .i64 H, .slice A n c], .agg #[.int .i64 W', .int .i64 H', .slice A' n' c']] w fun e w' => e = .returned (.bool t) ∧ Q w w' := by
  have q0 : Q w ((w.alloc (.cells #[.int .i64 W, .int .i64 H, .slice A n c] 27)).alloc (.cells #[.int .i64 W', .int .i64 H', .slice A' n' c'] 27)) := (by repeat (first | exact Q.refl _ | assumption | refine Q.drewN ?_ _ | refine Q.drew ?_ | refine Q.alloc ?_ _ | refine Q.trans ?_ (by assumption) | refine Q.set ?_ (by first | exact Nat.le_refl _ | omega | (simp; done) | (simp; omega)) _)); have b0 := (Blk.new w 27 #[.int .i64 W, .int .i64 H, .slice A n c]).alloc (.cells #[.int .i64 W', .int .i64 H', .slice A' n' c'] 27); have d0 := Blk.new (w.alloc (.cells #[.int .i64 W, .int .i64 H, .slice A n c] 27)) 27 #[.int .i64 W', .int .i64 H', .slice A' n' c']; rw [World.size_alloc] at d0; have s0 := q0.size; have HX := Lib.hid (hx.q q0 hB); have HY := Lib.hid (hy.q q0 hB'); clear hx hy
  have HT : Hid (t = (sameB W H xs W' H' ys && decide ((n : Int) < adTo (histOf xs) (histOf ys) 16))) := by rw [Hid, ← ht.out, cutB, hn.out]
  cases hs : sameB W H xs W' H' ys
  · rw [hs] at HT
    have HS := Lib.hid hs
    clear hs
    go_enter Try.func23, Try.ntmps23
    go_wp2_with fail
    refine (impl_alike W H W' H' A A' n n' c c' _ _ xs ys _ _ HX.out (by omega) HY.out (by omega) hn hn' hm hm' HS).mono ?_; rintro e w1 ⟨rfl, q1⟩
    go_wp2_with fail
    go_ret
    exact ⟨by rw [HT.out]; rfl, q0.trans q1⟩
  · rw [hs] at HT
    have pa := (same_parts hs).1
    have pb := (same_parts hs).2.1
    obtain ⟨pW, pH, pl, pa'⟩ := picB_parts pa
    obtain ⟨a1, a2⟩ := area_le pW.1 pW.2.1 pH.1 pH.2.1
    rw [hn.out] at pl
    have n1 : n ≤ 1024 := by omega
    obtain ⟨qW, qH, ql, pb'⟩ := picB_parts pb
    obtain ⟨e1, e2⟩ := area_le qW.1 qW.2.1 qH.1 qH.2.1
    rw [hn'.out] at ql
    have n1' : n' ≤ 1024 := by omega
    have HA : Hid (hist W H xs = histOf xs) := hist_yes pa
    have HB : Hid (hist W' H' ys = histOf ys) := hist_yes pb
    have LA := Lib.hid (length_histOf xs)
    have LB := Lib.hid (length_histOf ys)
    have BA : ∀ i : Nat, 0 ≤ (histOf xs)[i]?.getD 0 ∧ (histOf xs)[i]?.getD 0 ≤ 1024 := fun i => by
      have h := hist_bound xs n (by rw [hn.out]; exact Nat.le_refl _) i
      rw [List.take_of_length_le (Nat.le_of_eq hn.out)] at h
      omega
    have BB : ∀ i : Nat, 0 ≤ (histOf ys)[i]?.getD 0 ∧ (histOf ys)[i]?.getD 0 ≤ 1024 := fun i => by
      have h := hist_bound ys n' (by rw [hn'.out]; exact Nat.le_refl _) i
      rw [List.take_of_length_le (Nat.le_of_eq hn'.out)] at h
      omega
    have HAD := Lib.hid (adTo_bound (histOf xs) (histOf ys) 1024 (by omega) BA BB)
    have HBA := Lib.hid BA
    have HBB := Lib.hid BB
    have HS := Lib.hid hs
    clear hs pa pb pa' pb' pW pH pl a1 a2 qW qH ql e1 e2 BA BB
    generalize histOf xs = hx at HT HA LA HAD HBA
    generalize histOf ys = hy at HT HB LB HAD HBB
    go_enter Try.func23, Try.ntmps23
    go_wp2_with fail
    refine (impl_alike W H W' H' A A' n n' c c' _ _ xs ys _ _ HX.out (by omega) HY.out (by omega) hn hn' hm hm' HS).mono ?_; rintro e w1 ⟨rfl, q1⟩
    have d1 := (d0.q q1).cell
    have b1 := (b0.q q1).cell
    have s1 := q1.size
    go_wp2_with fail
    refine (impl_Histogram W' H' A' n' c' _ ys _ (HY.out.q q1 (by omega)) (by omega) hn' hm').mono ?_; rw [HB.out, LB.out]; rintro e w2 ⟨v2, rfl, o2, q2⟩
    obtain ⟨A2, c2, rfl⟩ := o2.form
    have q12 := q1.trans q2
    have s2 := q12.size
    have d2 := (d0.q q12).cell
    have b2 := (b0.q q12).cell
    clear d1 b1 s1
    go_wp2_with fail
    refine (impl_Histogram W H A n c _ xs _ (HX.out.q q12 (by omega)) (by omega) hn hm).mono ?_; rw [HA.out, LA.out]; rintro e w3 ⟨v3, rfl, o3, q3⟩
    obtain ⟨A3, c3, rfl⟩ := o3.form
    have q13 := q12.trans q3
    have d3 := (d0.q q13).cell
    have b3 := (b0.q q13).cell
    have R2 := Lib.hid (o2.q q3).rd
    have R3 := Lib.hid o3.rd
    have HQ := Lib.hid (q0.trans q13)
    clear d2 b2 s2 o2 o3 q12 q13 q1 q2 q3 d0 b0 q0
    go_wp2_with fail
    go_loop [5, 18] (fun s i => ∃ k : Nat, k ≤ 16 ∧ i = .int .i64 k ∧ s = .int .i64 (adTo hx hy k)) (fun _ i => 16 - (intOf i).toNat)
    case atStart => exact ⟨0, Nat.zero_le _, rfl, rfl⟩
    case round =>
      obtain ⟨k, hk, rfl, rfl⟩ := hrel
      obtain ⟨a1, a2⟩ := HAD.out k
      have a3 : (k : Int) * 1024 ≤ 16 * 1024 := by omega
      by_cases hlt : k < 16
      · obtain ⟨g2, o2, rfl, hb2, hc2⟩ := R2.out (by rw [LB.out]; omega)
        obtain ⟨g3, o3, rfl, hb3, hc3⟩ := R3.out (by rw [LA.out]; omega)
        have c2' := hc2 k (by rw [LB.out]; exact hlt)
        have c3' := hc3 k (by rw [LA.out]; exact hlt)
        have hst : adTo hx hy (k + 1) = adTo hx hy k + absD (hx[k]?.getD 0 - hy[k]?.getD 0) := rfl
        obtain ⟨x1, x2⟩ := HBA.out k
        obtain ⟨y1, y2⟩ := HBB.out k
        have HST := Lib.hid hst
        clear hst hc2 hc3
        generalize hx[k]?.getD 0 = x at c3' x1 x2 HST
        generalize hy[k]?.getD 0 = y at c2' y1 y2 HST
        generalize adTo hx hy k = s at a1 a2 HST
        have ab : 0 ≤ absD (x - y) ∧ absD (x - y) ≤ 1024 := by unfold absD; split <;> omega
        have HI : Hid (∀ w : World, Calls Try.prog 49 #[.int .i64 (x - y)] w fun e w' => e = .returned (.int .i64 (absD (x - y))) ∧ w = w') := fun w => impl_abs _ w (by omega) (by omega)
        have kb : (k : Int) < 16 := by omega
        obtain ⟨ab1, ab2⟩ := ab
        generalize absD (x - y) = z at ab1 ab2 HI HST
        go_wp2_with fail
        refine (HI.out _).mono ?_; rintro e w' ⟨rfl, rfl⟩
        go_wp2_with fail
        go_round
        case rel => exact ⟨k + 1, by omega, by go_num, by rw [HST.out]⟩
        case measure => simp [intOf]; omega
      · have hk16 : k = 16 := by omega
        subst hk16
        generalize adTo hx hy 16 = s at HT a1 a2
        go_wp2_with fail
        go_ret
        exact ⟨by rw [HT.out]; simp, HQ.out⟩

set_option maxHeartbeats 2000000 in
theorem spec_SceneCut (W H W' H' : Int) (A A' : Option Addr) (n n' c c' B B' : Nat) (xs ys : List Int) (t : Bool) (w : World) (hx : Rd w B A xs) (hB : B ≤ w.heap.size) (hy : Rd w B' A' ys) (hB' : B' ≤ w.heap.size)
    (hn : Hid (xs.length = n)) (hn' : Hid (ys.length = n')) (hm : n ≤ 9223372036854775807) (hm' : n' ≤ 9223372036854775807) (ht : Hid (cutB W H xs W' H' ys = t)) :
    Calls Try.prog 22 #[.agg #[.int .i64 W, .int .i64 H, .slice A n c], .agg #[.int .i64 W', .int .i64 H', .slice A' n' c']] w fun e w' => e = .returned (.bool t) ∧ Q w w' := by
  have q0 : Q w ((w.alloc (.cells #[.int .i64 W, .int .i64 H, .slice A n c] 27)).alloc (.cells #[.int .i64 W', .int .i64 H', .slice A' n' c'] 27)) := (by repeat (first | exact Q.refl _ | assumption | refine Q.drewN ?_ _ | refine Q.drew ?_ | refine Q.alloc ?_ _ | refine Q.trans ?_ (by assumption) | refine Q.set ?_ (by first | exact Nat.le_refl _ | omega | (simp; done) | (simp; omega)) _)); have b0 := (Blk.new w 27 #[.int .i64 W, .int .i64 H, .slice A n c]).alloc (.cells #[.int .i64 W', .int .i64 H', .slice A' n' c'] 27); have d0 := Blk.new (w.alloc (.cells #[.int .i64 W, .int .i64 H, .slice A n c] 27)) 27 #[.int .i64 W', .int .i64 H', .slice A' n' c']; rw [World.size_alloc] at d0; have s0 := q0.size; have HX := Lib.hid (hx.q q0 hB); have HY := Lib.hid (hy.q q0 hB'); clear hx hy
  have HT : Hid (t = (sameB W H xs W' H' ys && decide ((n : Int) < adTo (histOf xs) (histOf ys) 16))) := by rw [Hid, ← ht.out, cutB, hn.out]
  cases hs : sameB W H xs W' H' ys
  · rw [hs] at HT
    have HS := Lib.hid hs
    clear hs
    go_enter Try.func22, Try.ntmps22
    go_wp2_with fail
    refine (spec_l1Same W H W' H' A A' n n' c c' _ _ xs ys _ _ HX.out (by omega) HY.out (by omega) hn hn' hm hm' HS).mono ?_; rintro e w1 ⟨rfl, q1⟩
    go_wp2_with fail
    go_ret
    exact ⟨by rw [HT.out]; rfl, q0.trans q1⟩
  · rw [hs] at HT
    have pa := (same_parts hs).1
    have pb := (same_parts hs).2.1
    obtain ⟨pW, pH, pl, pa'⟩ := picB_parts pa
    obtain ⟨a1, a2⟩ := area_le pW.1 pW.2.1 pH.1 pH.2.1
    rw [hn.out] at pl
    have n1 : n ≤ 1024 := by omega
    obtain ⟨qW, qH, ql, pb'⟩ := picB_parts pb
    obtain ⟨e1, e2⟩ := area_le qW.1 qW.2.1 qH.1 qH.2.1
    rw [hn'.out] at ql
    have n1' : n' ≤ 1024 := by omega
    have HA : Hid (hist W H xs = histOf xs) := hist_yes pa
    have HB : Hid (hist W' H' ys = histOf ys) := hist_yes pb
    have LA := Lib.hid (length_histOf xs)
    have LB := Lib.hid (length_histOf ys)
    have BA : ∀ i : Nat, 0 ≤ (histOf xs)[i]?.getD 0 ∧ (histOf xs)[i]?.getD 0 ≤ 1024 := fun i => by
      have h := hist_bound xs n (by rw [hn.out]; exact Nat.le_refl _) i
      rw [List.take_of_length_le (Nat.le_of_eq hn.out)] at h
      omega
    have BB : ∀ i : Nat, 0 ≤ (histOf ys)[i]?.getD 0 ∧ (histOf ys)[i]?.getD 0 ≤ 1024 := fun i => by
      have h := hist_bound ys n' (by rw [hn'.out]; exact Nat.le_refl _) i
      rw [List.take_of_length_le (Nat.le_of_eq hn'.out)] at h
      omega
    have HAD := Lib.hid (adTo_bound (histOf xs) (histOf ys) 1024 (by omega) BA BB)
    have HBA := Lib.hid BA
    have HBB := Lib.hid BB
    have HS := Lib.hid hs
    clear hs pa pb pa' pb' pW pH pl a1 a2 qW qH ql e1 e2 BA BB
    generalize histOf xs = hx at HT HA LA HAD HBA
    generalize histOf ys = hy at HT HB LB HAD HBB
    go_enter Try.func22, Try.ntmps22
    go_wp2_with fail
    refine (spec_l1Same W H W' H' A A' n n' c c' _ _ xs ys _ _ HX.out (by omega) HY.out (by omega) hn hn' hm hm' HS).mono ?_; rintro e w1 ⟨rfl, q1⟩
    have d1 := (d0.q q1).cell
    have b1 := (b0.q q1).cell
    have s1 := q1.size
    go_wp2_with fail
    refine (spec_Histogram W H A n c _ xs _ (HX.out.q q1 (by omega)) (by omega) hn hm).mono ?_; rw [HA.out, LA.out]; rintro e w2 ⟨v2, rfl, o2, q2⟩
    obtain ⟨A2, c2, rfl⟩ := o2.form
    have q12 := q1.trans q2
    have s2 := q12.size
    have d2 := (d0.q q12).cell
    have b2 := (b0.q q12).cell
    clear d1 b1 s1
    go_wp2_with fail
    refine (spec_Histogram W' H' A' n' c' _ ys _ (HY.out.q q12 (by omega)) (by omega) hn' hm').mono ?_; rw [HB.out, LB.out]; rintro e w3 ⟨v3, rfl, o3, q3⟩
    obtain ⟨A3, c3, rfl⟩ := o3.form
    have q13 := q12.trans q3
    have d3 := (d0.q q13)
    have b3 := (b0.q q13)
    have R2 := Lib.hid (o2.q q3).rd
    have R3 := Lib.hid o3.rd
    have HQ := Lib.hid (q0.trans q13)
    clear d2 b2 s2 o2 o3 q12 q13 q1 q2 q3 d0 b0 q0
    go_wp2_with fail
    go_loopw [7, 8] (fun s i wr => ∃ k : Nat, k ≤ 16 ∧ i = .int .i64 k ∧ s = .int .i64 (adTo hx hy k) ∧ ∃ d, wr = w3.drewN d) (fun _ i _ => 16 - (intOf i).toNat)
    case atStart => exact ⟨0, Nat.zero_le _, rfl, rfl, 0, rfl⟩
    case round =>
      obtain ⟨k, hk, rfl, rfl, dr, hdr⟩ := hrel
      have HDR := Lib.hid hdr
      have hqd : Q w3 wr := by rw [hdr]; exact (Q.refl _).drewN _
      clear hdr
      obtain ⟨a1, a2⟩ := HAD.out k
      have a3 : (k : Int) * 1024 ≤ 16 * 1024 := by omega
      by_cases hlt : k < 16
      · obtain ⟨g2, o2, rfl, hb2, hc2⟩ := R2.out (by rw [LA.out]; omega)
        obtain ⟨g3, o3, rfl, hb3, hc3⟩ := R3.out (by rw [LB.out]; omega)
        have c2' := (hqd.cell g2 _ hb2).trans (hc2 k (by rw [LA.out]; exact hlt))
        have c3' := (hqd.cell g3 _ hb3).trans (hc3 k (by rw [LB.out]; exact hlt))
        have hst : adTo hx hy (k + 1) = adTo hx hy k + absD (hx[k]?.getD 0 - hy[k]?.getD 0) := rfl
        obtain ⟨x1, x2⟩ := HBA.out k
        obtain ⟨y1, y2⟩ := HBB.out k
        have HST := Lib.hid hst
        clear hst hc2 hc3
        generalize hx[k]?.getD 0 = x at c2' x1 x2 HST
        generalize hy[k]?.getD 0 = y at c3' y1 y2 HST
        generalize adTo hx hy k = s at a1 a2 HST
        have kb : (k : Int) < 16 := by omega
        have t1 : IntKind.i64.wrap (x - y) = x - y := IntWalk.i64_in _ ⟨by omega, by omega⟩
        have t2 : IntKind.i64.wrap (y - x) = y - x := IntWalk.i64_in _ ⟨by omega, by omega⟩
        rcases Int.lt_trichotomy x y with hxy | hxy | hxy
        · have hz : absD (x - y) = y - x := by unfold absD; rw [if_pos (by omega)]; omega
          rw [hz] at HST
          have t3 : IntKind.i64.wrap (s + (y - x)) = s + (y - x) := IntWalk.i64_in _ ⟨by omega, by omega⟩
          have t4 : x - y < y - x := by omega
          clear hz
          go_wp2_with fail
          go_quiet (fail)
          clear t1 t2 t3
          go_wp2_with fail
          go_roundw
          case rel => exact ⟨k + 1, by omega, by go_num, by rw [HST.out], _, by rw [HDR.out]; first | rfl | exact World.drewN_drewN _ _ _⟩
          case measure => simp [intOf]; omega
        · subst hxy
          have hz : absD (x - x) = 0 := by unfold absD; rw [if_neg (by omega)]; omega
          rw [hz] at HST
          have t5 : x - x = 0 := by omega
          clear hz t1 t2
          go_wp2_with fail
          go_quiet (fail)
          go_wp2_with fail
          go_roundw
          case rel => exact ⟨k + 1, by omega, by go_num, by rw [HST.out]; simp, _, by rw [HDR.out]; first | rfl | exact World.drewN_drewN _ _ _⟩
          case measure => simp [intOf]; omega
        · have hz : absD (x - y) = x - y := by unfold absD; rw [if_neg (by omega)]
          rw [hz] at HST
          have t3 : IntKind.i64.wrap (s + (x - y)) = s + (x - y) := IntWalk.i64_in _ ⟨by omega, by omega⟩
          have t4 : y - x < x - y := by omega
          clear hz
          go_wp2_with fail
          go_quiet (fail)
          clear t1 t2 t3
          go_wp2_with fail
          go_roundw
          case rel => exact ⟨k + 1, by omega, by go_num, by rw [HST.out], _, by rw [HDR.out]; first | rfl | exact World.drewN_drewN _ _ _⟩
          case measure => simp [intOf]; omega
      · have hk16 : k = 16 := by omega
        subst hk16
        have bc := (b3.q hqd).cell
        generalize adTo hx hy 16 = s at HT a1 a2
        go_wp2_with fail
        go_ret
        exact ⟨by rw [HT.out]; simp, HQ.out.trans hqd⟩
end Go.Proofs.Ytoipcfpbkjanhaa

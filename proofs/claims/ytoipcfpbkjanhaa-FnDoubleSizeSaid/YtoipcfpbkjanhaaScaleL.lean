/-
  Plain laws of halved and of doubled pictures.
-/
import Derived.Test.YtoipcfpbkjanhaaSiz6
import Derived.Test.YtoipcfpbkjanhaaDou3
import Derived.Test.YtoipcfpbkjanhaaTrans
namespace Go.Proofs.Ytoipcfpbkjanhaa

theorem clp_mid {n hi : Int} (h1 : 0 ≤ n) (h2 : n ≤ hi) : clp n hi = n := by unfold clp; split <;> (try split) <;> omega
theorem smp_at (w h x y : Nat) (xs : List Int) (hx : x < w) (hy : y < h) : smpAt (w : Int) (h : Int) xs (x : Int) (y : Int) = xs[y * w + x]?.getD 0 := by
  unfold smpAt
  rw [clp_mid (by omega) (by omega), clp_mid (by omega) (by omega)]
  have e : ((y : Int) * (w : Int) + (x : Int)).toNat = y * w + x := by
    rw [← Int.natCast_mul, ← Int.natCast_add]; exact Int.toNat_natCast _
  rw [e]
theorem sumTo_two (f : Nat → Int) (n : Nat) : sumTo f (2 * n) = sumTo (fun j => f (2 * j) + f (2 * j + 1)) n := by
  induction n with
  | zero => rfl
  | succ n ih =>
    rw [show 2 * (n + 1) = 2 * n + 1 + 1 by omega, sumTo, sumTo, ih, sumTo]
    omega
theorem hafS_at (w h i j : Nat) (xs : List Int) (hi : i < w) (hj : j < h) : hafS ((2 * w : Nat) : Int) ((2 * h : Nat) : Int) xs i j =
    (xs[2 * j * (2 * w) + 2 * i]?.getD 0 + xs[2 * j * (2 * w) + (2 * i + 1)]?.getD 0) + (xs[(2 * j + 1) * (2 * w) + 2 * i]?.getD 0 + xs[(2 * j + 1) * (2 * w) + (2 * i + 1)]?.getD 0) := by
  unfold hafS
  have e1 : 2 * (i : Int) = ((2 * i : Nat) : Int) := by omega
  have e2 : 2 * (j : Int) = ((2 * j : Nat) : Int) := by omega
  have e3 : ((2 * i : Nat) : Int) + 1 = ((2 * i + 1 : Nat) : Int) := by omega
  have e4 : ((2 * j : Nat) : Int) + 1 = ((2 * j + 1 : Nat) : Int) := by omega
  rw [e1, e2, e3, e4, smp_at _ _ _ _ _ (by omega) (by omega), smp_at _ _ _ _ _ (by omega) (by omega), smp_at _ _ _ _ _ (by omega) (by omega), smp_at _ _ _ _ _ (by omega) (by omega)]
  omega
theorem half_sum (w h : Nat) (xs : List Int) : sumTo (fun k => xs[k]?.getD 0) (2 * h * (2 * w)) = sumTo (fun k => hafS ((2 * w : Nat) : Int) ((2 * h : Nat) : Int) xs (k % w) (k / w)) (h * w) := by
  rw [sumTo_mul _ (2 * w) (2 * h), sumTo_mul _ w h, sumTo_two]
  refine sumTo_congr fun j hj => ?_
  rw [sumTo_two, sumTo_two, ← sumTo_plus]
  refine sumTo_congr fun i hi => ?_
  show _ = hafS _ _ xs ((j * w + i) % w) ((j * w + i) / w)
  rw [row_mod _ _ _ hi, row_div _ _ _ hi, hafS_at w h i j xs hi hj]
theorem near_sum (s f : Nat → Int) (n : Nat) (h : ∀ k, k < n → f k = (s k + 2) / 4) : -(n : Int) ≤ 4 * sumTo f n - sumTo s n ∧ 4 * sumTo f n - sumTo s n ≤ 2 * (n : Int) := by
  induction n with
  | zero => simp [sumTo]
  | succ n ih =>
    have := ih fun k hk => h k (by omega)
    have e := h n (by omega)
    rw [sumTo, sumTo]
    omega
theorem allB_mk {xs : List Int} (h : ∀ k, k < xs.length → 0 ≤ xs[k]?.getD 0 ∧ xs[k]?.getD 0 ≤ 255) : allB xs = true := by
  unfold allB
  rw [List.all_eq_true]
  intro x hx
  obtain ⟨i, hi, rfl⟩ := List.mem_iff_getElem.1 hx
  have := h i hi
  rw [List.getElem?_eq_getElem hi] at this
  exact decide_eq_true this
theorem picB_pixL (f : Nat → Nat → Int) (w h : Nat) (hw : 8 ≤ w ∧ w ≤ 32 ∧ w % 8 = 0) (hh : 8 ≤ h ∧ h ≤ 32 ∧ h % 8 = 0) (hf : ∀ x y, 0 ≤ f x y ∧ f x y ≤ 255) : picB (w : Int) (h : Int) (pixL f w h) = true := by
  have ha : allB (pixL f w h) = true := allB_mk fun k hk => by
    rw [length_pixL] at hk
    unfold pixL
    rw [tab_get _ _ _ hk]
    exact hf _ _
  unfold picB sideB
  rw [ha, length_pixL]
  simp only [Bool.and_true, Bool.and_eq_true, decide_eq_true_eq]
  exact ⟨by omega, by omega, by rw [Int.natCast_mul, Int.mul_comm]⟩
theorem hafF_in {W H : Int} {xs : List Int} (h : picB W H xs = true) (x y : Nat) : 0 ≤ hafF W H xs x y ∧ hafF W H xs x y ≤ 255 := by
  unfold hafF hafS
  have a := smp_in h (2 * (x : Int)) (2 * (y : Int))
  have b := smp_in h (2 * (x : Int) + 1) (2 * (y : Int))
  have c := smp_in h (2 * (x : Int)) (2 * (y : Int) + 1)
  have d := smp_in h (2 * (x : Int) + 1) (2 * (y : Int) + 1)
  omega
theorem tab_const (f : Nat → Int) (n : Nat) (V : Int) (h : ∀ k, k < n → f k = V) : tab f n = List.replicate n V := by
  unfold tab
  rw [List.map_congr_left (g := fun _ => V) (fun k hk => h k (by simpa using hk)), List.map_const', List.length_range]
theorem picB_flat (w h : Nat) (V : Int) (hw : 8 ≤ w ∧ w ≤ 32 ∧ w % 8 = 0) (hh : 8 ≤ h ∧ h ≤ 32 ∧ h % 8 = 0) (hV : 0 ≤ V ∧ V ≤ 255) : picB (w : Int) (h : Int) (List.replicate (h * w) V) = true := by
  have := picB_pixL (fun _ _ => V) w h hw hh (fun _ _ => hV)
  rwa [pixL, tab_const _ _ V (fun _ _ => rfl)] at this
theorem hafF_flat (w h x y : Nat) (hx : x < w) (hy : y < h) : hafF ((2 * w : Nat) : Int) ((2 * h : Nat) : Int) (List.replicate (2 * h * (2 * w)) 33) x y = 33 := by
  unfold hafF
  rw [hafS_at w h x y _ hx hy]
  have g : ∀ k, k < 2 * h * (2 * w) → (List.replicate (2 * h * (2 * w)) (33 : Int))[k]?.getD 0 = 33 := fun k hk => by simp [hk]
  rw [g _ (row_lt _ _ _ _ (by omega) (by omega)), g _ (row_lt _ _ _ _ (by omega) (by omega)), g _ (row_lt _ _ _ _ (by omega) (by omega)), g _ (row_lt _ _ _ _ (by omega) (by omega))]
  rfl
theorem sum_bnd (f : Nat → Int) (M : Int) (h : ∀ k, 0 ≤ f k ∧ f k ≤ M) (k : Nat) : 0 ≤ sumTo f k ∧ sumTo f k ≤ k * M := by
  induction k with
  | zero => simp [sumTo]
  | succ k ih =>
    have := h k
    rw [sumTo, Int.natCast_succ, Int.add_mul, Int.one_mul]
    omega
/-- what HalfSize makes of a valid picture that can be halved -/
theorem half_laws {W H : Int} {xs : List Int} (h : picB W H xs = true) (h1 : sideOk (W / 2)) (h2 : sideOk (H / 2)) :
    ∃ w k : Nat, W / 2 = (w : Int) ∧ H / 2 = (k : Int) ∧ W = ((2 * w : Nat) : Int) ∧ H = ((2 * k : Nat) : Int) ∧ (8 ≤ w ∧ w ≤ 16 ∧ w % 8 = 0) ∧ (8 ≤ k ∧ k ≤ 16 ∧ k % 8 = 0) ∧ xs.length = 4 * (k * w) ∧ xs.length = 2 * k * (2 * w) ∧ halfP W H xs = ((w : Int), (k : Int), pixL (hafF W H xs) w k) ∧
      picB (w : Int) (k : Int) (pixL (hafF W H xs) w k) = true ∧
      (-(2 * (k * w : Nat) : Int) ≤ 4 * sumTo (fun i => (pixL (hafF W H xs) w k)[i]?.getD 0) (k * w) - sumTo (fun i => xs[i]?.getD 0) xs.length ∧ 4 * sumTo (fun i => (pixL (hafF W H xs) w k)[i]?.getD 0) (k * w) - sumTo (fun i => xs[i]?.getD 0) xs.length ≤ 2 * ((k * w : Nat) : Int)) ∧
      halfP W H (List.replicate xs.length 33) = ((w : Int), (k : Int), List.replicate (k * w) 33) := by
  obtain ⟨pW, pH, pl, pa⟩ := picB_parts h
  unfold sideOk at h1 h2
  obtain ⟨w, hw⟩ : ∃ w : Nat, W / 2 = (w : Int) := ⟨(W / 2).toNat, by omega⟩
  obtain ⟨k, hk⟩ : ∃ k : Nat, H / 2 = (k : Int) := ⟨(H / 2).toNat, by omega⟩
  have eW : W = ((2 * w : Nat) : Int) := by omega
  have eH : H = ((2 * k : Nat) : Int) := by omega
  have el : xs.length = 2 * k * (2 * w) := by
    rw [eW, eH, ← Int.natCast_mul] at pl
    have := Int.ofNat.inj pl
    rw [this, Nat.mul_comm]
  have el4 : xs.length = 4 * (k * w) := by rw [el, Nat.mul_mul_mul_comm]
  have s1 : sideOk (W / 2) := by unfold sideOk; omega
  have s2 : sideOk (H / 2) := by unfold sideOk; omega
  have hP : halfP W H xs = ((w : Int), (k : Int), pixL (hafF W H xs) w k) := by
    rw [halfP, if_pos ⟨h, s1, s2⟩, hw, hk]; rfl
  refine ⟨w, k, hw, hk, eW, eH, by omega, by omega, el4, el, hP, picB_pixL _ _ _ (by omega) (by omega) (hafF_in h), ?_, ?_⟩
  · have hs := half_sum w k xs
    have hn := near_sum (fun i => hafS W H xs (i % w) (i / w)) (fun i => (pixL (hafF W H xs) w k)[i]?.getD 0) (k * w) (fun i hi => by
      show (pixL (hafF W H xs) w k)[i]?.getD 0 = _
      unfold pixL
      rw [tab_get _ _ _ hi]; rfl)
    rw [eW, eH] at hn
    rw [← hs, ← el] at hn
    rw [← eW, ← eH] at hn
    omega
  · have hf : picB W H (List.replicate xs.length 33) = true := by
      rw [eW, eH, el]
      exact picB_flat (2 * w) (2 * k) 33 (by omega) (by omega) (by omega)
    rw [halfP, if_pos ⟨hf, s1, s2⟩, hw, hk]
    show ((w : Int), (k : Int), pixL (hafF W H (List.replicate xs.length 33)) w k) = _
    have : pixL (hafF W H (List.replicate xs.length 33)) w k = List.replicate (k * w) 33 := by
      unfold pixL
      refine tab_const _ _ _ fun i hi => ?_
      have hw0 : 0 < w := by omega
      have h1 : i % w < w := Nat.mod_lt _ hw0
      have h2 : i / w < k := Nat.div_lt_of_lt_mul (by rw [Nat.mul_comm]; exact hi)
      show hafF W H _ (i % w) (i / w) = 33
      rw [eW, eH, el]
      exact hafF_flat w k _ _ h1 h2
    rw [this]
/-- what DoubleSize makes of a valid picture that can be doubled -/
theorem doub_laws {W H : Int} {xs : List Int} (h : picB W H xs = true) (h1 : sideOk (2 * W)) (h2 : sideOk (2 * H)) :
    ∃ w k : Nat, W = (w : Int) ∧ H = (k : Int) ∧ (8 ≤ w ∧ w ≤ 16 ∧ w % 8 = 0) ∧ (8 ≤ k ∧ k ≤ 16 ∧ k % 8 = 0) ∧ xs.length = k * w ∧ doubP W H xs = (((2 * w : Nat) : Int), ((2 * k : Nat) : Int), pixL (dblF W H xs) (2 * w) (2 * k)) ∧
      picB ((2 * w : Nat) : Int) ((2 * k : Nat) : Int) (pixL (dblF W H xs) (2 * w) (2 * k)) = true ∧
      (pixL (dblF W H xs) (2 * w) (2 * k)).length = 4 * xs.length ∧
      ∀ i : Nat, i < xs.length → smpAt ((2 * w : Nat) : Int) ((2 * k : Nat) : Int) (pixL (dblF W H xs) (2 * w) (2 * k)) (2 * ((i : Int) % W)) (2 * ((i : Int) / W)) = xs[i]?.getD 0 := by
  obtain ⟨pW, pH, pl, pa⟩ := picB_parts h
  unfold sideOk at h1 h2
  obtain ⟨w, rfl⟩ : ∃ w : Nat, W = (w : Int) := ⟨W.toNat, by omega⟩
  obtain ⟨k, rfl⟩ : ∃ k : Nat, H = (k : Int) := ⟨H.toNat, by omega⟩
  have el : xs.length = k * w := by
    rw [← Int.natCast_mul] at pl
    have := Int.ofNat.inj pl
    rw [this, Nat.mul_comm]
  have s1 : sideOk (2 * (w : Int)) := by unfold sideOk; omega
  have s2 : sideOk (2 * (k : Int)) := by unfold sideOk; omega
  have e1 : 2 * (w : Int) = ((2 * w : Nat) : Int) := by omega
  have e2 : 2 * (k : Int) = ((2 * k : Nat) : Int) := by omega
  refine ⟨w, k, rfl, rfl, by omega, by omega, el, ?_, picB_pixL _ _ _ (by omega) (by omega) (fun x y => half_in h _ _), by rw [length_pixL, el, Nat.mul_mul_mul_comm], fun i hi => ?_⟩
  · rw [doubP, if_pos ⟨h, s1, s2⟩, e1, e2]; rfl
  · have hw0 : 0 < w := by omega
    rw [el] at hi
    have m1 : i % w < w := Nat.mod_lt _ hw0
    have m2 : i / w < k := Nat.div_lt_of_lt_mul (by rw [Nat.mul_comm]; exact hi)
    rw [← Int.natCast_emod, ← Int.natCast_ediv]
    have x1 : 2 * ((i % w : Nat) : Int) = ((2 * (i % w) : Nat) : Int) := by omega
    have x2 : 2 * ((i / w : Nat) : Int) = ((2 * (i / w) : Nat) : Int) := by omega
    rw [x1, x2, smp_at _ _ _ _ _ (by omega) (by omega)]
    unfold pixL
    rw [tab_get _ _ _ (row_lt _ _ _ _ (by omega) (by omega)), row_mod _ _ _ (by omega), row_div _ _ _ (by omega)]
    show halfAt _ _ xs ((2 * (i % w) : Nat) : Int) ((2 * (i / w) : Nat) : Int) = _
    unfold halfAt
    rw [if_pos (by omega), if_pos (by omega), show ((2 * (i % w) : Nat) : Int) / 2 = ((i % w : Nat) : Int) by omega, show ((2 * (i / w) : Nat) : Int) / 2 = ((i / w : Nat) : Int) by omega, smp_at _ _ _ _ _ m1 m2]
    rw [Nat.mul_comm, Nat.div_add_mod]
end Go.Proofs.Ytoipcfpbkjanhaa

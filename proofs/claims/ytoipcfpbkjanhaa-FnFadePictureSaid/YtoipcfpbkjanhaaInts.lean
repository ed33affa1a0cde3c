/-
  What the laws' own helpers on lists of numbers do: toIntS copies, eqIntS compares, markIntS numbers the places, heldIntS asks for these numbers.
-/
import Derived.Test.YtoipcfpbkjanhaaAppend
namespace Go.Proofs.Ytoipcfpbkjanhaa
open Go.RowKit

theorem take_eq_next (xs ys : List Int) (k : Nat) (hx : k < xs.length) (hy : k < ys.length) (h : xs.take k = ys.take k) (he : xs[k]?.getD 0 = ys[k]?.getD 0) : xs.take (k + 1) = ys.take (k + 1) := by
  rw [take_succ_getD _ _ hx, take_succ_getD _ _ hy, h, he]

set_option maxHeartbeats 400000 in
theorem eqIntS (A A' : Option Addr) (n n' c c' B B' : Nat) (xs ys : List Int) (w : World) (hx : Rd w B A xs) (hy : Rd w B' A' ys) (hn : xs.length = n) (hn' : ys.length = n') (lx : n ≤ maxLen) (ly : n' ≤ maxLen) :
    Calls Try.prog 17 #[.slice A n c, .slice A' n' c'] w fun e w' => e = .returned (.bool (xs == ys)) ∧ ∃ k, w' = w.drewN k := by
  unfold maxLen at lx ly
  have Hn := Lib.hid hn
  have Hn' := Lib.hid hn'
  by_cases hl : n = n'
  · subst hl
    clear hn hn'
    go_enter Try.func17, Try.ntmps17
    go_wp2
    go_loopw [5] (fun i wr => ∃ k : Nat, k ≤ n ∧ i = .int .i64 k ∧ (∃ d, wr = w.drewN d) ∧ Hid (xs.take k = ys.take k)) (fun i _ => n - (intOf i).toNat)
    case atStart => exact ⟨0, Nat.zero_le _, rfl, ⟨0, rfl⟩, by simp [Hid]⟩
    case round =>
      obtain ⟨k, hk, rfl, ⟨d, rfl⟩, ht⟩ := hrel
      by_cases hlt : k < n
      · obtain ⟨b, o, rfl, _, hc⟩ := hx (by rw [Hn.out]; omega)
        obtain ⟨b', o', rfl, _, hc'⟩ := hy (by rw [Hn'.out]; omega)
        have h1 := hc k (by rw [Hn.out]; omega)
        have h2 := hc' k (by rw [Hn'.out]; omega)
        clear hc hc' hx hy
        by_cases he : xs[k]?.getD 0 = ys[k]?.getD 0
        · have he' : ((xs[k]?.getD 0) != (ys[k]?.getD 0)) = false := by simp [he]
          have He := Lib.hid he
          clear he
          go_wp2
          go_quiet (fail)
          go_wp2
          go_roundw
          case rel => exact ⟨k + 1, by omega, by go_num, ⟨_, by first | rfl | exact World.drewN_drewN _ _ _⟩, take_eq_next _ _ _ (by rw [Hn.out]; omega) (by rw [Hn'.out]; omega) ht.out He.out⟩
          case measure => simp [intOf]; omega
        · have he' : ((xs[k]?.getD 0) != (ys[k]?.getD 0)) = true := by simp [he]
          have He := Lib.hid he
          clear he
          go_wp2
          go_quiet (fail)
          go_wp2
          go_ret
          refine ⟨?_, ⟨_, by first | rfl | exact World.drewN_drewN _ _ _⟩⟩
          have : (xs == ys) = false := by
            rw [beq_eq_false_iff_ne]
            intro e
            exact He.out (by rw [e])
          rw [this]; rfl
      · go_wp2
        go_ret
        have : (xs == ys) = true := by
          rw [beq_iff_eq]
          have h := ht.out
          have : k = n := by omega
          rw [List.take_of_length_le (by rw [Hn.out]; omega), List.take_of_length_le (by rw [Hn'.out]; omega)] at h
          exact h
        exact ⟨by rw [this]; rfl, _, rfl⟩
  · have hl' : ((n : Int) != (n' : Int)) = true := by rw [bne_iff_ne]; omega
    have Hl := Lib.hid hl
    clear hl hn hn'
    go_enter Try.func17, Try.ntmps17
    go_wp2
    go_ret
    have : (xs == ys) = false := by
      rw [beq_eq_false_iff_ne]
      intro e
      exact Hl.out (by rw [← Hn.out, ← Hn'.out, e])
    exact ⟨by rw [this]; rfl, 0, rfl⟩

/-- k, k + 1, .. -/
def upFrom (k : Int) : Nat → List Int
  | 0 => []
  | n + 1 => k :: upFrom (k + 1) n

theorem length_upFrom (k : Int) (n : Nat) : (upFrom k n).length = n := by
  induction n generalizing k with
  | zero => rfl
  | succ n ih => simp [upFrom, ih]
theorem upFrom_get (k : Int) (n i : Nat) (h : i < n) : (upFrom k n)[i]?.getD 0 = k + i := by
  induction n generalizing k i with
  | zero => omega
  | succ n ih =>
    cases i with
    | zero => simp [upFrom]
    | succ i => simp only [upFrom, List.getElem?_cons_succ, ih (k + 1) i (by omega)]; omega
theorem upFrom_succ (k : Int) (n : Nat) : upFrom k (n + 1) = upFrom k n ++ [k + n] := by
  induction n generalizing k with
  | zero => simp [upFrom]
  | succ n ih => rw [upFrom, ih, upFrom]; simp; omega
theorem mark_next (k : Int) (xs : List Int) (i : Nat) (h : i < xs.length) : (upFrom k i ++ xs.drop i).set i (k + i) = upFrom k (i + 1) ++ xs.drop (i + 1) := by
  rw [upFrom_succ, List.set_append_right _ _ (by rw [length_upFrom]; omega), length_upFrom, Nat.sub_self, List.drop_eq_getElem_cons h, List.set_cons_zero, List.append_assoc]
  rfl

theorem fill_next (xs : List Int) (k : Nat) (h : k < xs.length) : (xs.take k ++ List.replicate (xs.length - k) 0).set k (xs[k]?.getD 0) = xs.take (k + 1) ++ List.replicate (xs.length - (k + 1)) 0 := by
  rw [take_succ_getD _ _ h, List.set_append_right _ _ (by simp; omega)]
  rw [show xs.length - k = (xs.length - (k + 1)) + 1 by omega, List.replicate_succ]
  simp [show k - min k xs.length = 0 by omega]

set_option maxHeartbeats 400000 in
theorem toIntS (A : Option Addr) (n c B : Nat) (xs : List Int) (w : World) (hx : Rd w B A xs) (hn : xs.length = n) (lx : n * 8 ≤ 281474976710656) (hB : B ≤ w.heap.size) :
    Calls Try.prog 46 #[.slice A n c] w fun e w' => ∃ v, e = .returned v ∧ Own w' w.heap.size v n xs ∧ Q w w' := by
  have Hn := Lib.hid hn
  clear hn
  obtain ⟨i0, hi, hz0, hz1, hz2⟩ := info_parts info_int
  have Hi := Lib.hid hi; clear hi
  have Hz0 := Lib.hid hz0; clear hz0
  have Hz1 := Lib.hid hz1; clear hz1
  have Hz2 := Lib.hid hz2; clear hz2
  have lx2 : n ≤ 9223372036854775807 := by omega
  go_enter Try.func46, Try.ntmps46
  go_wp2_with (at_make; refine wpList_make_full _ rfl (.tmp 6) (.tmp 6) 22 rfl w.heap.size 3 i0 (.int .i64 0) 1 Try.underlying22 Hi.out Hz0.out Hz1.out .i64 .i64 n n n rfl rfl rfl rfl (by rw [Hz2.out]; omega) (by unfold maxLen; omega) (Nat.le_refl _) ?_; intro w1 hown hgrow)
  have hgr := hgrow.size
  have ho : Own w1 w.heap.size (.slice (some ⟨w.heap.size, 0, none⟩) n n) n (List.replicate n 0) := ⟨by simp, by simpa [Value.cells, toList_madeCells_one] using hown⟩
  have hq : Q w w1 := Q.of_none hgrow
  clear hown hgrow
  go_loopw [4] (fun i wr => ∃ k : Nat, k ≤ n ∧ i = .int .i64 k ∧ Q w wr ∧ Own wr w.heap.size (.slice (some ⟨w.heap.size, 0, none⟩) n n) n (xs.take k ++ List.replicate (n - k) 0)) (fun i _ => n - (intOf i).toNat)
  case atStart => exact ⟨0, Nat.zero_le _, rfl, hq, by simpa using ho⟩
  case round =>
    obtain ⟨k, hk, rfl, hq1, ho1⟩ := hrel
    clear hq ho
    by_cases hlt : k < n
    · obtain ⟨b, o, rfl, hb, hc⟩ := hx (by rw [Hn.out]; omega)
      have h1 : wr.cell? ⟨b, o + k, none⟩ = _ := (hq1.cell b _ (by omega)).trans (hc k (by rw [Hn.out]; omega))
      have h2 := ho1.at k hlt
      have h3 := ho1.free k
      have h4 := ho1.set k (xs[k]?.getD 0)
      have h5 := hq1.set (p := ⟨w.heap.size, k, none⟩) (Nat.le_refl _) (.int .i64 (xs[k]?.getD 0))
      have H4 := Lib.hid h4
      have H5 := Lib.hid h5
      clear h4 h5 hq1 ho1 hc hx
      go_wp2
      go_roundw
      case rel => exact ⟨k + 1, by omega, by go_num, H5.out, by have h := H4.out; rw [← Hn.out, fill_next xs k (by rw [Hn.out]; exact hlt), Hn.out] at h; exact h⟩
      case measure => simp [intOf]; omega
    · go_wp2
      go_ret
      have : k = n := by omega
      subst this
      exact ⟨_, rfl, by simpa [List.take_of_length_le (Nat.le_of_eq Hn.out)] using ho1, hq1⟩

set_option maxHeartbeats 400000 in
theorem markIntS (v : Value) (n B : Nat) (k0 : Int) (xs : List Int) (w : World) (hx : Own w B v n xs) (hk0 : 0 ≤ k0) (hk1 : k0 ≤ 1000000000000) (lx : n ≤ 1000000000000) :
    Calls Try.prog 20 #[v, .int .i64 k0] w fun e w' => e = .returned (.int .i64 (k0 + n)) ∧ Own w' B v n (upFrom k0 n) ∧ w.grownBy w' v.ownBlock := by
  have Hl := Lib.hid hx.len
  rcases hx.form' with ⟨rfl, rfl⟩ | ⟨g, c, rfl, hB, hg, _, _⟩
  · have hxs : xs = [] := List.length_eq_zero_iff.1 Hl.out
    subst hxs
    go_enter Try.func20, Try.ntmps20
    go_wp2
    refine wp_loop_rounds 1 ?_; rw [rounds_succ]
    go_wp2
    go_ret
    exact ⟨by simp, hx, World.grownBy.refl _ _⟩
  · go_enter Try.func20, Try.ntmps20
    go_wp2
    go_loopw [1, 5] (fun q i wr => ∃ k : Nat, k ≤ n ∧ i = .int .i64 k ∧ q = .int .i64 (k0 + k) ∧ w.grownBy wr (some g) ∧ Own wr B (.slice (some ⟨g, 0, none⟩) n c) n (upFrom k0 k ++ xs.drop k)) (fun _ i _ => n - (intOf i).toNat)
    case atStart => exact ⟨0, Nat.zero_le _, rfl, by simp, World.grownBy.refl _ _, by simpa [upFrom] using hx⟩
    case round =>
      obtain ⟨k, hk, rfl, rfl, hq1, ho1⟩ := hrel
      clear hx
      by_cases hlt : k < n
      · have h2 := ho1.at k hlt
        have h3 := ho1.free k
        have h4 := ho1.set k (k0 + k)
        have h5 := grownBy_set hq1 k (.int .i64 (k0 + k))
        have H4 := Lib.hid h4
        have H5 := Lib.hid h5
        clear h4 h5 hq1 ho1
        go_wp2
        go_roundw
        case rel => exact ⟨k + 1, by omega, by go_num, by go_num, H5.out, by have h := H4.out; rw [mark_next _ _ _ (by rw [Hl.out]; exact hlt)] at h; exact h⟩
        case measure => simp [intOf]; omega
      · go_wp2
        go_ret
        have : k = n := by omega
        subst this
        exact ⟨rfl, by simpa [List.drop_of_length_le (Nat.le_of_eq Hl.out)] using ho1, hq1⟩

set_option maxHeartbeats 400000 in
theorem heldIntS (v : Value) (n B : Nat) (k0 : Int) (w : World) (hx : Own w B v n (upFrom k0 n)) (hk0 : 0 ≤ k0) (hk1 : k0 ≤ 1000000000000) (lx : n ≤ 1000000000000) :
    Calls Try.prog 21 #[v, .int .i64 k0] w fun e w' => e = .returned (.int .i64 (k0 + n)) ∧ ∃ d, w' = w.drewN d := by
  rcases hx.form' with ⟨rfl, rfl⟩ | ⟨g, c, rfl, hB, hg, _, _⟩
  · go_enter Try.func21, Try.ntmps21
    go_wp2
    refine wp_loop_rounds 1 ?_; rw [rounds_succ]
    go_wp2
    go_ret
    exact ⟨by simp, 0, rfl⟩
  · go_enter Try.func21, Try.ntmps21
    go_wp2
    go_loopw [1, 5] (fun q i wr => ∃ k : Nat, k ≤ n ∧ i = .int .i64 k ∧ q = .int .i64 (k0 + k) ∧ ∃ d, wr = w.drewN d) (fun _ i _ => n - (intOf i).toNat)
    case atStart => exact ⟨0, Nat.zero_le _, rfl, by simp, 0, rfl⟩
    case round =>
      obtain ⟨k, hk, rfl, rfl, d, rfl⟩ := hrel
      by_cases hlt : k < n
      · have h2 := hx.at k hlt
        rw [upFrom_get _ _ _ hlt] at h2
        clear hx
        go_wp2
        go_roundw
        case rel => exact ⟨k + 1, by omega, by go_num, by go_num, ⟨_, by first | rfl | exact World.drewN_drewN _ _ _⟩⟩
        case measure => simp [intOf]; omega
      · go_wp2
        go_ret
        have : k = n := by omega
        subst this
        exact ⟨rfl, d, rfl⟩
end Go.Proofs.Ytoipcfpbkjanhaa

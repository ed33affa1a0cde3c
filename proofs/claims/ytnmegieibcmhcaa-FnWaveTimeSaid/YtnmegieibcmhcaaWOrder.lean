/-
  WaveOrder of the program: all macroblocks, sorted by their steps.
-/
import Derived.Test.YtnmegieibcmhcaaSorts2
import Derived.Test.YtnmegieibcmhcaaInts
namespace Go.Proofs.Ytnmegieibcmhcaa
open Go.RowKit

set_option maxHeartbeats 1000000 in
theorem stable_any (c r : Int) (B g n cap m : Nat) (xs : List Int) (w : World) (h1 : 1 ≤ c) (h2 : c ≤ 4) (hn : n ≤ 16) (hmg : m ≠ g) (hx : SortRel w w B g n cap m c r xs) :
    Calls Try.prog 71 #[.slice (some ⟨g, 0, none⟩) n cap, .int .i64 n, .func (.func 69) #[] #[.pointer (some ⟨m, 0, none⟩)]] w fun e w' =>
      e = .returned (.tuple #[]) ∧ SortRel w w' B g n cap m c r (insSort (stepVal c) xs) := by
  have HX := Lib.hid hx
  clear hx
  go_enter Try.func71, Try.ntmps71
  go_wp2_with fail
  refine wp_loop_rounds 1 ?_; rw [rounds_succ]
  go_wp2_with fail
  refine (insertion_any c r B g n cap m xs _ h1 h2 hn hmg HX.out).mono ?_; rintro e w' ⟨rfl, hr⟩
  have HR := Lib.hid hr
  clear hr
  go_wp2_with fail
  refine wp_loop_rounds 1 ?_; rw [rounds_succ]
  go_wp2_with fail
  go_end0
  exact ⟨rfl, HR.out⟩
theorem sort_any (c r : Int) (B g n cap m : Nat) (xs : List Int) (w : World) (h1 : 1 ≤ c) (h2 : c ≤ 4) (hn : n ≤ 16) (hmg : m ≠ g) (hx : SortRel w w B g n cap m c r xs) :
    Calls Try.prog 68 #[.slice (some ⟨g, 0, none⟩) n cap, .func (.func 69) #[] #[.pointer (some ⟨m, 0, none⟩)]] w fun e w' =>
      e = .returned (.tuple #[]) ∧ SortRel w w' B g n cap m c r (insSort (stepVal c) xs) := by
  have HX := Lib.hid hx
  clear hx
  go_enter Try.func68, Try.ntmps68
  go_wp2_with fail
  refine (stable_any c r B g n cap m xs _ h1 h2 hn hmg HX.out).mono ?_; rintro e w' ⟨rfl, hr⟩
  have HR := Lib.hid hr
  clear hr
  go_wp2_with fail
  go_end0
  exact ⟨rfl, HR.out⟩

theorem inR_up (n : Nat) (h : n ≤ 16) : inR 16 (upFrom 0 n) := fun k hk => by
  rw [length_upFrom] at hk
  rw [upFrom_get _ _ _ hk]
  omega

set_option maxRecDepth 100000 in
set_option maxHeartbeats 2000000 in
theorem wave_order (c r : Int) (N : Nat) (w : World) (h1 : 1 ≤ c) (h2 : c ≤ 4) (hN : c * r = N) (hN16 : N ≤ 16) :
    Calls Try.prog 65 #[.agg #[.int .i64 c, .int .i64 r]] w fun e w' => ∃ v, e = .returned v ∧ Own w' w.heap.size v N (insSort (stepVal c) (upFrom 0 N)) ∧ Q w w' := by
  have HN := Lib.hid hN
  have hcr : 0 ≤ c * r := by omega
  have hcr' : c * r ≤ 16 := by omega
  clear hN
  have b0 := Blk.new w 61 #[.int .i64 c, .int .i64 r]
  have q0 : Q w (w.alloc (.cells #[.int .i64 c, .int .i64 r] 61)) := (by repeat (first | exact Q.refl _ | assumption | refine Q.drewN ?_ _ | refine Q.drew ?_ | refine Q.alloc ?_ _ | refine Q.trans ?_ (by assumption) | refine Q.set ?_ (by first | exact Nat.le_refl _ | omega | (simp; done) | (simp; omega)) _))
  go_enter Try.func65, Try.ntmps65
  go_wp2_with (at_make; refine wpList_make_int rfl _ _ rfl (w.alloc (.cells #[.int .i64 c, .int .i64 r] 61)) N _ _ rfl rfl HN.out HN.out (by omega) (Q.refl _) ?_; intro w1 o1 q1 s1)
  have b1 := b0.q q1
  have Q1 := q0.trans q1
  have hg : (w.alloc (.cells #[.int .i64 c, .int .i64 r] 61)).heap.size = w.heap.size + 1 := World.size_alloc _ _
  rw [hg] at o1 s1
  have hgw : w.heap.size < w.heap.size + 1 := Nat.lt_succ_self _
  generalize w.heap.size + 1 = g at o1 s1 hgw ⊢
  have O1 : Hid (Own w1 g (.slice (some ⟨g, 0, none⟩) N N) N (upFrom 0 0 ++ (List.replicate N 0).drop 0)) := o1
  have QQ1 := Lib.hid Q1
  clear o1 q1 q0 b0 hg Q1
  go_wp2_with fail
  go_loopw [13] (fun i wr => ∃ k : Nat, k ≤ N ∧ i = .int .i64 k ∧ Own wr g (.slice (some ⟨g, 0, none⟩) N N) N (upFrom 0 k ++ (List.replicate N 0).drop k) ∧ Q w wr ∧ Blk wr w.heap.size 61 #[.int .i64 c, .int .i64 r]) (fun i _ => N - (intOf i).toNat)
  case atStart => exact ⟨0, Nat.zero_le _, rfl, O1.out, QQ1.out, b1⟩
  case round =>
    obtain ⟨k, hk, rfl, ho, hq, hb⟩ := hrel
    clear b1
    by_cases hlt : k < N
    · have c1 := ho.at k hlt
      have f1 := ho.free k
      have o2 := ho.set k k
      have q2 := hq.set (p := ⟨g, k, none⟩) (by show w.heap.size ≤ g; omega) (.int .i64 k)
      have b2 := hb.far (p := ⟨g, k, none⟩) (by show w.heap.size ≠ g; omega) (.int .i64 k)
      have O2 := Lib.hid o2
      have Q2 := Lib.hid q2
      have B2 := Lib.hid b2
      clear ho hq hb o2 q2 b2
      go_wp2_with fail
      go_roundw
      case rel => exact ⟨k + 1, by omega, by go_num, by have h := O2.out; have e := mark_next 0 (List.replicate N 0) k (by simpa using hlt); rw [Int.zero_add] at e; rw [e] at h; exact h, Q2.out, B2.out⟩
      case measure => simp [intOf]; omega
    · have hkN : k = N := by omega
      subst hkN
      have ho' : Own wr g (.slice (some ⟨g, 0, none⟩) k k) k (upFrom 0 k) := by
        have e : upFrom 0 k ++ (List.replicate k 0).drop k = upFrom 0 k := by rw [List.drop_of_length_le (by simp), List.append_nil]
        rw [e] at ho; exact ho
      have HS : Hid (SortRel wr wr g g k k w.heap.size c r (upFrom 0 k)) := ⟨ho', inR_up k hN16, World.grownBy.refl _ _, hb⟩
      have HQ := Lib.hid hq
      clear ho ho' hb hq
      go_wp2_with fail
      refine (sort_any c r g g k k w.heap.size _ _ h1 h2 hN16 (by omega) HS.out).mono ?_; rintro e w2 ⟨rfl, hr⟩
      have HR := Lib.hid hr
      clear hr
      go_wp2_with fail
      go_ret
      exact ⟨_, rfl, HR.out.1.mono (by omega), HQ.out.grown HR.out.2.2.1 (fun j e => by cases e; omega)⟩

def waveOrder (c r : Int) : List Int := if sizeOk c r then insSort (stepVal c) (upFrom 0 (c * r).toNat) else []
theorem length_insIn (f : Int → Int) (j : Nat) (xs : List Int) : (insIn f j xs).length = xs.length := by
  induction j generalizing xs with
  | zero => rfl
  | succ j ih => rw [insIn]; split <;> simp [ih, length_swapL]
theorem length_insOut (f : Int → Int) (m i : Nat) (xs : List Int) : (insOut f m i xs).length = xs.length := by
  induction m generalizing i xs with
  | zero => rfl
  | succ m ih => rw [insOut, ih, length_insIn]
theorem length_insSort (f : Int → Int) (xs : List Int) : (insSort f xs).length = xs.length := length_insOut _ _ _ _
theorem order_le (c r : Int) : (waveOrder c r).length ≤ 16 := by
  unfold waveOrder
  split
  · rename_i h
    have := size_le h
    rw [length_insSort, length_upFrom]
    omega
  · simp

set_option maxHeartbeats 1000000 in
theorem impl_WaveOrder (c r : Int) (w : World) :
    Calls Try.prog 42 #[.int .i64 c, .int .i64 r] w fun e w' => ∃ v, e = .returned v ∧ Own w' w.heap.size v (waveOrder c r).length (waveOrder c r) ∧ Q w w' := by
  by_cases hs : sizeOk c r
  · have hcr := size_le hs
    have hv : waveOrder c r = insSort (stepVal c) (upFrom 0 (c * r).toNat) := if_pos hs
    have hvl : (waveOrder c r).length = (c * r).toNat := by rw [hv, length_insSort, length_upFrom]
    rw [hvl, hv]
    have HD := Lib.hid (decide_eq_true hs)
    obtain ⟨h1, h2, h3, h4⟩ := hs
    clear hv hvl
    go_enter Try.func42, Try.ntmps42
    go_wp2_with fail
    refine (wave_valid _ _ _ _ HD.out).mono ?_; rintro e w1 ⟨rfl, q1⟩; have hqc := q1.cell
    go_wp2_with fail
    refine (wave_order c r (c * r).toNat _ h1 h2 (by omega) (by omega)).mono ?_; rintro e w2 ⟨v, rfl, o2, q2⟩
    have O2 := Lib.hid o2
    clear o2
    go_wp2_with fail
    go_ret
    exact ⟨_, rfl, O2.out.mono (by have := q1.size; simp at this; omega), (by repeat (first | exact Q.refl _ | assumption | refine Q.drewN ?_ _ | refine Q.drew ?_ | refine Q.alloc ?_ _ | refine Q.trans ?_ (by assumption) | refine Q.set ?_ (by first | exact Nat.le_refl _ | omega | (simp; done) | (simp; omega)) _))⟩
  · rw [show waveOrder c r = [] from if_neg hs]
    have HD := Lib.hid (decide_eq_false hs)
    clear hs
    go_enter Try.func42, Try.ntmps42
    go_wp2_with fail
    refine (wave_valid _ _ _ _ HD.out).mono ?_; rintro e w1 ⟨rfl, q1⟩; have hqc := q1.cell
    go_wp2_with fail
    go_ret
    exact ⟨_, rfl, Own.nil _ _, (by repeat (first | exact Q.refl _ | assumption | refine Q.drewN ?_ _ | refine Q.drew ?_ | refine Q.alloc ?_ _ | refine Q.trans ?_ (by assumption) | refine Q.set ?_ (by first | exact Nat.le_refl _ | omega | (simp; done) | (simp; omega)) _))⟩
end Go.Proofs.Ytnmegieibcmhcaa

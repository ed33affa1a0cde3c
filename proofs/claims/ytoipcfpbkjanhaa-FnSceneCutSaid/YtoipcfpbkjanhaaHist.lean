/-
  Histogram, of the program and of the reference.
-/
import Derived.Test.YtoipcfpbkjanhaaPicts
import Derived.StillTailTactics
namespace Go.Proofs.Ytoipcfpbkjanhaa
open Go.RowKit

def histStep (h : List Int) (x : Int) : List Int := h.set (x / 16).toNat (h[(x / 16).toNat]?.getD 0 + 1)
def histOf (xs : List Int) : List Int := xs.foldl histStep (List.replicate 16 0)
def hist (W H : Int) (xs : List Int) : List Int := if picB W H xs = true then histOf xs else []
theorem length_foldl_hist (xs : List Int) : ∀ h : List Int, (xs.foldl histStep h).length = h.length := by
  induction xs with
  | nil => intro h; rfl
  | cons x xs ih => intro h; rw [List.foldl_cons, ih]; simp [histStep]
theorem length_histOf (xs : List Int) : (histOf xs).length = 16 := by unfold histOf; rw [length_foldl_hist]; simp
theorem hist_len (W H : Int) (xs : List Int) : (hist W H xs).length ≤ 16 := by
  unfold hist
  split
  · rw [length_histOf]; omega
  · simp
theorem histOf_take (xs : List Int) (k : Nat) (h : k < xs.length) : histOf (xs.take (k + 1)) = histStep (histOf (xs.take k)) (xs[k]?.getD 0) := by
  unfold histOf
  rw [take_succ_getD _ _ h, List.foldl_append]
  rfl
theorem histStep_get (h : List Int) (x : Int) (i : Nat) : (histStep h x)[i]?.getD 0 = if i = (x / 16).toNat ∧ i < h.length then h[i]?.getD 0 + 1 else h[i]?.getD 0 := by
  unfold histStep
  rw [List.getElem?_set]
  by_cases e : (x / 16).toNat = i
  · rw [if_pos e]
    subst e
    by_cases hl : (x / 16).toNat < h.length
    · rw [if_pos hl, if_pos ⟨rfl, hl⟩]; rfl
    · rw [if_neg hl, if_neg (fun hh => hl hh.2), List.getElem?_eq_none (by omega)]
  · rw [if_neg e, if_neg (fun hh => e hh.1.symm)]
theorem hist_bound (xs : List Int) (k : Nat) (hk : k ≤ xs.length) (i : Nat) : 0 ≤ (histOf (xs.take k))[i]?.getD 0 ∧ (histOf (xs.take k))[i]?.getD 0 ≤ k := by
  induction k with
  | zero =>
    simp only [List.take_zero, histOf, List.foldl_nil]
    rw [List.getElem?_replicate]
    split <;> simp
  | succ k ih =>
    rw [histOf_take _ _ (by omega), histStep_get]
    have := ih (by omega)
    split <;> omega

theorem hist_yes {W H : Int} {xs : List Int} (h : picB W H xs = true) : hist W H xs = histOf xs := if_pos h
theorem hist_no {W H : Int} {xs : List Int} (h : picB W H xs = false) : hist W H xs = [] := if_neg (by rw [h]; exact Bool.false_ne_true)

set_option maxHeartbeats 2000000 in
theorem impl_Histogram (W H : Int) (A : Option Addr) (n c B : Nat) (xs : List Int) (w : World) (hx : Rd w B A xs) (hB : B ≤ w.heap.size) (hn : Hid (xs.length = n)) (hm : n ≤ 9223372036854775807) :
    Calls Try.prog 16 #[.agg #[.int .i64 W, .int .i64 H, .slice A n c]] w fun e w' => ∃ v, e = .returned v ∧ Own w' w.heap.size v (hist W H xs).length (hist W H xs) ∧ Q w w' := by
  have q0 : Q w (w.alloc (.cells #[.int .i64 W, .int .i64 H, .slice A n c] 27)) := (by repeat (first | exact Q.refl _ | assumption | refine Q.drewN ?_ _ | refine Q.drew ?_ | refine Q.alloc ?_ _ | refine Q.trans ?_ (by assumption) | refine Q.set ?_ (by first | exact Nat.le_refl _ | omega | (simp; done) | (simp; omega)) _))
  have b0 := Blk.new w 27 #[.int .i64 W, .int .i64 H, .slice A n c]
  have hs0 := q0.size
  have HX := Lib.hid (hx.q q0 hB)
  clear hx
  cases hp : picB W H xs
  · rw [hist_no hp]
    have HP := Lib.hid hp
    clear hp
    go_enter Try.func16, Try.ntmps16
    go_wp2_with fail
    refine (impl_PictureValid W H A n c _ xs false _ HX.out (Nat.le_trans hB hs0) hn hm HP).mono ?_; rintro e w1 ⟨rfl, q1⟩
    go_wp2_with fail
    go_ret
    exact ⟨_, rfl, Own.nil _ _, q0.trans q1⟩
  · rw [hist_yes hp]
    obtain ⟨pW, pH, pl, pa⟩ := picB_parts hp
    obtain ⟨a1, a2⟩ := area_le pW.1 pW.2.1 pH.1 pH.2.1
    rw [hn.out] at pl
    have n1 : n ≤ 1024 := by omega
    have PA := Lib.hid (allB_get pa)
    have HP := Lib.hid hp
    have HL := Lib.hid (length_histOf xs)
    have h0 : histOf (xs.take 0) = List.replicate 16 0 := rfl
    have H0 := Lib.hid h0
    rw [HL.out]
    clear hp pW pH pl pa a1 a2 h0
    go_enter Try.func16, Try.ntmps16
    go_wp2_with fail
    refine (impl_PictureValid W H A n c _ xs true _ HX.out (Nat.le_trans hB hs0) hn hm HP).mono ?_; rintro e w1 ⟨rfl, q1⟩
    have b1 := b0.q q1
    have bc1 := b1.cell
    have Q1 := q0.trans q1
    have hw1 := Q1.size
    have X1 := Lib.hid (HX.out.q q1 (Nat.le_trans hB hs0))
    clear b0 q0 q1 hs0 HX
    go_wp2_with (at_make; refine wpList_make_int rfl _ _ rfl w1 16 _ _ rfl rfl rfl rfl (by omega) (Q.refl _) ?_; intro w2 o2 q2 s2; have b2 := b1.q q2; have bc2 := b2.cell)
    have Q2 := Q1.trans q2
    have X2 := Lib.hid (X1.out.q q2 (by omega))
    generalize w1.heap.size = g at o2 hw1 ⊢
    have O2 : Hid (Own w2 g (.slice (some ⟨g, 0, none⟩) 16 16) 16 (histOf (xs.take 0))) := by rw [H0.out]; exact o2
    have QQ := Lib.hid Q2
    clear o2 q2 Q2 b1 bc1 Q1 X1 s2
    go_loopw [13] (fun i wr => ∃ k : Nat, k ≤ n ∧ i = .int .i64 k ∧ Own wr g (.slice (some ⟨g, 0, none⟩) 16 16) 16 (histOf (xs.take k)) ∧ w2.grownBy wr (some g)) (fun i _ => n - (intOf i).toNat)
    case atStart => exact ⟨0, Nat.zero_le _, rfl, O2.out, World.grownBy.refl _ _⟩
    case round =>
      obtain ⟨k, hk, rfl, ho, hg⟩ := hrel
      clear b2 bc2
      by_cases hlt : k < n
      · obtain ⟨b, o, rfl, hb, hc⟩ := X2.out (by rw [hn.out]; omega)
        have hc1 := (World.cell?_of_block (a := ⟨b, o + k, none⟩) (hg.block b (by have := QQ.out.size; omega) (fun e => by cases e; omega))).trans (hc k (by rw [hn.out]; exact hlt))
        have hst := histOf_take xs k (by rw [hn.out]; exact hlt)
        obtain ⟨x1, x2⟩ := PA.out k (by rw [hn.out]; exact hlt)
        generalize xs[k]?.getD 0 = x at hc1 hst x1 x2
        have hbd := hist_bound xs k (by rw [hn.out]; omega) (x / 16).toNat
        have i1 : 0 ≤ x / 16 := by omega
        have i2 : x / 16 < 16 := by omega
        have c2 := ho.at (x / 16).toNat (by omega)
        have f2 := ho.free (x / 16).toNat
        have o3 := ho.set (x / 16).toNat ((histOf (xs.take k))[(x / 16).toNat]?.getD 0 + 1)
        have g3 := grownBy_set hg (x / 16).toNat (.int .i64 ((histOf (xs.take k))[(x / 16).toNat]?.getD 0 + 1))
        have HST := Lib.hid hst
        have O3 := Lib.hid o3
        have G3 := Lib.hid g3
        have HC := Lib.hid hc
        clear hst o3 g3 ho hg hc
        generalize hy : (histOf (xs.take k))[(x / 16).toNat]?.getD 0 = y at c2 hbd O3 G3
        have HY := Lib.hid hy
        clear hy
        go_wp2_with fail
        go_roundw
        case rel => exact ⟨k + 1, by omega, by go_num, by rw [HST.out]; unfold histStep; rw [HY.out]; exact O3.out, G3.out⟩
        case measure => simp [intOf]; omega
      · have hkn : k = n := by omega
        subst hkn
        have ht : xs.take k = xs := List.take_of_length_le (Nat.le_of_eq hn.out)
        rw [ht] at ho
        go_wp2_with fail
        go_ret
        exact ⟨_, rfl, ho.mono hw1, QQ.out.grown hg (fun j e => by cases e; exact hw1)⟩

set_option maxHeartbeats 2000000 in
theorem spec_Histogram (W H : Int) (A : Option Addr) (n c B : Nat) (xs : List Int) (w : World) (hx : Rd w B A xs) (hB : B ≤ w.heap.size) (hn : Hid (xs.length = n)) (hm : n ≤ 9223372036854775807) :
    Calls Try.prog 14 #[.agg #[.int .i64 W, .int .i64 H, .slice A n c]] w fun e w' => ∃ v, e = .returned v ∧ Own w' w.heap.size v (hist W H xs).length (hist W H xs) ∧ Q w w' := by
  have q0 : Q w (w.alloc (.cells #[.int .i64 W, .int .i64 H, .slice A n c] 27)) := (by repeat (first | exact Q.refl _ | assumption | refine Q.drewN ?_ _ | refine Q.drew ?_ | refine Q.alloc ?_ _ | refine Q.trans ?_ (by assumption) | refine Q.set ?_ (by first | exact Nat.le_refl _ | omega | (simp; done) | (simp; omega)) _))
  have b0 := Blk.new w 27 #[.int .i64 W, .int .i64 H, .slice A n c]
  have hs0 := q0.size
  have HX := Lib.hid (hx.q q0 hB)
  clear hx
  cases hp : picB W H xs
  · rw [hist_no hp]
    have HP := Lib.hid hp
    clear hp
    go_enter Try.func14, Try.ntmps14
    go_wp2_with fail
    refine (spec_PictureValid W H A n c _ xs false _ HX.out (Nat.le_trans hB hs0) hn hm HP).mono ?_; rintro e w1 ⟨rfl, q1⟩
    have Q1 := q0.trans q1
    have ho := Own.lit0 w1 w.heap.size Q1.size
    have HO := Lib.hid ho
    clear ho
    go_wp2_with fail
    go_ret
    exact ⟨_, rfl, HO.out, Q1.alloc _⟩
  · rw [hist_yes hp]
    obtain ⟨pW, pH, pl, pa⟩ := picB_parts hp
    obtain ⟨a1, a2⟩ := area_le pW.1 pW.2.1 pH.1 pH.2.1
    rw [hn.out] at pl
    have n1 : n ≤ 1024 := by omega
    have PA := Lib.hid (allB_get pa)
    have HP := Lib.hid hp
    have HL := Lib.hid (length_histOf xs)
    have h0 : histOf (xs.take 0) = List.replicate 16 0 := rfl
    have H0 := Lib.hid h0
    rw [HL.out]
    clear hp pW pH pl pa a1 a2 h0
    go_enter Try.func14, Try.ntmps14
    go_wp2_with fail
    refine (spec_PictureValid W H A n c _ xs true _ HX.out (Nat.le_trans hB hs0) hn hm HP).mono ?_; rintro e w1 ⟨rfl, q1⟩
    have b1 := b0.q q1
    have bc1 := b1.cell
    have Q1 := q0.trans q1
    have hw1 := Q1.size
    have X1 := Lib.hid (HX.out.q q1 (Nat.le_trans hB hs0))
    have hb1 := b1.lt
    clear b0 q0 q1 hs0 HX
    go_wp2_with (at_make; refine wpList_make_int rfl _ _ rfl w1 16 _ _ rfl rfl rfl rfl (by omega) (Q.refl _) ?_; intro w2 o2 q2 s2; have b2 := b1.q q2; have bc2 := b2.cell)
    have Q2 := Q1.trans q2
    have X2 := Lib.hid (X1.out.q q2 (by omega))
    generalize w1.heap.size = g at o2 hw1 hb1 ⊢
    have O2 : Hid (Own w2 g (.slice (some ⟨g, 0, none⟩) 16 16) 16 (histOf (xs.take 0))) := by rw [H0.out]; exact o2
    have QQ := Lib.hid Q2
    clear o2 q2 Q2 b1 bc1 Q1 X1 s2
    go_loopw [4] (fun i wr => ∃ k : Nat, k ≤ n ∧ i = .int .i64 k ∧ Own wr g (.slice (some ⟨g, 0, none⟩) 16 16) 16 (histOf (xs.take k)) ∧ w2.grownBy wr (some g) ∧ Blk wr w.heap.size 27 #[.int .i64 W, .int .i64 H, .slice A n c]) (fun i _ => n - (intOf i).toNat)
    case atStart => exact ⟨0, Nat.zero_le _, rfl, O2.out, World.grownBy.refl _ _, b2⟩
    case round =>
      obtain ⟨k, hk, rfl, ho, hg, hbr⟩ := hrel
      have hbc := hbr.cell
      clear b2 bc2
      by_cases hlt : k < n
      · obtain ⟨b, o, rfl, hb, hc⟩ := X2.out (by rw [hn.out]; omega)
        have hc1 := (World.cell?_of_block (a := ⟨b, o + k, none⟩) (hg.block b (by have := QQ.out.size; omega) (fun e => by cases e; omega))).trans (hc k (by rw [hn.out]; exact hlt))
        have hst := histOf_take xs k (by rw [hn.out]; exact hlt)
        obtain ⟨x1, x2⟩ := PA.out k (by rw [hn.out]; exact hlt)
        generalize xs[k]?.getD 0 = x at hc1 hst x1 x2
        have hbd := hist_bound xs k (by rw [hn.out]; omega) (x / 16).toNat
        have i1 : 0 ≤ x / 16 := by omega
        have i2 : x / 16 < 16 := by omega
        have c2 := ho.at (x / 16).toNat (by omega)
        have kb : (k : Int) < (n : Int) := by omega
        have HST := Lib.hid hst
        have HO := Lib.hid ho
        have HG := Lib.hid hg
        have HBR := Lib.hid hbr
        have HC := Lib.hid hc
        have hyv : ∃ y, (histOf (xs.take k))[(x / 16).toNat]?.getD 0 = y := ⟨_, rfl⟩
        obtain ⟨y, hy⟩ := hyv
        rw [hy] at c2 hbd
        have HY := Lib.hid hy
        clear hst ho hg hc hbr hy
        have t1 : IntKind.i64.wrap (y + 1) = y + 1 := IntWalk.i64_in _ ⟨by omega, by omega⟩
        have m1 : x.tdiv 16 = x / 16 := Int.tdiv_eq_ediv_of_nonneg x1
        have t0 : IntKind.i64.wrap (x / 16) = x / 16 := IntWalk.i64_in _ ⟨by omega, by omega⟩
        have z1 : ∀ i, ({ heap := wr.heap, tape := wr.tape, drawn := wr.drawn + 1, os := wr.os, output := wr.output } : World).cell? ⟨w.heap.size, i, none⟩ = _ := hbc
        have z2 : ({ heap := wr.heap, tape := wr.tape, drawn := wr.drawn + 1, os := wr.os, output := wr.output } : World).cell? ⟨b, o + k, none⟩ = _ := hc1
        have z3 : ({ heap := wr.heap, tape := wr.tape, drawn := wr.drawn + 1, os := wr.os, output := wr.output } : World).cell? ⟨g, (x / 16).toNat, none⟩ = _ := c2
        go_wp2_with fail
        go_still_tail 18, (by kernel_rfl)
        change wpList _ _ _ _ _ wr.drew
        have f3 := (HO.out.drew).free (x / 16).toNat
        have c3 := (HO.out.drew).at (x / 16).toNat (by omega)
        have O3 := Lib.hid ((HO.out.drew).set (x / 16).toNat (y + 1))
        have G3 := Lib.hid (grownBy_set (grownBy_drewN HG.out 1) (x / 16).toNat (.int .i64 (y + 1)))
        have B3 := Lib.hid ((HBR.out.drewN 1).far (p := ⟨g, (x / 16).toNat, none⟩) (by show w.heap.size ≠ g; omega) (.int .i64 (y + 1)))
        go_wp2_with fail
        go_roundw
        case rel => exact ⟨k + 1, by omega, by go_num, by rw [HST.out]; unfold histStep; rw [HY.out]; exact O3.out, G3.out, B3.out⟩
        case measure => simp [intOf]; omega
      · have hkn : k = n := by omega
        subst hkn
        have ht : xs.take k = xs := List.take_of_length_le (Nat.le_of_eq hn.out)
        rw [ht] at ho
        go_wp2_with fail
        go_ret
        exact ⟨_, rfl, ho.mono hw1, QQ.out.grown hg (fun j e => by cases e; exact hw1)⟩
end Go.Proofs.Ytoipcfpbkjanhaa

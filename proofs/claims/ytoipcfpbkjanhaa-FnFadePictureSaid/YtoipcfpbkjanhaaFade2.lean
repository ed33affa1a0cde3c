/-
  FadePicture of the program.
-/
import Derived.Test.YtoipcfpbkjanhaaFade
namespace Go.Proofs.Ytoipcfpbkjanhaa
open Go.RowKit

theorem same_parts {W H W' H' : Int} {xs ys : List Int} (h : sameB W H xs W' H' ys = true) : W' = W ∧ H' = H ∧ xs.length = ys.length ∧ 64 ≤ xs.length ∧ xs.length ≤ 1024 ∧ allB xs = true ∧ allB ys = true := by
  unfold sameB at h
  simp only [Bool.and_eq_true, decide_eq_true_eq] at h
  obtain ⟨h1, h2, rfl, rfl⟩ := h
  obtain ⟨pW, pH, pl, pa⟩ := picB_parts h1
  obtain ⟨_, _, pl', pa'⟩ := picB_parts h2
  obtain ⟨a1, a2⟩ := area_le pW.1 pW.2.1 pH.1 pH.2.1
  exact ⟨rfl, rfl, by omega, by omega, by omega, pa, pa'⟩

set_option maxRecDepth 100000 in
set_option maxHeartbeats 4000000 in
theorem impl_Fade_ok (W H W' H' t : Int) (A A' : Option Addr) (n n' c c' B B' : Nat) (xs ys : List Int) (w : World) (hx : Rd w B A xs) (hB : B ≤ w.heap.size) (hy : Rd w B' A' ys) (hB' : B' ≤ w.heap.size)
    (hn : Hid (xs.length = n)) (hn' : Hid (ys.length = n')) (hs : Hid (sameB W H xs W' H' ys = true)) (t1 : 0 ≤ t) (t2 : t ≤ 8) :
    Calls Try.prog 25 #[.agg #[.int .i64 W, .int .i64 H, .slice A n c], .agg #[.int .i64 W', .int .i64 H', .slice A' n' c'], .int .i64 t] w fun e w' => ∃ v, e = .returned (.agg #[.int .i64 W, .int .i64 H, v]) ∧ Own w' w.heap.size v n (fadeL t xs ys) ∧ Q w w' := by
  obtain ⟨rfl, rfl, hl, l1, l2, pa, pb⟩ := same_parts hs.out
  obtain rfl : n' = n := by rw [← hn.out, ← hn'.out, hl]
  rw [hn.out] at l1 l2
  have PA := Lib.hid (allB_get pa)
  have PB := Lib.hid (allB_get pb)
  have FG := Lib.hid (fun k h1 h2 => fadeL_get t xs ys k h1 h2)
  have FL := Lib.hid ((fadeL_len t xs ys hl).trans hn.out)
  generalize fadeL t xs ys = fs at FG FL ⊢
  clear hl pa pb
  have q0 : Q w (((w.alloc (.cells #[.int .i64 W', .int .i64 H', .slice A n' c] 27)).alloc (.cells #[.int .i64 W', .int .i64 H', .slice A' n' c'] 27)).alloc (.cells #[.int .i64 0, .int .i64 0, .slice none 0 0] 27)) := (by repeat (first | exact Q.refl _ | assumption | refine Q.drewN ?_ _ | refine Q.drew ?_ | refine Q.alloc ?_ _ | refine Q.trans ?_ (by assumption) | refine Q.set ?_ (by first | exact Nat.le_refl _ | omega | (simp; done) | (simp; omega)) _))
  have b0 := ((Blk.new w 27 #[.int .i64 W', .int .i64 H', .slice A n' c]).alloc (.cells #[.int .i64 W', .int .i64 H', .slice A' n' c'] 27)).alloc (.cells #[.int .i64 0, .int .i64 0, .slice none 0 0] 27)
  have d0 := (Blk.new (w.alloc (.cells #[.int .i64 W', .int .i64 H', .slice A n' c] 27)) 27 #[.int .i64 W', .int .i64 H', .slice A' n' c']).alloc (.cells #[.int .i64 0, .int .i64 0, .slice none 0 0] 27)
  have r0 := Blk.new ((w.alloc (.cells #[.int .i64 W', .int .i64 H', .slice A n' c] 27)).alloc (.cells #[.int .i64 W', .int .i64 H', .slice A' n' c'] 27)) 27 #[.int .i64 0, .int .i64 0, .slice none 0 0]
  simp only [World.size_alloc] at d0 r0
  have s0 : w.heap.size + 3 ≤ (((w.alloc (.cells #[.int .i64 W', .int .i64 H', .slice A n' c] 27)).alloc (.cells #[.int .i64 W', .int .i64 H', .slice A' n' c'] 27)).alloc (.cells #[.int .i64 0, .int .i64 0, .slice none 0 0] 27)).heap.size := by simp
  have HX := Lib.hid (hx.q q0 hB)
  have HY := Lib.hid (hy.q q0 hB')
  clear hx hy
  go_enter Try.func25, Try.ntmps25
  go_wp2_with fail
  refine (impl_alike W' H' W' H' A A' n' n' c c' _ _ xs ys true _ HX.out (by omega) HY.out (by omega) hn hn' (by omega) (by omega) hs).mono ?_; rintro e w4 ⟨rfl, q4⟩
  have b4 := b0.q q4
  have d4 := d0.q q4
  have r4 := r0.q q4
  have X4 := Lib.hid (HX.out.q q4 (by omega))
  have Y4 := Lib.hid (HY.out.q q4 (by omega))
  have Q4 := q0.trans q4
  have s4 := Nat.le_trans s0 q4.size
  have bc4 := b4.cell
  clear b0 d0 r0 HX HY s0 q0 q4
  go_wp2_with fail
  refine (clone W' H' A n' c _ xs _ X4.out (by omega) hn (by omega) l2).mono ?_; rintro e w5 ⟨v5, rfl, o5, q5⟩
  obtain ⟨gc, cc, rfl, hg4, hg5⟩ : ∃ gc cc, v5 = .slice (some ⟨gc, 0, none⟩) n' cc ∧ w4.heap.size ≤ gc ∧ gc < w5.heap.size := by
    rcases o5.form' with ⟨_, h⟩ | ⟨g, c, h, h1, h2, _⟩
    · omega
    · exact ⟨g, c, h, h1, h2⟩
  have q5' := q5.alloc (.cells #[.int .i64 W', .int .i64 H', .slice (some ⟨gc, 0, none⟩) n' cc] 27)
  have e6 := Blk.new w5 27 #[.int .i64 W', .int .i64 H', .slice (some ⟨gc, 0, none⟩) n' cc]
  have o6 := o5.alloc (.cells #[.int .i64 W', .int .i64 H', .slice (some ⟨gc, 0, none⟩) n' cc] 27)
  have b6 := b4.q q5'
  have d6 := d4.q q5'
  have r6 := r4.q q5'
  have X6 := Lib.hid (X4.out.q q5' (by omega))
  have Y6 := Lib.hid (Y4.out.q q5' (by omega))
  have Q6 := Q4.trans q5'
  have s6 : w.heap.size + 3 ≤ w5.heap.size := Nat.le_trans s4 q5.size
  have dc6 := d6.cell
  clear b4 d4 r4 X4 Y4 Q4 bc4 q5 q5' o5
  go_wp2_with fail
  have hsz : (w5.alloc (.cells #[.int .i64 W', .int .i64 H', .slice (some ⟨gc, 0, none⟩) n' cc] 27)).heap.size = w5.heap.size + 1 := by simp
  generalize w5.alloc (.cells #[.int .i64 W', .int .i64 H', .slice (some ⟨gc, 0, none⟩) n' cc] 27) = w6 at e6 o6 b6 d6 r6 X6 Y6 Q6 dc6 hsz ⊢
  generalize w5.heap.size = m6 at e6 hg5 s6 hsz ⊢
  have O6 := Lib.hid o6
  have QQ := Lib.hid Q6
  have HE := Lib.hid e6
  have HBB := Lib.hid b6
  have HR := Lib.hid r6
  clear o6 Q6 e6 b6 d6 r6 dc6
  go_loopw [28] (fun i wr => ∃ (k : Nat) (zs : List Int), k ≤ n' ∧ i = .int .i64 k ∧ Own wr w4.heap.size (.slice (some ⟨gc, 0, none⟩) n' cc) n' zs ∧ w6.grownBy wr (some gc) ∧ Hid (zs.take k = fs.take k)) (fun i _ => n' - (intOf i).toNat)
  case atStart => exact ⟨0, xs, Nat.zero_le _, rfl, O6.out, World.grownBy.refl _ _, by rw [Hid, List.take_zero, List.take_zero]⟩
  case round =>
    obtain ⟨k, zs, hk, rfl, ho, hg, hz⟩ := hrel
    by_cases hlt : k < n'
    · obtain ⟨ga, oa, rfl, hba, hca⟩ := X6.out (by rw [hn.out]; omega)
      obtain ⟨gb, ob, rfl, hbb, hcb⟩ := Y6.out (by rw [hn'.out]; omega)
      have hc1 := (World.cell?_of_block (a := ⟨ga, oa + k, none⟩) (hg.block ga (by omega) (fun e => by cases e; omega))).trans (hca k (by rw [hn.out]; exact hlt))
      have hc2 := (World.cell?_of_block (a := ⟨gb, ob + k, none⟩) (hg.block gb (by omega) (fun e => by cases e; omega))).trans (hcb k (by rw [hn'.out]; exact hlt))
      obtain ⟨x1, x2⟩ := PA.out k (by rw [hn.out]; exact hlt)
      obtain ⟨y1, y2⟩ := PB.out k (by rw [hn'.out]; exact hlt)
      have hf := FG.out k (by rw [hn.out]; exact hlt) (by rw [hn'.out]; exact hlt)
      generalize xs[k]?.getD 0 = x at hc1 x1 x2 hf
      generalize ys[k]?.getD 0 = y at hc2 y1 y2 hf
      obtain ⟨p1, p2, p3, p4⟩ := fade_in t1 t2 x1 x2 y1 y2
      have hfv : fadeAt t x y = ((8 - t) * x + t * y + 4) / 8 := rfl
      obtain ⟨p, hp⟩ : ∃ p, (8 - t) * x = p := ⟨_, rfl⟩
      obtain ⟨q, hq⟩ : ∃ q, t * y = q := ⟨_, rfl⟩
      rw [hp] at p1 p2 hfv
      rw [hq] at p3 p4 hfv
      rw [hfv] at hf
      have HF := Lib.hid hf
      have tp : IntKind.i64.wrap ((8 - t) * x) = p := by rw [hp]; exact IntWalk.i64_in _ ⟨by omega, by omega⟩
      have tp2 : wrap64 ((8 - t) * x) = p := by rw [← IntWalk.i64_left, tp]
      have tq : IntKind.i64.wrap (t * y) = q := by rw [hq]; exact IntWalk.i64_in _ ⟨by omega, by omega⟩
      have m1 : (p + q + 4).tdiv 8 = (p + q + 4) / 8 := Int.tdiv_eq_ediv_of_nonneg (by omega)
      have m2 : IntKind.i64.wrap ((p + q + 4) / 8) = (p + q + 4) / 8 := IntWalk.i64_in _ ⟨by omega, by omega⟩
      have HO := Lib.hid ho
      have HG := Lib.hid hg
      have HZ := Lib.hid hz
      have hbr := (HBB.out.grown hg (fun e => by cases e; omega)).cell
      have her := (HE.out.grown hg (fun e => by cases e; omega)).cell
      have hzl : zs.length = n' := ho.1
      have HZL := Lib.hid hzl
      have c3 := ho.at k hlt
      generalize zs[k]?.getD 0 = zk at c3
      have z1 : ∀ i, ({ heap := wr.heap, tape := wr.tape, drawn := wr.drawn + 1, os := wr.os, output := wr.output } : World).cell? ⟨w.heap.size, i, none⟩ = _ := hbr
      have z2 : ∀ i, ({ heap := wr.heap, tape := wr.tape, drawn := wr.drawn + 1, os := wr.os, output := wr.output } : World).cell? ⟨m6, i, none⟩ = _ := her
      have z3 : ({ heap := wr.heap, tape := wr.tape, drawn := wr.drawn + 1, os := wr.os, output := wr.output } : World).cell? ⟨ga, oa + k, none⟩ = _ := hc1
      have z4 : ({ heap := wr.heap, tape := wr.tape, drawn := wr.drawn + 1, os := wr.os, output := wr.output } : World).cell? ⟨gc, k, none⟩ = _ := c3
      have kn : (k : Int) < (n' : Int) := by omega
      clear ho hg hz hf hp hq hfv hca hcb hzl
      go_wp2_with fail
      go_still_tail 18, (by kernel_rfl)
      change wpList _ _ _ _ _ wr.drew
      have f3 := (HO.out.drew).free k
      have c4 := (HO.out.drew).at k (by omega)
      have O3 := Lib.hid ((HO.out.drew).set k ((p + q + 4) / 8))
      have G3 := Lib.hid (grownBy_set (grownBy_drewN HG.out 1) k (.int .i64 ((p + q + 4) / 8)))
      go_wp2_with fail
      go_roundw
      case rel => exact ⟨k + 1, _, by omega, by go_num, O3.out, G3.out, by rw [Hid, set_take _ _ _ (by rw [HZL.out]; exact hlt), take_succ_getD _ _ (by rw [FL.out]; exact hlt), HZ.out, HF.out]⟩
      case measure => simp [intOf]; omega
    · have hkn : k = n' := by omega
      subst hkn
      have hze : zs = fs := by
        have h := hz.out
        rw [List.take_of_length_le (Nat.le_of_eq ho.1), List.take_of_length_le (Nat.le_of_eq FL.out)] at h
        exact h
      subst hze
      have her := (HE.out.grown hg (fun e => by cases e; omega)).cell
      have hr := HR.out.grown hg (fun e => by cases e; omega)
      have hrf := hr.free
      have hrc := hr.cell
      have HO := Lib.hid ho
      have Q7 := Lib.hid (QQ.out.grown hg (fun j e => by cases e; omega))
      clear ho hg hr
      go_wp2_with fail
      refine bodyPost_ret (v := .agg #[.int .i64 W', .int .i64 H', .slice (some ⟨gc, 0, none⟩) k cc]) (by simp [results, Try.results25, go_sem, hrc]) rfl ⟨_, rfl, ?_, ?_⟩
      · exact Own.mono (B := w4.heap.size) (by repeat (first | exact HO.out | refine Own.far ?_ (by simp; omega) _)) (by omega)
      · have hq := Q7.out
        exact (by repeat (first | exact Q.refl _ | assumption | refine Q.drewN ?_ _ | refine Q.drew ?_ | refine Q.alloc ?_ _ | refine Q.trans ?_ (by assumption) | refine Q.set ?_ (by first | exact Nat.le_refl _ | omega | (simp; done) | (simp; omega)) _))
end Go.Proofs.Ytoipcfpbkjanhaa

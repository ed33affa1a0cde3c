/-
  The library's insertion sort, and its stable sort, on at most 16 numbers of macroblocks.
-/
import Derived.Test.YtnmegieibcmhcaaSorts
namespace Go.Proofs.Ytnmegieibcmhcaa
open Go.RowKit

theorem insIn_go (f : Int → Int) (j : Nat) (xs : List Int) (h : f (xs[j + 1]?.getD 0) < f (xs[j]?.getD 0)) : insIn f (j + 1) xs = insIn f j (swapL xs (j + 1) j) := by
  rw [insIn, if_pos h]
theorem insIn_stop (f : Int → Int) (j : Nat) (xs : List Int) (h : ¬ f (xs[j + 1]?.getD 0) < f (xs[j]?.getD 0)) : insIn f (j + 1) xs = xs := by
  rw [insIn, if_neg h]
theorem insOut_go (f : Int → Int) (n i : Nat) (xs : List Int) (h : i < n) : insOut f (n - i) i xs = insOut f (n - (i + 1)) (i + 1) (insIn f i xs) := by
  rw [show n - i = (n - (i + 1)) + 1 by omega, insOut]
theorem insOut_end (f : Int → Int) (n i : Nat) (xs : List Int) (h : n ≤ i) : insOut f (n - i) i xs = xs := by
  rw [show n - i = 0 by omega, insOut]
theorem cmpV_neg {x y : Int} (h : x < y) : cmpV x y < 0 := by unfold cmpV; rw [if_pos h]; omega
theorem cmpV_pos {x y : Int} (h : ¬ x < y) : 0 ≤ cmpV x y := by unfold cmpV; rw [if_neg h]; split <;> omega
def SortRel (w wr : World) (B g n cap m : Nat) (c r : Int) (zs : List Int) : Prop :=
  Own wr B (.slice (some ⟨g, 0, none⟩) n cap) n zs ∧ inR 16 zs ∧ w.grownBy wr (some g) ∧ Blk wr m 61 #[.int .i64 c, .int .i64 r]

set_option maxRecDepth 100000 in
set_option maxHeartbeats 4000000 in
theorem insertion_any (c r : Int) (B g n cap m : Nat) (xs : List Int) (w : World) (h1 : 1 ≤ c) (h2 : c ≤ 4) (hn : n ≤ 16) (hmg : m ≠ g) (hx : SortRel w w B g n cap m c r xs) :
    Calls Try.prog 73 #[.slice (some ⟨g, 0, none⟩) n cap, .int .i64 0, .int .i64 n, .func (.func 69) #[] #[.pointer (some ⟨m, 0, none⟩)]] w fun e w' =>
      e = .returned (.tuple #[]) ∧ SortRel w w' B g n cap m c r (insSort (stepVal c) xs) := by
  have hlx : Hid (insOut (stepVal c) (n - 1) 1 xs = insSort (stepVal c) xs) := by unfold Hid insSort; rw [hx.1.len]
  generalize insSort (stepVal c) xs = R at hlx ⊢
  have HX := Lib.hid hx
  clear hx
  go_enter Try.func73, Try.ntmps73
  go_wp2_with fail
  go_loopw [8] (fun vi wr => ∃ (i : Nat) (ys : List Int), vi = .int .i64 i ∧ 1 ≤ i ∧ i ≤ n + 1 ∧ SortRel w wr B g n cap m c r ys ∧ Hid (insOut (stepVal c) (n - i) i ys = R)) (fun vi _ => n + 1 - (intOf vi).toNat)
  case atStart => exact ⟨1, xs, rfl, Nat.le_refl _, by omega, HX.out, hlx⟩
  case round =>
    obtain ⟨i, ys, rfl, hi1, hi2, hy, hR⟩ := hrel
    clear HX hlx
    obtain ⟨wo, rfl⟩ : ∃ wo : World, wo = wr := ⟨_, rfl⟩
    by_cases hlt : i < n
    · have HY := Lib.hid hy
      have HG := Lib.hid (insOut_go (stepVal c) n i ys hlt)
      clear hy
      go_wp2_with fail
      go_loopw [9] (fun vj wr => ∃ (j : Nat) (zs : List Int), vj = .int .i64 j ∧ j ≤ i ∧ SortRel w wr B g n cap m c r zs ∧ Hid (insIn (stepVal c) j zs = insIn (stepVal c) i ys)) (fun vj _ => (intOf vj).toNat)
      case atStart => exact ⟨i, ys, rfl, Nat.le_refl _, HY.out, rfl⟩
      case round =>
        obtain ⟨j, zs, rfl, hji, hz, hI⟩ := hrel
        clear HY
        obtain ⟨w1, rfl⟩ : ∃ w1 : World, w1 = wr := ⟨_, rfl⟩
        cases j with
        | zero =>
          have HZ := Lib.hid hz
          clear hz
          go_wp2_with fail
          refine wp_region_aft (by kernel_rfl) (by kernel_rfl) ?_
          repeat (go_big_quiet_step (fail))
          refine wpQuiet_nil ?_
          rintro w2 ⟨⟨_, q2⟩, rfl⟩
          go_wp2_with fail
          go_roundw
          case rel =>
            obtain ⟨z1, z2, z3, z4⟩ := HZ.out
            exact ⟨i + 1, zs, by go_num, by omega, by omega, ⟨z1.q q2, z2, grownBy_Q z3 q2, z4.q q2⟩, by rw [Hid, ← hR.out, HG.out, ← hI.out]; rfl⟩
          case measure => simp [intOf]; omega
        | succ jp =>
          obtain ⟨z1, z2, z3, z4⟩ := hz
          have hlen := z1.len
          obtain ⟨x1, x2⟩ := z2 (jp + 1) (by omega)
          obtain ⟨y1, y2⟩ := z2 jp (by omega)
          have ax : ∀ x : Aft w1, x.at_.cell? ⟨g, jp + 1, none⟩ = _ := fun x => (z1.q x.q).at (jp + 1) (by omega)
          have ay : ∀ x : Aft w1, x.at_.cell? ⟨g, jp, none⟩ = _ := fun x => (z1.q x.q).at jp (by omega)
          have HST := Lib.hid (insIn_stop (stepVal c) jp zs)
          have HGO := Lib.hid (insIn_go (stepVal c) jp zs)
          have HSW := Lib.hid (inR_swap z2 (jp + 1) jp (by omega) (by omega))
          have Z1 := Lib.hid z1
          have Z3 := Lib.hid z3
          have Z4 := Lib.hid z4
          have Z2 := Lib.hid z2
          have HL := Lib.hid hlen
          have HXv : Hid (∃ x, zs[jp + 1]?.getD 0 = x) := ⟨_, rfl⟩
          obtain ⟨x, hxv⟩ := HXv.out
          have HYv : Hid (∃ y, zs[jp]?.getD 0 = y) := ⟨_, rfl⟩
          obtain ⟨y, hyv⟩ := HYv.out
          rw [hxv] at x1 x2 ax
          rw [hyv] at y1 y2 ay
          have HXE := Lib.hid hxv
          have HYE := Lib.hid hyv
          have T : Hid (∀ x' : Aft w1, Calls Try.prog 69 #[.int .i64 x, .int .i64 y, .pointer (some ⟨m, 0, none⟩)] x'.at_ fun e w' => e = .returned (.int .i64 (cmpV (stepVal c x) (stepVal c y))) ∧ Q x'.at_ w') := fun x' => closure_any c r x y m x'.at_ h1 h2 x1 (by omega) y1 (by omega) (z4.q x'.q)
          have hwp : IntKind.i64.wrap (jp : Int) = (jp : Int) := IntWalk.i64_in _ ⟨by omega, by omega⟩
          have jz : (jp : Int) + 1 < (n : Int) := by omega
          have jz1 : (jp : Int) < (n : Int) := by omega
          have p0 : (0 : Int) ≤ (jp : Int) + 1 := by omega
          have p1 : (0 : Int) < (jp : Int) + 1 := by omega
          have e0 : ((jp : Int) + 1).toNat = jp + 1 := by omega
          clear z1 z2 z3 z4 hlen hxv hyv
          by_cases hf : stepVal c x < stepVal c y
          · have hc := cmpV_neg hf
            have HF := Lib.hid hf
            clear hf
            generalize cmpV (stepVal c x) (stepVal c y) = cv at T hc
            go_wp2_with fail
            refine wp_region_aft (by kernel_rfl) (by kernel_rfl) ?_
            repeat (go_big_quiet_step ((go_at_call 69; go_loud (exact Calls.aft (T.out _)))))
            refine wpQuiet_nil ?_
            rintro w2 ⟨⟨_, q2⟩, rfl⟩
            have o2 := Z1.out.q q2
            have cx := ax ⟨w2, q2⟩
            have cy := ay ⟨w2, q2⟩
            have fx := o2.free (jp + 1)
            have fy := o2.free jp
            have O2 := Lib.hid o2
            have G2 := Lib.hid (grownBy_Q Z3.out q2)
            have B2 := Lib.hid (Z4.out.q q2)
            simp only at cx cy
            clear ax ay T hc o2 q2
            go_wp2_with fail
            go_region
            all_goals go_wp2_with fail
            go_roundw
            case rel =>
              have hsw : swapL zs (jp + 1) jp = (zs.set (jp + 1) y).set jp x := by unfold swapL; rw [HXE.out, HYE.out]
              refine ⟨jp, swapL zs (jp + 1) jp, rfl, by omega, ⟨?_, HSW.out, ?_, ?_⟩, by rw [Hid, ← hI.out, HGO.out (by rw [HXE.out, HYE.out]; exact HF.out)]⟩
              · rw [hsw]; exact ((O2.out.set (jp + 1) y).set jp x).drew
              · exact grownBy_drewN (grownBy_set (grownBy_set G2.out _ _) _ _) 1
              · exact ((B2.out.far (p := ⟨g, jp + 1, none⟩) hmg _).far (p := ⟨g, jp, none⟩) hmg _).drewN 1
            case measure => simp [intOf]
          · have hc := cmpV_pos hf
            have HF := Lib.hid hf
            clear hf
            generalize cmpV (stepVal c x) (stepVal c y) = cv at T hc
            have hc' : decide (cv < 0) = false := by simp; omega
            go_wp2_with fail
            refine wp_region_aft (by kernel_rfl) (by kernel_rfl) ?_
            repeat (go_big_quiet_step ((go_at_call 69; go_loud (exact Calls.aft (T.out _)))))
            refine wpQuiet_nil ?_
            rintro w2 ⟨⟨_, q2⟩, rfl⟩
            clear ax ay T
            go_wp2_with fail
            go_roundw
            case rel =>
              exact ⟨i + 1, zs, by go_num, by omega, by omega, ⟨Z1.out.q q2, Z2.out, grownBy_Q Z3.out q2, Z4.out.q q2⟩, by rw [Hid, ← hR.out, HG.out, ← hI.out, HST.out (by rw [HXE.out, HYE.out]; exact HF.out)]⟩
            case measure => simp [intOf]; omega
    · have HY := Lib.hid hy
      clear hy
      go_wp2_with fail
      go_end0
      exact ⟨rfl, by rw [← hR.out, insOut_end _ _ _ _ (by omega)]; exact HY.out⟩
end Go.Proofs.Ytnmegieibcmhcaa

/-
  WaveTime of the reference.
-/
import Derived.Test.YtnmegieibcmhcaaTime2
namespace Go.Proofs.Ytnmegieibcmhcaa
open Go.RowKit

theorem runS_end (c : Int) (W : Nat) (ord : List Int) (gk m T : Nat) (l : Int) (s : List Int) (hl : l ≤ 0) (h : runS c W ord gk l m s = some T) : T = m := by
  cases gk with
  | zero => simp [runS] at h
  | succ f => rw [runS, if_pos hl] at h; simp at h; omega
theorem runS_go (c : Int) (W : Nat) (ord : List Int) (gk m T : Nat) (l : Int) (s : List Int) (hl : ¬ l ≤ 0) (h : runS c W ord gk l m s = some T) :
    ∃ f, gk = f + 1 ∧ runS c W ord f (l - (stepS c W (m + 1 : Nat) ord 0 s).1) (m + 1) (stepS c W (m + 1 : Nat) ord 0 s).2 = some T := by
  cases gk with
  | zero => simp [runS] at h
  | succ f => rw [runS, if_neg hl] at h; exact ⟨f, rfl, h⟩
theorem stepS_drop (c : Int) (W : Nat) (M : Int) (xs : List Int) (u : Nat) (s : List Int) (k : Nat) (h : k < xs.length) :
    stepS c W M (xs.drop k) u s = if u < W then (if canS c s M (xs[k]?.getD 0) = true then stepS c W M (xs.drop (k + 1)) (u + 1) (s.set (xs[k]?.getD 0).toNat M) else stepS c W M (xs.drop (k + 1)) u s) else (u, s) := by
  rw [drop_getD _ _ h, stepS]
theorem readyS_drop (s : List Int) (M : Int) (ks : List Int) (k : Nat) (h : k < ks.length) : readyS s M (ks.drop k) = ((decide (0 < s[(ks[k]?.getD 0).toNat]?.getD 0) && decide (s[(ks[k]?.getD 0).toNat]?.getD 0 < M)) && readyS s M (ks.drop (k + 1))) := by
  rw [drop_getD _ _ h]; rfl

set_option maxRecDepth 100000 in
set_option maxHeartbeats 4000000 in
theorem spec_WaveTime_ok (c r W N T : Nat) (w : World) (hs : sizeOk c r) (hW1 : 1 ≤ W) (hW2 : W ≤ 16) (hN : c * r = N) (hrun : Hid (runS c W (waveOrder c r) 17 N 0 (List.replicate N 0) = some T)) :
    Calls Try.prog 45 #[.int .i64 c, .int .i64 r, .int .i64 W] w fun e w' => e = .returned (.int .i64 T) ∧ Q w w' := by
  have hcr := size_le hs
  have hNi : (c : Int) * (r : Int) = N := by rw [← hN]; simp
  have hcr' : (c : Int) * (r : Int) ≤ 16 := hcr.2
  have hcr0 : 0 ≤ (c : Int) * (r : Int) := by omega
  rw [hNi] at hcr
  have hN16 : N ≤ 16 := by omega
  have hN1 : 1 ≤ N := by omega
  obtain ⟨hol, hoi⟩ := order_in hs
  rw [hN] at hol hoi
  have HOL := Lib.hid hol
  have HOI := Lib.hid hoi
  have HS := Lib.hid hs
  have HWO : Hid (∀ w : World, Calls Try.prog 41 #[.int .i64 c, .int .i64 r] w fun e w' => ∃ v, e = .returned v ∧ Own w' w.heap.size v N (waveOrder c r) ∧ Q w w') := fun w => by
    have h := spec_WaveOrder c r w
    rw [HOL.out] at h
    exact h
  have HNI := Lib.hid hNi
  obtain ⟨h1, h2, h3, h4⟩ := hs
  clear hN hol hoi hNi hcr
  generalize waveOrder c r = ord at hrun HOL HOI HWO
  go_enter Try.func45, Try.ntmps45
  go_wp2_with fail
  refine (l23Ok_tt _ _ _ HS.out).mono ?_; rintro e w' ⟨rfl, rfl⟩
  go_wp2_with fail
  refine (l1In_tt _ _ _ _ (by omega) (by omega)).mono ?_; rintro e w' ⟨rfl, rfl⟩
  go_wp2_with fail
  refine (HWO.out _).mono ?_; rintro e w4 ⟨v4, rfl, o4, q4⟩
  obtain ⟨A, cp, rfl⟩ := o4.form
  have R4 := Lib.hid o4.rd
  have Q4 := Lib.hid q4
  clear o4 q4
  go_wp2_with (at_make; refine wpList_make_int rfl _ _ rfl w4 N _ _ rfl rfl HNI.out HNI.out (by omega) (Q.refl _) ?_; intro w5 o5 q5 s5)
  have hs45 : w4.heap.size < w5.heap.size := by
    rcases o5.form' with ⟨h', _⟩ | ⟨_, _, h', _, hg, _⟩
    · cases h'
    · cases h'; exact hg
  generalize hgs : w4.heap.size = gs at o5 s5 hs45 ⊢
  have HGS := Lib.hid hgs
  have O5 : Hid (Own w5 gs (.slice (some ⟨gs, 0, none⟩) N N) N (List.replicate N 0)) := o5
  have R5 : Hid (Rd w5 gs A ord) := by rw [← HGS.out]; exact R4.out.q q5 (Nat.le_refl _)
  have Q5 := Lib.hid (Q4.out.trans q5)
  have hwg : w.heap.size ≤ gs := by rw [← HGS.out]; exact Q4.out.size
  clear hgs o5 q5 s5 hcr' hcr0
  go_wp2_with fail
  go_loopg [9, 10] 17 (fun gk left now wr => ∃ (l : Int) (m : Nat) (ss : List Int), left = .int .i64 l ∧ now = .int .i64 m ∧ -16 ≤ l ∧ l ≤ 16 ∧ Own wr gs (.slice (some ⟨gs, 0, none⟩) N N) N ss ∧ w5.grownBy wr (some gs) ∧ Q w wr ∧ Hid (runS c W ord gk l m ss = some T) ∧ m + gk = 17)
  case atStart => exact ⟨N, 0, _, rfl, rfl, by omega, by omega, O5.out, World.grownBy.refl _ _, Q5.out, hrun.out, rfl⟩
  case round =>
    obtain ⟨l, m, ss, rfl, rfl, hl1, hl2, ho, hg, hq, hrn, hmg⟩ := hrel
    obtain ⟨wo, rfl⟩ : ∃ wo : World, wo = wr := ⟨_, rfl⟩
    by_cases hl0 : l ≤ 0
    · have hTm := runS_end _ _ _ _ _ _ _ _ hl0 hrn.out
      subst hTm
      have HQ := Lib.hid hq
      clear ho hg hq hrn
      go_wp2_with fail
      go_ret
      exact ⟨rfl, HQ.out⟩
    · obtain ⟨f, hf, hrn2⟩ := runS_go _ _ _ _ _ _ _ _ hl0 hrn.out
      have HF := Lib.hid hf
      have hm17 : m + 1 + f = 17 := by omega
      have hl0' : 0 < l := by omega
      have HRN := Lib.hid hrn2
      have HO := Lib.hid ho
      have HG := Lib.hid hg
      have HQ := Lib.hid hq
      clear hf hrn2 hrn hl0 ho hg hq
      go_wp2_with fail
      go_loopw [9, 11, 12] (fun left used i wx => ∃ (k u : Nat) (zs : List Int), k ≤ N ∧ u ≤ k ∧ i = .int .i64 k ∧ used = .int .i64 u ∧ left = .int .i64 (l - u) ∧ Own wx gs (.slice (some ⟨gs, 0, none⟩) N N) N zs ∧ w5.grownBy wx (some gs) ∧ Q w wx ∧ Hid (stepS c W (m + 1 : Nat) ord 0 ss = stepS c W (m + 1 : Nat) (ord.drop k) u zs)) (fun _ _ i _ => N - (intOf i).toNat)
      case atStart => exact ⟨0, 0, ss, Nat.zero_le _, Nat.le_refl _, rfl, rfl, by simp, HO.out, HG.out, HQ.out, rfl⟩
      case round =>
        obtain ⟨k, u, zs, hk, huk, rfl, rfl, rfl, ho, hg, hq, hst⟩ := hrel
        obtain ⟨wy, rfl⟩ : ∃ wy : World, wy = wr := ⟨_, rfl⟩
        by_cases hkN : k < N
        · obtain ⟨g, o, rfl, hgb, hc⟩ := R5.out (by rw [HOL.out]; omega)
          have hcx := (World.cell?_of_block (a := ⟨g, o + k, none⟩) (hg.block g (by omega) (fun e => by cases e; omega))).trans (hc k (by rw [HOL.out]; exact hkN))
          obtain ⟨x1, x2⟩ := HOI.out k (by rw [HOL.out]; exact hkN)
          have hsd := stepS_drop c W (m + 1 : Nat) ord u zs k (by rw [HOL.out]; exact hkN)
          generalize ord[k]?.getD 0 = x at hcx x1 x2 hsd
          by_cases huW : u < W
          · rw [if_pos huW] at hsd
            have hcz := ho.at x.toNat (by omega)
            have HSD := Lib.hid hsd
            have HC := Lib.hid hc
            have hgk : g < wy.heap.size := by have := hg.size; omega
            have HCX : Hid (∀ wz : World, w5.grownBy wz (some gs) → wz.cell? ⟨g, o + k, none⟩ = some (.int .i64 x)) := fun wz hz => (World.cell?_of_block (a := ⟨g, o + k, none⟩) ((hz.block g (by omega) (fun e => by cases e; omega)).trans (hg.block g (by omega) (fun e => by cases e; omega)).symm)).trans hcx
            have HO2 := Lib.hid ho
            have HG2 := Lib.hid hg
            have HQ2 := Lib.hid hq
            have hnv : needs c r x = needsV c x := if_pos ⟨HS.out, x1, by rw [HNI.out]; exact x2⟩
            have HNV := Lib.hid hnv
            have HI := Lib.hid (needs_in (c := (c : Int)) (n := x) h1 x1)
            have hle := needs_le (c : Int) x
            have hcan : canS c zs (m + 1 : Nat) x = (decide (zs[x.toNat]?.getD 0 = 0) && readyS zs (m + 1 : Nat) (needsV c x)) := rfl
            have HCAN := Lib.hid hcan
            clear hsd hc ho hg hq hnv hcan
            generalize needsV (c : Int) x = ys at HNV HI hle HCAN
            generalize hyl : ys.length = yn at HI hle
            have HYL := Lib.hid hyl
            clear hyl
            obtain ⟨rb, hrb⟩ : ∃ rb : Bool, decide (zs[x.toNat]?.getD 0 = 0) = rb := ⟨_, rfl⟩
            have hrb' : (zs[x.toNat]?.getD 0 == 0) = rb := by rw [← hrb]; rfl
            rw [hrb] at HCAN
            generalize zs[x.toNat]?.getD 0 = zx at hcz hrb' hrb
            have HRB := Lib.hid hrb
            clear hrb
            have huW' : (u : Int) < (W : Int) := by omega
            have hkN' : (k : Int) < (N : Int) := by omega
            go_wp2_with fail
            refine (spec_WaveNeeds _ _ _ _).mono ?_; rw [HNV.out, HYL.out]; rintro e w6 ⟨v6, rfl, o6, q6⟩
            obtain ⟨A6, c6, rfl⟩ := o6.form
            have O6 := Lib.hid (HO2.out.q q6)
            have G6 := Lib.hid (grownBy_Q HG2.out q6)
            have Q6 := Lib.hid (HQ2.out.trans q6)
            have R6 := Lib.hid o6.rd
            have hcx6 := HCX.out w6 G6.out
            clear o6 q6 hcx hcz hrb'
            go_wp2_with fail
            go_loop [13, 15] (fun rd i => ∃ (j : Nat) (b : Bool), j ≤ yn ∧ i = .int .i64 j ∧ rd = .bool b ∧ Hid (canS c zs (m + 1 : Nat) x = (b && readyS zs (m + 1 : Nat) (ys.drop j)))) (fun _ i => yn - (intOf i).toNat)
            case atStart => exact ⟨0, rb, Nat.zero_le _, rfl, rfl, HCAN.out⟩
            case round =>
              obtain ⟨j, b, hj, rfl, rfl, hb⟩ := hrel
              by_cases hjy : j < yn
              · obtain ⟨g3, o3, rfl, hb3, hc3⟩ := R6.out (by rw [HYL.out]; omega)
                have hcy := hc3 j (by rw [HYL.out]; exact hjy)
                obtain ⟨y1, y2⟩ := HI.out j hjy
                have hrd := readyS_drop zs (m + 1 : Nat) ys j (by rw [HYL.out]; exact hjy)
                have hzy := O6.out.at (ys[j]?.getD 0).toNat (by omega)
                have y3 : ys[j]?.getD 0 < (N : Int) := by omega
                generalize ys[j]?.getD 0 = y at hcy y1 y2 y3 hrd hzy
                generalize zs[y.toNat]?.getD 0 = zy at hzy hrd
                have HC3 := Lib.hid hc3
                clear hc3
                cases b with
                | false =>
                  have HRD := Lib.hid hrd
                  clear hrd
                  go_wp2_with fail
                  go_round
                  case rel => exact ⟨j + 1, false, by omega, by go_num, rfl, by rw [Hid, hb.out, HRD.out]; simp⟩
                  case measure => simp [intOf]; omega
                | true =>
                  by_cases hz0 : 0 < zy
                  · rw [decide_eq_true hz0] at hrd
                    by_cases hz1 : zy < ((m + 1 : Nat) : Int)
                    · rw [decide_eq_true hz1] at hrd
                      have hz1' : zy < (m : Int) + 1 := by omega
                      have HRD := Lib.hid hrd
                      clear hrd hz1
                      go_wp2_with fail
                      go_round
                      case rel => exact ⟨j + 1, true, by omega, by go_num, rfl, by rw [Hid, hb.out, HRD.out]; simp⟩
                      case measure => simp [intOf]; omega
                    · rw [decide_eq_false hz1] at hrd
                      have hz1' : decide (zy < (m : Int) + 1) = false := by simp; omega
                      have HRD := Lib.hid hrd
                      clear hrd hz1
                      go_wp2_with fail
                      go_round
                      case rel => exact ⟨j + 1, false, by omega, by go_num, rfl, by rw [Hid, hb.out, HRD.out]; simp⟩
                      case measure => simp [intOf]; omega
                  · rw [decide_eq_false hz0] at hrd
                    have hz0' : decide (0 < zy) = false := by simp; omega
                    have HRD := Lib.hid hrd
                    clear hrd hz0
                    go_wp2_with fail
                    go_round
                    case rel => exact ⟨j + 1, false, by omega, by go_num, rfl, by rw [Hid, hb.out, HRD.out]; simp⟩
                    case measure => simp [intOf]; omega
              · have hjn : j = yn := by omega
                subst hjn
                have hcan2 : canS c zs (m + 1 : Nat) x = b := by rw [hb.out, List.drop_of_length_le (Nat.le_of_eq HYL.out)]; simp [readyS]
                have HCAN2 := Lib.hid hcan2
                clear hcan2
                cases b with
                | false =>
                  go_wp2_with fail
                  go_roundw
                  case rel => exact ⟨k + 1, u, zs, by omega, by omega, by go_num, rfl, rfl, O6.out, G6.out, Q6.out, by rw [Hid, hst.out, HSD.out, if_neg (by rw [HCAN2.out]; simp)]⟩
                  case measure => simp [intOf]; omega
                | true =>
                  have hf6 := O6.out.free x.toNat
                  have hc6 := O6.out.at x.toNat (by omega)
                  have O7 := Lib.hid (O6.out.set x.toNat ((m + 1 : Nat) : Int))
                  have G7 := Lib.hid (grownBy_set G6.out x.toNat (.int .i64 ((m + 1 : Nat) : Int)))
                  have Q7 := Lib.hid (Q6.out.set (p := ⟨gs, x.toNat, none⟩) hwg (.int .i64 ((m + 1 : Nat) : Int)))
                  go_wp2_with fail
                  go_roundw
                  case rel => exact ⟨k + 1, u + 1, _, by omega, by omega, by go_num, by go_num, by go_num, O7.out, G7.out, Q7.out, by rw [Hid, hst.out, HSD.out, if_pos HCAN2.out]⟩
                  case measure => simp [intOf]; omega
          · rw [if_neg huW] at hsd
            have hfin : stepS c W (m + 1 : Nat) ord 0 ss = (u, zs) := by rw [hst.out, hsd]
            have HRN2 : Hid (runS c W ord f (l - (u : Nat)) (m + 1) zs = some T) := by have h := HRN.out; rw [hfin] at h; exact h
            have huW' : decide ((u : Int) < (W : Int)) = false := by simp; omega
            have HO2 := Lib.hid ho
            have HG2 := Lib.hid hg
            have HQ2 := Lib.hid hq
            have hkN' : (k : Int) < (N : Int) := by omega
            clear hsd hfin ho hg hq hc hcx
            go_wp2_with fail
            go_roundg f
            case rel => exact ⟨l - u, m + 1, zs, rfl, by go_num, by omega, by omega, HO2.out, HG2.out, HQ2.out, HRN2.out, hm17⟩
            case measure => rw [HF.out]; omega
        · have hkn : k = N := by omega
          subst hkn
          have hfin : stepS c W (m + 1 : Nat) ord 0 ss = (u, zs) := by rw [hst.out, List.drop_of_length_le (Nat.le_of_eq HOL.out), stepS]
          have HRN2 : Hid (runS c W ord f (l - (u : Nat)) (m + 1) zs = some T) := by have h := HRN.out; rw [hfin] at h; exact h
          have HO2 := Lib.hid ho
          have HG2 := Lib.hid hg
          have HQ2 := Lib.hid hq
          clear hfin ho hg hq
          go_wp2_with fail
          go_roundg f
          case rel => exact ⟨l - u, m + 1, zs, rfl, by go_num, by omega, by omega, HO2.out, HG2.out, HQ2.out, HRN2.out, hm17⟩
          case measure => rw [HF.out]; omega
end Go.Proofs.Ytnmegieibcmhcaa

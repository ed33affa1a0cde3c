/-
  Blocks of sixteen numbers: l3Apply of the reference.
-/
import Derived.Test.YtkdmhlbmhjolcaaDoorArr5
namespace Go.Proofs.YtkdmhlbmhjolcaaDoor
open Go.RowKit

theorem hadJ_at (xs : List Int) (u v y x : Nat) (hv : v < 4) (hx : x < 4) : hadJ xs (4 * u + v) (4 * y + x) = sg (4 * u + y) * sg (4 * v + x) * xs[4 * y + x]?.getD 0 := by
  unfold hadJ
  rw [show (4 * u + v) / 4 = u by omega, show (4 * u + v) % 4 = v by omega, show (4 * y + x) / 4 = y by omega, show (4 * y + x) % 4 = x by omega]
set_option maxRecDepth 100000 in
set_option maxHeartbeats 4000000 in
theorem l3Apply (B : Int) (xs : List Int) (w : World) (hx : xs.length = 16) (hB : bnd xs B) (hB1 : 0 ≤ B) (hB2 : B ≤ 1000000) :
    Calls Tryd.prog 32 #[.agg (arr xs)] w fun e w' => e = .returned (.agg (arr (hadL xs))) ∧ Q w w' := by
  have s1 := arr_size xs
  rw [hx] at s1
  have QQ : Q w (((w.alloc (.cells (arr xs) 22)).alloc (.cells (arr (List.replicate 16 0)) 22)).alloc (.cells (arr (List.replicate 16 0)) 22)) := (by repeat (first | exact Q.refl _ | assumption | refine Q.drewN ?_ _ | refine Q.drew ?_ | refine Q.alloc ?_ _ | refine Q.trans ?_ (by assumption) | refine Q.set ?_ (by first | exact Nat.le_refl _ | omega | (simp; done) | (simp; omega)) _))
  have ba := ((Bl.new w xs hx).alloc (.cells (arr (List.replicate 16 0)) 22)).alloc (.cells (arr (List.replicate 16 0)) 22)
  have bb := (Bl.zero (w.alloc (.cells (arr xs) 22))).alloc (.cells (arr (List.replicate 16 0)) 22)
  have bc := Bl.zero ((w.alloc (.cells (arr xs) 22)).alloc (.cells (arr (List.replicate 16 0)) 22))
  simp only [World.size_alloc] at bb bc
  have hs : (((w.alloc (.cells (arr xs) 22)).alloc (.cells (arr (List.replicate 16 0)) 22)).alloc (.cells (arr (List.replicate 16 0)) 22)).heap.size = w.heap.size + 1 + 1 + 1 := by simp
  have HB := Lib.hid hB
  clear hB
  go_enter Tryd.func32, Tryd.ntmps32
  go_wp2_with fail
  change Code.wp _ _ _ _ (((w.alloc (.cells (arr xs) 22)).alloc (.cells (arr (List.replicate 16 0)) 22)).alloc (.cells (arr (List.replicate 16 0)) 22))
  generalize ((w.alloc (.cells (arr xs) 22)).alloc (.cells (arr (List.replicate 16 0)) 22)).alloc (.cells (arr (List.replicate 16 0)) 22) = wv at QQ ba bb bc hs ⊢
  go_loopw [4] (fun i wr => ∃ u : Nat, u ≤ 4 ∧ i = .int .i64 u ∧ Hid (Bl wr w.heap.size xs ∧ Bl wr (w.heap.size + 1) (List.replicate 16 0) ∧ Bl wr (w.heap.size + 1 + 1) (tab (fun j => if j < 4 * u then hadF xs j else 0) 16) ∧ Q w wr ∧ w.heap.size + 1 + 1 + 1 ≤ wr.heap.size)) (fun i _ => 4 - (intOf i).toNat)
  case atStart => exact ⟨0, by omega, rfl, ba, bb, by rw [Nat.mul_zero, tab_none]; exact bc, QQ, by omega⟩
  case round =>
    obtain ⟨u, hu, rfl, hK⟩ := hrel
    clear ba bb bc QQ hs
    by_cases hlu : u < 4
    · have hu4 : (u : Int) < 4 := by omega
      go_wp2_with fail
      go_loopw [5] (fun i wr => ∃ v : Nat, v ≤ 4 ∧ i = .int .i64 v ∧ Hid (Bl wr w.heap.size xs ∧ Bl wr (w.heap.size + 1) (List.replicate 16 0) ∧ Bl wr (w.heap.size + 1 + 1) (tab (fun j => if j < 4 * u + v then hadF xs j else 0) 16) ∧ Q w wr ∧ w.heap.size + 1 + 1 + 1 ≤ wr.heap.size)) (fun i _ => 4 - (intOf i).toNat)
      case atStart => exact ⟨0, by omega, rfl, hK⟩
      case round =>
        clear hK
        obtain ⟨v, hv, rfl, hK⟩ := hrel
        by_cases hlv : v < 4
        · have hv4 : (v : Int) < 4 := by omega
          obtain ⟨wa, rfl⟩ : ∃ wa, wa = wr := ⟨_, rfl⟩
          go_wp2_with fail
          go_loopw [6, 7] (fun n i wq => ∃ y : Nat, y ≤ 4 ∧ i = .int .i64 y ∧ n = .int .i64 (sumN (hadJ xs (4 * u + v)) (4 * y)) ∧ Hid (Q wa wq)) (fun _ i _ => 4 - (intOf i).toNat)
          case atStart => exact ⟨0, by omega, rfl, rfl, Q.refl _⟩
          case round =>
            obtain ⟨y, hy, rfl, rfl, hq⟩ := hrel
            by_cases hly : y < 4
            · have hy4 : (y : Int) < 4 := by omega
              go_wp2_with fail
              go_loopw [6, 8] (fun n i wq => ∃ x : Nat, x ≤ 4 ∧ i = .int .i64 x ∧ n = .int .i64 (sumN (hadJ xs (4 * u + v)) (4 * y + x)) ∧ Hid (Q wa wq)) (fun _ i _ => 4 - (intOf i).toNat)
              case atStart => exact ⟨0, by omega, rfl, rfl, hq⟩
              case round =>
                clear hq
                obtain ⟨x, hx', rfl, rfl, hq⟩ := hrel
                by_cases hlx : x < 4
                · have hx4 : (x : Int) < 4 := by omega
                  obtain ⟨i, hi⟩ : ∃ i, 4 * y + x = i := ⟨_, rfl⟩
                  have hil : i < 16 := by omega
                  have e1 : 4 * (y : Int) + (x : Int) = (i : Int) := by omega
                  have c1 := (hK.out.1.q hq.out).at i hil
                  have hjb := hadJ_bnd HB.out (4 * u + v) i (by omega) hil
                  have hsb := sumN_bnd _ B (fun j hj => hadJ_bnd HB.out (4 * u + v) j (by omega) hj) hB1 i (by omega)
                  have hja := hadJ_at xs u v y x hlv hlx
                  have hst : sumN (hadJ xs (4 * u + v)) (4 * y + (x + 1)) = sumN (hadJ xs (4 * u + v)) (4 * y + x) + hadJ xs (4 * u + v) (4 * y + x) := rfl
                  rw [hi] at hja hst ⊢
                  rw [hja] at hjb hst
                  have o1 := sg_one (4 * u + y) (by omega)
                  have o2 := sg_one (4 * v + x) (by omega)
                  have T1 := Lib.hid (fun z => l3Sign (u : Int) (y : Int) (4 * u + y) z (by omega) (by omega) (by omega) (by omega))
                  have T2 := Lib.hid (fun z => l3Sign (v : Int) (x : Int) (4 * v + x) z (by omega) (by omega) (by omega) (by omega))
                  generalize sg (4 * u + y) = s1 at hjb hst o1 T1
                  generalize sg (4 * v + x) = s2 at hjb hst o2 T2
                  generalize xs[i]?.getD 0 = b at hjb hst c1
                  generalize sumN (hadJ xs (4 * u + v)) i = n at hst hsb ⊢
                  have hs12 : -1 ≤ s1 * s2 ∧ s1 * s2 ≤ 1 := by rcases o1 with rfl | rfl <;> rcases o2 with rfl | rfl <;> decide
                  obtain ⟨s12, h12⟩ : ∃ s, s1 * s2 = s := ⟨_, rfl⟩
                  rw [h12] at hjb hst hs12
                  obtain ⟨t, ht⟩ : ∃ t, s12 * b = t := ⟨_, rfl⟩
                  rw [ht] at hjb hst
                  have w1 : IntKind.i64.wrap (s1 * s2) = s12 := by rw [h12]; exact IntWalk.i64_in _ ⟨by omega, by omega⟩
                  have w1' : wrap64 (s1 * s2) = s12 := by rw [← IntWalk.i64_left, w1]
                  have w2 : IntKind.i64.wrap (s12 * b) = t := by rw [ht]; exact IntWalk.i64_in _ ⟨by omega, by omega⟩
                  have w2' : wrap64 (s12 * b) = t := by rw [← IntWalk.i64_left, w2]
                  have w3 : IntKind.i64.wrap (n + t) = n + t := IntWalk.i64_in _ ⟨by omega, by omega⟩
                  have w4 : IntKind.i64.wrap (4 * (y : Int)) = 4 * (y : Int) := IntWalk.i64_in _ ⟨by omega, by omega⟩
                  have w5 : IntKind.i64.wrap (i : Int) = (i : Int) := IntWalk.i64_in _ ⟨by omega, by omega⟩
                  have hi16 : (i : Int) < 16 := by omega
                  have HST := Lib.hid hst
                  have HQ := Lib.hid hq.out
                  have HI := Lib.hid hi
                  clear hst hq hsb hjb o1 o2 hs12 h12 ht hja hi
                  go_wp2_with fail
                  refine wp_region_x (fun ww => ww.cell? ⟨w.heap.size, i, none⟩ = some (.int .i64 b)) (fun _ => false) (by kernel_rfl) c1 (fun hS => ?_)
                  refine wpAnyX_take (i := 0) (v := ?vv1) rfl (by kernel_rfl) (by kernel_rfl) (by kernel_rfl) (by kernel_rfl) (fun _ _ _ h => h) (Or.inl ⟨by rfl, ?hy1⟩) hS ?rest1
                  case hy1 => (intro ww hSw; (try dsimp only at hSw); go_split_ands; go_simp; try with_reducible rfl)
                  try simp only [Act.put, List.setIfInBounds_toArray, List.set_cons_zero, List.set_cons_succ]
                  refine wpAnyX_take (i := 1) (v := ?vv2) rfl (by kernel_rfl) (by kernel_rfl) (by kernel_rfl) (by kernel_rfl) (fun _ _ _ h => h) (Or.inl ⟨by rfl, ?hy2⟩) hS ?rest2
                  case hy2 => (intro ww hSw; (try dsimp only at hSw); go_split_ands; go_simp; try with_reducible rfl)
                  try simp only [Act.put, List.setIfInBounds_toArray, List.set_cons_zero, List.set_cons_succ]
                  refine wpAnyX_take (i := 2) (v := ?vv3) rfl (by kernel_rfl) (by kernel_rfl) (by kernel_rfl) (by kernel_rfl) (fun _ _ _ h => h) (Or.inl ⟨by rfl, ?hy3⟩) hS ?rest3
                  case hy3 => (intro ww hSw; (try dsimp only at hSw); go_split_ands; go_simp; try with_reducible rfl)
                  try simp only [Act.put, List.setIfInBounds_toArray, List.set_cons_zero, List.set_cons_succ]
                  refine wpAnyX_take (i := 4) (v := ?vv4) rfl (by kernel_rfl) (by kernel_rfl) (by kernel_rfl) (by kernel_rfl) (fun _ _ _ h => h) (Or.inl ⟨by rfl, ?hy4⟩) hS ?rest4
                  case hy4 => (intro ww hSw; (try dsimp only at hSw); go_split_ands; go_simp; try with_reducible rfl)
                  try simp only [Act.put, List.setIfInBounds_toArray, List.set_cons_zero, List.set_cons_succ]
                  refine wpAnyX_take (i := 5) (v := ?vv5) rfl (by kernel_rfl) (by kernel_rfl) (by kernel_rfl) (by kernel_rfl) (fun _ _ _ h => h) (Or.inl ⟨by rfl, ?hy5⟩) hS ?rest5
                  case hy5 => (intro ww hSw; (try dsimp only at hSw); go_split_ands; go_simp; try with_reducible rfl)
                  try simp only [Act.put, List.setIfInBounds_toArray, List.set_cons_zero, List.set_cons_succ]
                  refine wpAnyX_take (i := 8) (v := ?vv6) rfl (by kernel_rfl) (by kernel_rfl) (by kernel_rfl) (by kernel_rfl) (fun _ _ _ h => h) (Or.inl ⟨by rfl, ?hy6⟩) hS ?rest6
                  case hy6 => (intro ww hSw; (try dsimp only at hSw); go_split_ands; go_simp; try with_reducible rfl)
                  try simp only [Act.put, List.setIfInBounds_toArray, List.set_cons_zero, List.set_cons_succ]
                  refine wpAnyX_take (i := 9) (v := ?vv7) rfl (by kernel_rfl) (by kernel_rfl) (by kernel_rfl) (by kernel_rfl) (fun _ _ _ h => h) (Or.inl ⟨by rfl, ?hy7⟩) hS ?rest7
                  case hy7 => (intro ww hSw; (try dsimp only at hSw); go_split_ands; go_simp; try with_reducible rfl)
                  try simp only [Act.put, List.setIfInBounds_toArray, List.set_cons_zero, List.set_cons_succ]
                  refine wpAnyX_take (i := 10) (v := ?vv8) rfl (by kernel_rfl) (by kernel_rfl) (by kernel_rfl) (by kernel_rfl) (fun _ _ _ h => h) (Or.inl ⟨by rfl, ?hy8⟩) hS ?rest8
                  case hy8 => (intro ww hSw; (try dsimp only at hSw); go_split_ands; go_simp; try with_reducible rfl)
                  try simp only [Act.put, List.setIfInBounds_toArray, List.set_cons_zero, List.set_cons_succ]
                  refine wpAnyX_take (i := 11) (v := ?vv9) rfl (by kernel_rfl) (by kernel_rfl) (by kernel_rfl) (by kernel_rfl) (fun _ _ _ h => h) (Or.inl ⟨by rfl, ?hy9⟩) hS ?rest9
                  case hy9 => (intro ww hSw; (try dsimp only at hSw); go_split_ands; go_simp; try with_reducible rfl)
                  try simp only [Act.put, List.setIfInBounds_toArray, List.set_cons_zero, List.set_cons_succ]
                  refine wpAnyX_take (i := 12) (v := ?vv10) rfl (by kernel_rfl) (by kernel_rfl) (by kernel_rfl) (by kernel_rfl) (fun _ _ _ h => h) (Or.inl ⟨by rfl, ?hy10⟩) hS ?rest10
                  case hy10 => (intro ww hSw; (try dsimp only at hSw); go_split_ands; go_simp; try with_reducible rfl)
                  try simp only [Act.put, List.setIfInBounds_toArray, List.set_cons_zero, List.set_cons_succ]
                  refine wpAnyX_take (i := 13) (v := ?vv11) rfl (by kernel_rfl) (by kernel_rfl) (by kernel_rfl) (by kernel_rfl) (fun _ _ _ h => h) (Or.inl ⟨by rfl, ?hy11⟩) hS ?rest11
                  case hy11 => (intro ww hSw; (try dsimp only at hSw); go_split_ands; go_simp; try with_reducible rfl)
                  try simp only [Act.put, List.setIfInBounds_toArray, List.set_cons_zero, List.set_cons_succ]
                  refine wpAnyX_step (k := 3) (by kernel_rfl) rfl rfl (fun K2 hK2 => ?_); go_simp
                  refine (T1.out _).mono ?_; rintro e wz ⟨rfl, rfl⟩
                  refine hK2.out _ _ hS (fun hS => ?_)
                  clear hK2 K2; (try simp only [Act.put, List.setIfInBounds_toArray, List.set_cons_zero, List.set_cons_succ])
                  refine wpAnyX_step (k := 6) (by kernel_rfl) rfl rfl (fun K2 hK2 => ?_); go_simp
                  refine (T2.out _).mono ?_; rintro e wz ⟨rfl, rfl⟩
                  refine hK2.out _ _ hS (fun hS => ?_)
                  clear hK2 K2; (try simp only [Act.put, List.setIfInBounds_toArray, List.set_cons_zero, List.set_cons_succ])
                  refine wpAnyX_take (i := 7) (v := ?vv12) rfl (by kernel_rfl) (by kernel_rfl) (by kernel_rfl) (by kernel_rfl) (fun _ _ _ h => h) (Or.inl ⟨by rfl, ?hy12⟩) hS ?rest12
                  case hy12 => (intro ww hSw; (try dsimp only at hSw); go_split_ands; go_simp; try with_reducible rfl)
                  try simp only [Act.put, List.setIfInBounds_toArray, List.set_cons_zero, List.set_cons_succ]
                  refine wpAnyX_take (i := 14) (v := ?vv13) rfl (by kernel_rfl) (by kernel_rfl) (by kernel_rfl) (by kernel_rfl) (fun _ _ _ h => h) (Or.inl ⟨by rfl, ?hy13⟩) hS ?rest13
                  case hy13 => (intro ww hSw; (try dsimp only at hSw); go_split_ands; go_simp; try with_reducible rfl)
                  try simp only [Act.put, List.setIfInBounds_toArray, List.set_cons_zero, List.set_cons_succ]
                  refine wpAnyX_take (i := 15) (v := ?vv14) rfl (by kernel_rfl) (by kernel_rfl) (by kernel_rfl) (by kernel_rfl) (fun _ _ _ h => h) (Or.inl ⟨by rfl, ?hy14⟩) hS ?rest14
                  case hy14 => (intro ww hSw; (try dsimp only at hSw); go_split_ands; go_simp; try with_reducible rfl)
                  try simp only [Act.put, List.setIfInBounds_toArray, List.set_cons_zero, List.set_cons_succ]
                  refine wpAnyX_take (i := 16) (v := ?vv15) rfl (by kernel_rfl) (by kernel_rfl) (by kernel_rfl) (by kernel_rfl) (fun _ _ _ h => h) (Or.inl ⟨by rfl, ?hy15⟩) hS ?rest15
                  case hy15 => (intro ww hSw; (try dsimp only at hSw); go_split_ands; go_simp; try with_reducible rfl)
                  try simp only [Act.put, List.setIfInBounds_toArray, List.set_cons_zero, List.set_cons_succ]
                  refine wpAnyX_done (by kernel_rfl) ?_ _
                  clear hS c1
                  go_wp2_with fail
                  go_roundw
                  case rel => exact ⟨x + 1, by omega, by go_num, by rw [HST.out], HQ.out.drew⟩
                  case measure => simp [intOf]; omega
                · have hxe : x = 4 := by omega
                  subst hxe
                  go_wp2_with fail
                  go_roundw
                  case rel => exact ⟨y + 1, by omega, by go_num, by rw [Nat.mul_succ], hq⟩
                  case measure => simp [intOf]; omega
            · have hye : y = 4 := by omega
              subst hye
              obtain ⟨i, hi⟩ : ∃ i, 4 * u + v = i := ⟨_, rfl⟩
              have hil : i < 16 := by omega
              have e1 : 4 * (u : Int) + (v : Int) = (i : Int) := by omega
              obtain ⟨k1, k2, k3, k4, k5⟩ := hK.out
              have hst := set_tab (hadF xs) i hil
              have hn : sumN (hadJ xs (4 * u + v)) (4 * 4) = hadF xs (4 * u + v) := rfl
              rw [hn, hi]
              rw [hi] at k3
              replace k1 := k1.q hq.out
              replace k2 := k2.q hq.out
              replace k3 := k3.q hq.out
              replace k4 := k4.trans hq.out
              have k6 := hq.out.size
              have c1 := k3.at i hil
              have f1 := k3.free i
              rw [tab_at _ _ _ hil (Nat.le_refl _)] at c1
              generalize hadF xs i = n at hst ⊢
              have n1 := Lib.hid (k3.set i n)
              rw [hst] at n1
              have n2 := Lib.hid (k2.far (p := ⟨w.heap.size + 1 + 1, i, none⟩) (by show w.heap.size + 1 ≠ w.heap.size + 1 + 1; omega) (.int .i64 n))
              have n3 := Lib.hid (k1.far (p := ⟨w.heap.size + 1 + 1, i, none⟩) (by show w.heap.size ≠ w.heap.size + 1 + 1; omega) (.int .i64 n))
              have n4 := Lib.hid (k4.set (p := ⟨w.heap.size + 1 + 1, i, none⟩) (by show w.heap.size ≤ w.heap.size + 1 + 1; omega) (.int .i64 n))
              have w4 : IntKind.i64.wrap (4 * (u : Int)) = 4 * (u : Int) := IntWalk.i64_in _ ⟨by omega, by omega⟩
              have w5 : IntKind.i64.wrap (i : Int) = (i : Int) := IntWalk.i64_in _ ⟨by omega, by omega⟩
              have hi16 : (i : Int) < 16 := by omega
              have hi2 : 4 * u + (v + 1) = i + 1 := by omega
              have HI2 := Lib.hid hi2
              clear k1 k2 k3 k4 hst hn hi hi2 hq hK
              go_wp2_with fail
              go_roundw
              case rel => exact ⟨v + 1, by omega, by go_num, n3.out, n2.out, by rw [HI2.out]; exact n1.out, n4.out, by simp; omega⟩
              case measure => simp [intOf]; omega
        · have hve : v = 4 := by omega
          subst hve
          go_wp2_with fail
          go_roundw
          case rel => exact ⟨u + 1, by omega, by go_num, by rw [Nat.mul_succ]; exact hK⟩
          case measure => simp [intOf]; omega
    · have hue : u = 4 := by omega
      subst hue
      obtain ⟨k1, k2, k3, k4, k5⟩ := hK.out
      have k3' : Bl wr (w.heap.size + 1 + 1) (hadL xs) := by
        have : tab (fun j => if j < 4 * 4 then hadF xs j else 0) 16 = hadL xs := tab_full (hadF xs)
        rw [← this]; exact k3
      have hl := hadL_len xs
      have H4 := Lib.hid k4
      obtain ⟨zs, hzs⟩ : ∃ zs, hadL xs = zs := ⟨_, rfl⟩
      rw [hzs] at k3' hl
      have HZ := Lib.hid hzs
      clear k1 k3 k4 hK hzs
      go_wp2_with (first | (first | refine wpList_load_arr rfl _ rfl _ rfl _ (by assumption) ?_ | refine wpList_load_arr_g (by rfl) _ rfl _ rfl _ (by assumption) ?_) | (refine wpList_store_arr rfl _ _ rfl _ rfl _ _ rfl (by first | assumption | rfl) (by assumption) ?_; intro w9 b9 g9 s9))
      refine bodyPost_ret (v := .agg (arr zs)) (results_cell_row (by rfl) _ _ _ _ _ _ _ (by rfl) b9.blk Tryd.underlying22 rfl (by rw [arr_size, hl]; exact info_arr)) rfl ⟨by rw [HZ.out], ?_⟩
      exact H4.out.grown g9 (fun k e => by have := Option.some.inj e; omega)
end Go.Proofs.YtkdmhlbmhjolcaaDoor

/-
  DoubleSize of the reference.
-/
import Derived.Test.YtoipcfpbkjanhaaDou2
import Derived.Test.YtoipcfpbkjanhaaSiz5
namespace Go.Proofs.Ytoipcfpbkjanhaa
open Go.RowKit

set_option maxRecDepth 100000 in
set_option maxHeartbeats 8000000 in
theorem spec_Double_ok (W H : Int) (wn hn' : Nat) (A : Option Addr) (m c B : Nat) (xs : List Int) (w : World) (hx : Rd w B A xs) (hB : B ≤ w.heap.size) (hn : Hid (xs.length = m)) (hp : Hid (picB W H xs = true))
    (hW : 2 * W = (wn : Int)) (hH : 2 * H = (hn' : Int)) (sW : sideOk (wn : Int)) (sH : sideOk (hn' : Int)) :
    Calls Try.prog 29 #[.agg #[.int .i64 W, .int .i64 H, .slice A m c]] w fun e w' => ∃ v, e = .returned (.agg #[.int .i64 (wn : Int), .int .i64 (hn' : Int), v]) ∧ Own w' w.heap.size v (hn' * wn) (pixL (dblF W H xs) wn hn') ∧ Q w w' := by
  obtain ⟨pW, pH, pl, pa⟩ := picB_parts hp.out
  unfold sideOk at sW sH
  have w16 : wn ≤ 32 := by omega
  have h16 : hn' ≤ 32 := by omega
  have n256 : hn' * wn ≤ 32 * 32 := Nat.mul_le_mul h16 w16
  have q0 : Q w ((w.alloc (.cells #[.int .i64 W, .int .i64 H, .slice A m c] 27)).alloc (.cells #[.int .i64 0, .int .i64 0, .slice none 0 0] 27)) := (by repeat (first | exact Q.refl _ | assumption | refine Q.drewN ?_ _ | refine Q.drew ?_ | refine Q.alloc ?_ _ | refine Q.trans ?_ (by assumption) | refine Q.set ?_ (by first | exact Nat.le_refl _ | omega | (simp; done) | (simp; omega)) _))
  have bp := (Blk.new w 27 #[.int .i64 W, .int .i64 H, .slice A m c]).alloc (.cells #[.int .i64 0, .int .i64 0, .slice none 0 0] 27)
  have br := Blk.new (w.alloc (.cells #[.int .i64 W, .int .i64 H, .slice A m c] 27)) 27 #[.int .i64 0, .int .i64 0, .slice none 0 0]
  rw [World.size_alloc] at br
  have s0 : w.heap.size + 2 ≤ ((w.alloc (.cells #[.int .i64 W, .int .i64 H, .slice A m c] 27)).alloc (.cells #[.int .i64 0, .int .i64 0, .slice none 0 0] 27)).heap.size := by simp
  have HX := Lib.hid (hx.q q0 hB)
  have mm : m ≤ 9223372036854775807 := by have := (area_le pW.1 pW.2.1 pH.1 pH.2.1).2; rw [hn.out] at pl; omega
  have hW2 : 8 ≤ W := pW.1
  have hH2 : 8 ≤ H := pH.1
  have hW3 : W ≤ 32 := pW.2.1
  have hH3 : H ≤ 32 := pH.2.1
  have hW4 : 2 * W ≤ 32 := by omega
  have hH4 : 2 * H ≤ 32 := by omega
  clear hx pl pa pW pH sW sH
  go_enter Try.func29, Try.ntmps29
  go_wp2_with fail
  refine (spec_PictureValid W H A m c _ xs true _ HX.out (by omega) hn mm hp).mono ?_; rintro e wv ⟨rfl, q1⟩
  have s2 := q1.size
  replace bp := bp.q q1
  replace br := br.q q1
  replace HX := Lib.hid (HX.out.q q1 (by omega))
  have QQ := q0.trans q1
  have bpc := bp.cell
  clear q1 q0
  go_wp2_with fail
  have s5 : (wv.alloc (.cells #[.int .i64 (wn : Int), .int .i64 (hn' : Int), .slice none 0 0] 27)).heap.size = wv.heap.size + 1 := by simp
  have q5 : Q wv (wv.alloc (.cells #[.int .i64 (wn : Int), .int .i64 (hn' : Int), .slice none 0 0] 27)) := (Q.refl _).alloc _
  have bx := Blk.new wv 27 #[.int .i64 (wn : Int), .int .i64 (hn' : Int), .slice none 0 0]
  clear bpc hW4 hH4
  generalize wv.alloc (.cells #[.int .i64 (wn : Int), .int .i64 (hn' : Int), .slice none 0 0] 27) = w5 at bx q5 s5 ⊢
  have BP := Lib.hid bp
  have BR := Lib.hid br
  have HQ := Lib.hid QQ
  have HQ5 := Lib.hid q5
  have HBX := Lib.hid bx
  clear bp br bx QQ q5
  (try simp only [hW, hH])
  go_loopw [4] (fun i wr => ∃ (y : Nat) (Av : Option Addr) (cv : Nat), y ≤ hn' ∧ i = .int .i64 y ∧ Own wr (wv.heap.size + 1) (.slice Av (y * wn) cv) (y * wn) (tab (fun k => dblF W H xs (k % wn) (k / wn)) (y * wn)) ∧ Q wv wr ∧ Blk wr wv.heap.size 27 #[.int .i64 (wn : Int), .int .i64 (hn' : Int), .slice Av (y * wn) cv] ∧ wv.heap.size + 1 ≤ wr.heap.size) (fun i _ => hn' - (intOf i).toNat)
  case atStart => exact ⟨0, none, 0, Nat.zero_le _, rfl, by rw [Nat.zero_mul]; exact Own.nil _ _, HQ5.out, by rw [Nat.zero_mul]; exact HBX.out, by omega⟩
  case round =>
    obtain ⟨y, Av, cv, hy, rfl, ho, hq, hb, hws⟩ := hrel
    clear HQ5 HBX s5 w5
    have bxc := hb.cell
    have HO := Lib.hid ho
    have HQr := Lib.hid hq
    have HB := Lib.hid hb
    clear ho hq hb
    by_cases hlt : y < hn'
    · have hyl : (y : Int) < (hn' : Int) := by omega
      go_wp2_with fail
      clear bxc
      go_loopw [5] (fun i wr => ∃ (x : Nat) (Av : Option Addr) (cv : Nat), x ≤ wn ∧ i = .int .i64 x ∧ Own wr (wv.heap.size + 1) (.slice Av (y * wn + x) cv) (y * wn + x) (tab (fun k => dblF W H xs (k % wn) (k / wn)) (y * wn + x)) ∧ Q wv wr ∧ Blk wr wv.heap.size 27 #[.int .i64 (wn : Int), .int .i64 (hn' : Int), .slice Av (y * wn + x) cv] ∧ wv.heap.size + 1 ≤ wr.heap.size) (fun i _ => wn - (intOf i).toNat)
      case atStart => exact ⟨0, Av, cv, Nat.zero_le _, rfl, HO.out, HQr.out, HB.out, hws⟩
      case round =>
        clear HO HQr HB hws
        obtain ⟨x, Av, cv, hx, rfl, ho, hq, hb, hws⟩ := hrel
        have bxc := hb.cell
        by_cases hlx : x < wn
        · have hxl : (x : Int) < (wn : Int) := by omega
          have hst : tab (fun k => dblF W H xs (k % wn) (k / wn)) (y * wn + (x + 1)) = tab (fun k => dblF W H xs (k % wn) (k / wn)) (y * wn + x) ++ [dblF W H xs x y] := by
            rw [← Nat.add_assoc, tab_succ, row_div y wn x hlx, row_mod y wn x hlx]
          have hlen := row_lt y wn hn' x hlt hlx
          have hv0 : dblF W H xs x y = halfAt W H xs (x : Int) (y : Int) := rfl
          have bpb := BP.out.q hq
          have HXb := Lib.hid (HX.out.q hq (by omega))
          have T : ∀ (z : World), Q wr z → Calls Try.prog 56 #[.agg #[.int .i64 W, .int .i64 H, .slice A m c], .int .i64 (x : Int), .int .i64 (y : Int)] z fun e w' => e = .returned (.int .i64 (halfAt W H xs (x : Int) (y : Int))) ∧ Q z w' := fun z hz => spec_half W H _ _ A m c B xs _ (HXb.out.q hz (by omega)) (Nat.le_trans (by omega) hz.size) hn hp (by omega) (by omega) (by omega) (by omega)
          have T0 := Lib.hid T
          generalize halfAt W H xs (x : Int) (y : Int) = s0 at T0 hv0
          have HV := Lib.hid hv0
          have HST := Lib.hid hst
          have HO := Lib.hid ho
          have HQr := Lib.hid hq
          have HB := Lib.hid hb
          clear T hv0 hst ho hq hb
          have hn2 : y * wn + x ≤ 1000000000000 := by omega
          go_wp2_with fail
          have hso : ∀ k, Value.ownBlock (.slice Av (y * wn + x) cv) = some k → wv.heap.size < k := fun k e => HO.out.below k e
          have HSO := Lib.hid hso
          have bpc := bpb.cell
          clear hso
          refine wp_region_x (fun ww => ww.cell? ⟨w.heap.size, 0, none⟩ = some (.int .i64 W) ∧ ww.cell? ⟨w.heap.size, 1, none⟩ = some (.int .i64 H) ∧ ww.cell? ⟨w.heap.size, 2, none⟩ = some (.slice A m c) ∧ ww.cell? ⟨wv.heap.size, 2, none⟩ = some (.slice Av (y * wn + x) cv)) (fun j => decide (8 ≤ j)) (by kernel_rfl) ⟨bpb.cell 0, bpb.cell 1, bpb.cell 2, HB.out.cell 2⟩ (fun hS => ?_)
          have qb : Q wr wr.drew := (Q.refl _).drew
          refine wpAnyX_take (i := 0) (v := ?vv1) rfl (by kernel_rfl) (by kernel_rfl) (by kernel_rfl) (by kernel_rfl) (fun _ _ _ h => h) (Or.inl ⟨by rfl, ?hy1⟩) hS ?rest1
          case hy1 => (intro ww hSw; (try dsimp only at hSw); go_split_ands; go_simp; try with_reducible rfl)
          try simp only [Act.put, List.setIfInBounds_toArray, List.set_cons_zero, List.set_cons_succ]
          refine wpAnyX_take (i := 1) (v := ?vv2) rfl (by kernel_rfl) (by kernel_rfl) (by kernel_rfl) (by kernel_rfl) (fun _ _ _ h => h) (Or.inl ⟨by rfl, ?hy2⟩) hS ?rest2
          case hy2 => (intro ww hSw; (try dsimp only at hSw); go_split_ands; go_simp; try with_reducible rfl)
          try simp only [Act.put, List.setIfInBounds_toArray, List.set_cons_zero, List.set_cons_succ]
          refine wpAnyX_take (i := 2) (v := ?vv3) rfl (by kernel_rfl) (by kernel_rfl) (by kernel_rfl) (by kernel_rfl) (fun _ _ _ h => h) (Or.inl ⟨by rfl, ?hy3⟩) hS ?rest3
          case hy3 => (intro ww hSw; (try dsimp only at hSw); go_split_ands; go_simp; try with_reducible rfl)
          try simp only [Act.put, List.setIfInBounds_toArray, List.set_cons_zero, List.set_cons_succ]
          refine wpAnyX_take (i := 3) (v := ?vv4) rfl (by kernel_rfl) (by kernel_rfl) (by kernel_rfl) (by kernel_rfl) (fun _ _ _ h => h) (Or.inl ⟨by rfl, ?hy4⟩) hS ?rest4
          case hy4 => (intro ww hSw; (try dsimp only at hSw); go_split_ands; go_simp; try with_reducible rfl)
          try simp only [Act.put, List.setIfInBounds_toArray, List.set_cons_zero, List.set_cons_succ]
          refine wpAnyX_take (i := 4) (v := ?vv5) rfl (by kernel_rfl) (by kernel_rfl) (by kernel_rfl) (by kernel_rfl) (fun _ _ _ h => h) (Or.inl ⟨by rfl, ?hy5⟩) hS ?rest5
          case hy5 => (intro ww hSw; (try dsimp only at hSw); go_split_ands; go_simp; try with_reducible rfl)
          try simp only [Act.put, List.setIfInBounds_toArray, List.set_cons_zero, List.set_cons_succ]
          refine wpAnyX_step (k := 5) (by kernel_rfl) rfl rfl (fun K2 hK2 => ?_)
          go_simp
          refine (T0.out _ qb).mono ?_; rintro e wz ⟨rfl, qz⟩
          replace qb := qb.trans qz
          refine hK2.out _ _ ⟨bpb.qcell qb 0, bpb.qcell qb 1, bpb.qcell qb 2, HB.out.qcell qb 2⟩ (fun hS => ?_)
          clear hK2 K2 qz
          (try simp only [Act.put, List.setIfInBounds_toArray, List.set_cons_zero, List.set_cons_succ])
          refine wpAnyX_step (k := 6) (by kernel_rfl) rfl rfl (fun K2 hK2 => ?_)
          go_simp
          have qa := qb.alloc (.cells #[.int .i64 s0] 3)
          refine hK2.out _ _ ⟨bpb.qcell qa 0, bpb.qcell qa 1, bpb.qcell qa 2, HB.out.qcell qa 2⟩ (fun hS => ?_)
          clear hK2 K2
          (try simp only [Act.put, List.setIfInBounds_toArray, List.set_cons_zero, List.set_cons_succ])
          have sz := qb.size
          refine wpAnyX_step (k := 7) (by kernel_rfl) rfl rfl (fun K2 hK2 => ?_)
          refine step_append_int (by rfl) _ _ (by rfl) wv (wv.heap.size + 1) _ _ _ (by rfl) (HO.out.q qa) ⟨wz.heap.size, 0, none⟩ s0 1 (by rfl) hn2 (by omega) (by show _ ≤ (World.alloc wz _).heap.size; rw [World.size_alloc]; omega) (HQr.out.trans qa) (by simp) ?_
          intro A7 c2 w' O2 Q2 S2 G2
          have bx2 := (HB.out.q qa).grown G2 (fun e => absurd (HSO.out _ e.symm) (Nat.lt_irrefl _))
          have bp2 := BP.out.q Q2
          refine hK2.out _ _ ⟨bp2.cell 0, bp2.cell 1, bp2.cell 2, bx2.cell 2⟩ (fun _ => ?_)
          clear hK2 K2 hS
          (try simp only [Act.put, List.setIfInBounds_toArray, List.set_cons_zero, List.set_cons_succ])
          obtain ⟨A2, hA2⟩ : ∃ A2, A2 = some (⟨A7, 0, none⟩ : Addr) := ⟨_, rfl⟩
          rw [← hA2] at O2 ⊢
          clear hA2
          have bc2 := bx2.cell
          have bf2 := bx2.free
          clear bp2 bxc bpc bpb
          refine wpAnyX_tail [8, 9] 8 (by kernel_rfl) (by decide) rfl ?_
          go_wp2_with fail
          have BX3 := Lib.hid (bx2.set 2 (.slice A2 (y * wn + x + 1) c2))
          have O3 := Lib.hid (O2.far (p := ⟨wv.heap.size, 2, none⟩) (by show wv.heap.size < wv.heap.size + 1; omega) (.slice A2 (y * wn + x + 1) c2))
          have Q3 := Lib.hid (Q2.set (p := ⟨wv.heap.size, 2, none⟩) (Nat.le_refl _) (.slice A2 (y * wn + x + 1) c2))
          clear bx2 O2 Q2 G2
          go_roundw
          case rel => exact ⟨x + 1, A2, c2, by omega, by go_num, by rw [HST.out, HV.out]; exact O3.out, Q3.out, BX3.out, by simp; omega⟩
          case measure => simp [intOf]; omega
        · have hxw : x = wn := by omega
          subst hxw
          have HO := Lib.hid ho
          have HQr := Lib.hid hq
          have HB := Lib.hid hb
          clear ho hq hb
          go_wp2_with fail
          go_roundw
          case rel => exact ⟨y + 1, Av, cv, by omega, by go_num, by rw [Nat.succ_mul]; exact HO.out, HQr.out, by rw [Nat.succ_mul]; exact HB.out, hws⟩
          case measure => simp [intOf]; omega
    · have hye : y = hn' := by omega
      subst hye
      have brz := BR.out.q HQr.out
      have brc := brz.cell
      have brf := brz.free
      have Q7 := Lib.hid (HQ.out.trans HQr.out)
      clear brz
      go_wp2_with fail
      refine bodyPost_ret (v := .agg #[.int .i64 (wn : Int), .int .i64 (y : Int), .slice Av (y * wn) cv]) (by simp [results, Try.results29, go_sem, brc]) rfl ⟨_, rfl, ?_, ?_⟩
      · exact Own.mono (B := wv.heap.size + 1) (by repeat (first | exact HO.out | refine Own.far ?_ (by show w.heap.size + 1 < wv.heap.size + 1; omega) _)) (by omega)
      · have hq := Q7.out
        exact (by repeat (first | exact Q.refl _ | assumption | refine Q.drewN ?_ _ | refine Q.drew ?_ | refine Q.alloc ?_ _ | refine Q.trans ?_ (by assumption) | refine Q.set ?_ (by first | exact Nat.le_refl _ | omega | (simp; done) | (simp; omega)) _))
set_option maxRecDepth 100000 in
set_option maxHeartbeats 4000000 in
theorem spec_Double_no (W H : Int) (A : Option Addr) (m c B : Nat) (xs : List Int) (w : World) (hx : Rd w B A xs) (hB : B ≤ w.heap.size) (hn : Hid (xs.length = m)) (hm : m ≤ 9223372036854775807) (hs : Hid (picB W H xs = false ∨ 32 < 2 * W ∨ 32 < 2 * H)) :
    Calls Try.prog 29 #[.agg #[.int .i64 W, .int .i64 H, .slice A m c]] w fun e w' => e = .returned (.agg #[.int .i64 0, .int .i64 0, .slice none 0 0]) ∧ Q w w' := by
  have q0 : Q w ((w.alloc (.cells #[.int .i64 W, .int .i64 H, .slice A m c] 27)).alloc (.cells #[.int .i64 0, .int .i64 0, .slice none 0 0] 27)) := (by repeat (first | exact Q.refl _ | assumption | refine Q.drewN ?_ _ | refine Q.drew ?_ | refine Q.alloc ?_ _ | refine Q.trans ?_ (by assumption) | refine Q.set ?_ (by first | exact Nat.le_refl _ | omega | (simp; done) | (simp; omega)) _))
  have b0 := (Blk.new w 27 #[.int .i64 W, .int .i64 H, .slice A m c]).alloc (.cells #[.int .i64 0, .int .i64 0, .slice none 0 0] 27)
  have r0 := Blk.new (w.alloc (.cells #[.int .i64 W, .int .i64 H, .slice A m c] 27)) 27 #[.int .i64 0, .int .i64 0, .slice none 0 0]
  rw [World.size_alloc] at r0
  have s0 := q0.size
  have HX := Lib.hid (hx.q q0 hB)
  clear hx
  cases hp : picB W H xs
  · have HP := Lib.hid hp
    clear hp hs
    go_enter Try.func29, Try.ntmps29
    go_wp2_with fail
    refine (spec_PictureValid W H A m c _ xs false _ HX.out (by omega) hn hm HP).mono ?_; rintro e w1 ⟨rfl, q1⟩
    have bc := (b0.q q1).cell
    (have r4 := (r0.q q1).cell; have f4 := (r0.q q1).free; go_wp2_with fail; refine bodyPost_ret (v := .agg #[.int .i64 0, .int .i64 0, .slice none 0 0]) (by simp [results, Try.results29, go_sem, r4]) rfl ⟨rfl, ?_⟩; have hq := q0.trans q1; exact (by repeat (first | exact Q.refl _ | assumption | refine Q.drewN ?_ _ | refine Q.drew ?_ | refine Q.alloc ?_ _ | refine Q.trans ?_ (by assumption) | refine Q.set ?_ (by first | exact Nat.le_refl _ | omega | (simp; done) | (simp; omega)) _)))
  · have HP := Lib.hid hp
    obtain ⟨pW, pH, _, _⟩ := picB_parts hp
    have hs2 : 32 < 2 * W ∨ 32 < 2 * H := by
      rcases hs.out with h | h
      · rw [hp] at h; cases h
      · exact h
    have p1 := pW.1
    have p2 := pW.2.1
    have p3 := pH.1
    have p4 := pH.2.1
    clear hp hs pW pH
    by_cases hw : 2 * W ≤ 32
    · have hh : ¬ 2 * H ≤ 32 := by omega
      have hh' : 32 < 2 * H := by omega
      clear hs2
      go_enter Try.func29, Try.ntmps29
      go_wp2_with fail
      refine (spec_PictureValid W H A m c _ xs true _ HX.out (by omega) hn hm HP).mono ?_; rintro e w1 ⟨rfl, q1⟩
      have bc := (b0.q q1).cell
      (have r4 := (r0.q q1).cell; have f4 := (r0.q q1).free; go_wp2_with fail; refine bodyPost_ret (v := .agg #[.int .i64 0, .int .i64 0, .slice none 0 0]) (by simp [results, Try.results29, go_sem, r4]) rfl ⟨rfl, ?_⟩; have hq := q0.trans q1; exact (by repeat (first | exact Q.refl _ | assumption | refine Q.drewN ?_ _ | refine Q.drew ?_ | refine Q.alloc ?_ _ | refine Q.trans ?_ (by assumption) | refine Q.set ?_ (by first | exact Nat.le_refl _ | omega | (simp; done) | (simp; omega)) _)))
    · have hw' : 32 < 2 * W := by omega
      clear hs2
      go_enter Try.func29, Try.ntmps29
      go_wp2_with fail
      refine (spec_PictureValid W H A m c _ xs true _ HX.out (by omega) hn hm HP).mono ?_; rintro e w1 ⟨rfl, q1⟩
      have bc := (b0.q q1).cell
      (have r4 := (r0.q q1).cell; have f4 := (r0.q q1).free; go_wp2_with fail; refine bodyPost_ret (v := .agg #[.int .i64 0, .int .i64 0, .slice none 0 0]) (by simp [results, Try.results29, go_sem, r4]) rfl ⟨rfl, ?_⟩; have hq := q0.trans q1; exact (by repeat (first | exact Q.refl _ | assumption | refine Q.drewN ?_ _ | refine Q.drew ?_ | refine Q.alloc ?_ _ | refine Q.trans ?_ (by assumption) | refine Q.set ?_ (by first | exact Nat.le_refl _ | omega | (simp; done) | (simp; omega)) _)))

theorem spec_DoubleSize (W H : Int) (A : Option Addr) (n c B : Nat) (xs : List Int) (w : World) (hx : Rd w B A xs) (hB : B ≤ w.heap.size) (hn : Hid (xs.length = n)) (hm : n ≤ 9223372036854775807) :
    Calls Try.prog 29 #[.agg #[.int .i64 W, .int .i64 H, .slice A n c]] w fun e w' => ∃ v, e = .returned (.agg #[.int .i64 (doubP W H xs).1, .int .i64 (doubP W H xs).2.1, v]) ∧ Own w' w.heap.size v (doubP W H xs).2.2.length (doubP W H xs).2.2 ∧ Q w w' := by
  by_cases h : picB W H xs = true ∧ sideOk (2 * W) ∧ sideOk (2 * H)
  · rw [doubP, if_pos h]
    obtain ⟨hp, h1, h2⟩ := h
    have e1 : 2 * W = ((2 * W).toNat : Int) := by unfold sideOk at h1; omega
    have e2 : 2 * H = ((2 * H).toNat : Int) := by unfold sideOk at h2; omega
    refine (spec_Double_ok W H (2 * W).toNat (2 * H).toNat A n c B xs w hx hB hn hp e1 e2 (by rw [← e1]; exact h1) (by rw [← e2]; exact h2)).mono ?_
    rintro e w' ⟨v, rfl, o, q⟩
    refine ⟨v, by rw [← e1, ← e2], ?_, q⟩
    show Own w' w.heap.size v (pixL (dblF W H xs) (2 * W).toNat (2 * H).toNat).length _
    rw [length_pixL]; exact o
  · rw [doubP, if_neg h]
    refine (spec_Double_no W H A n c B xs w hx hB hn hm ?_).mono fun e w' ⟨he, hq⟩ => ⟨_, he, Own.nil _ _, hq⟩
    unfold Hid
    cases hp : picB W H xs
    · exact .inl rfl
    · obtain ⟨pW, pH, _, _⟩ := picB_parts hp
      refine .inr ?_
      unfold sideOk at h
      by_cases h1 : 2 * W ≤ 32
      · by_cases h2 : 2 * H ≤ 32
        · exact absurd ⟨hp, by omega, by omega⟩ h
        · exact .inr (by omega)
      · exact .inl (by omega)
end Go.Proofs.Ytoipcfpbkjanhaa

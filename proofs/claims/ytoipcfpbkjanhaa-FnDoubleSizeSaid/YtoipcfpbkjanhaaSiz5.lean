/-
  HalfSize of the reference.
-/
import Derived.Test.YtoipcfpbkjanhaaSiz4
namespace Go.Proofs.Ytoipcfpbkjanhaa
open Go.RowKit

set_option maxRecDepth 100000 in
set_option maxHeartbeats 8000000 in
theorem spec_Half_ok (W H : Int) (wn hn' : Nat) (A : Option Addr) (m c B : Nat) (xs : List Int) (w : World) (hx : Rd w B A xs) (hB : B ≤ w.heap.size) (hn : Hid (xs.length = m)) (hp : Hid (picB W H xs = true))
    (hW : W / 2 = (wn : Int)) (hH : H / 2 = (hn' : Int)) (sW : sideOk (wn : Int)) (sH : sideOk (hn' : Int)) :
    Calls Try.prog 27 #[.agg #[.int .i64 W, .int .i64 H, .slice A m c]] w fun e w' => ∃ v, e = .returned (.agg #[.int .i64 (wn : Int), .int .i64 (hn' : Int), v]) ∧ Own w' w.heap.size v (hn' * wn) (pixL (hafF W H xs) wn hn') ∧ Q w w' := by
  obtain ⟨pW, pH, pl, pa⟩ := picB_parts hp.out
  unfold sideOk at sW sH
  have w16 : wn ≤ 16 := by omega
  have h16 : hn' ≤ 16 := by omega
  have n256 : hn' * wn ≤ 16 * 16 := Nat.mul_le_mul h16 w16
  have q0 : Q w ((w.alloc (.cells #[.int .i64 W, .int .i64 H, .slice A m c] 27)).alloc (.cells #[.int .i64 0, .int .i64 0, .slice none 0 0] 27)) := (by repeat (first | exact Q.refl _ | assumption | refine Q.drewN ?_ _ | refine Q.drew ?_ | refine Q.alloc ?_ _ | refine Q.trans ?_ (by assumption) | refine Q.set ?_ (by first | exact Nat.le_refl _ | omega | (simp; done) | (simp; omega)) _))
  have bp := (Blk.new w 27 #[.int .i64 W, .int .i64 H, .slice A m c]).alloc (.cells #[.int .i64 0, .int .i64 0, .slice none 0 0] 27)
  have br := Blk.new (w.alloc (.cells #[.int .i64 W, .int .i64 H, .slice A m c] 27)) 27 #[.int .i64 0, .int .i64 0, .slice none 0 0]
  rw [World.size_alloc] at br
  have s0 : w.heap.size + 2 ≤ ((w.alloc (.cells #[.int .i64 W, .int .i64 H, .slice A m c] 27)).alloc (.cells #[.int .i64 0, .int .i64 0, .slice none 0 0] 27)).heap.size := by simp
  have HX := Lib.hid (hx.q q0 hB)
  have mm : m ≤ 9223372036854775807 := by have := (area_le pW.1 pW.2.1 pH.1 pH.2.1).2; rw [hn.out] at pl; omega
  have hW2 : 8 ≤ W := pW.1
  have hH2 : 8 ≤ H := pH.1
  have hW3 : W ≤ 32 := pW.2.1
  have hH3 : H ≤ 32 := pH.2.1
  have hW4 : W % 16 = 0 := by omega
  have hH4 : H % 16 = 0 := by omega
  clear hx pl pa pW pH sW sH
  go_enter Try.func27, Try.ntmps27
  go_wp2_with fail
  refine (spec_PictureValid W H A m c _ xs true _ HX.out (by omega) hn mm hp).mono ?_; rintro e wv ⟨rfl, q1⟩
  have s2 := q1.size
  replace bp := bp.q q1
  replace br := br.q q1
  replace HX := Lib.hid (HX.out.q q1 (by omega))
  have QQ := q0.trans q1
  have bpc := bp.cell
  clear q1 q0
  go_wp2_with fail
  have s5 : (wv.alloc (.cells #[.int .i64 (wn : Int), .int .i64 (hn' : Int), .slice none 0 0] 27)).heap.size = wv.heap.size + 1 := by simp
  have q5 : Q wv (wv.alloc (.cells #[.int .i64 (wn : Int), .int .i64 (hn' : Int), .slice none 0 0] 27)) := (Q.refl _).alloc _
  have bx := Blk.new wv 27 #[.int .i64 (wn : Int), .int .i64 (hn' : Int), .slice none 0 0]
  clear bpc hW4 hH4
  generalize wv.alloc (.cells #[.int .i64 (wn : Int), .int .i64 (hn' : Int), .slice none 0 0] 27) = w5 at bx q5 s5 ⊢
  have BP := Lib.hid bp
  have BR := Lib.hid br
  have HQ := Lib.hid QQ
  have HQ5 := Lib.hid q5
  have HBX := Lib.hid bx
  clear bp br bx QQ q5
  simp only [hW, hH]
  go_loopw [4] (fun i wr => ∃ (y : Nat) (Av : Option Addr) (cv : Nat), y ≤ hn' ∧ i = .int .i64 y ∧ Own wr (wv.heap.size + 1) (.slice Av (y * wn) cv) (y * wn) (tab (fun k => hafF W H xs (k % wn) (k / wn)) (y * wn)) ∧ Q wv wr ∧ Blk wr wv.heap.size 27 #[.int .i64 (wn : Int), .int .i64 (hn' : Int), .slice Av (y * wn) cv] ∧ wv.heap.size + 1 ≤ wr.heap.size) (fun i _ => hn' - (intOf i).toNat)
  case atStart => exact ⟨0, none, 0, Nat.zero_le _, rfl, by rw [Nat.zero_mul]; exact Own.nil _ _, HQ5.out, by rw [Nat.zero_mul]; exact HBX.out, by omega⟩
  case round =>
    obtain ⟨y, Av, cv, hy, rfl, ho, hq, hb, hws⟩ := hrel
    clear HQ5 HBX s5 w5
    have bxc := hb.cell
    have HO := Lib.hid ho
    have HQr := Lib.hid hq
    have HB := Lib.hid hb
    clear ho hq hb
    by_cases hlt : y < hn'
    · have hyl : (y : Int) < (hn' : Int) := by omega
      go_wp2_with fail
      clear bxc
      go_loopw [5] (fun i wr => ∃ (x : Nat) (Av : Option Addr) (cv : Nat), x ≤ wn ∧ i = .int .i64 x ∧ Own wr (wv.heap.size + 1) (.slice Av (y * wn + x) cv) (y * wn + x) (tab (fun k => hafF W H xs (k % wn) (k / wn)) (y * wn + x)) ∧ Q wv wr ∧ Blk wr wv.heap.size 27 #[.int .i64 (wn : Int), .int .i64 (hn' : Int), .slice Av (y * wn + x) cv] ∧ wv.heap.size + 1 ≤ wr.heap.size) (fun i _ => wn - (intOf i).toNat)
      case atStart => exact ⟨0, Av, cv, Nat.zero_le _, rfl, HO.out, HQr.out, HB.out, hws⟩
      case round =>
        clear HO HQr HB hws
        obtain ⟨x, Av, cv, hx, rfl, ho, hq, hb, hws⟩ := hrel
        have bxc := hb.cell
        by_cases hlx : x < wn
        · have hxl : (x : Int) < (wn : Int) := by omega
          have hst : tab (fun k => hafF W H xs (k % wn) (k / wn)) (y * wn + (x + 1)) = tab (fun k => hafF W H xs (k % wn) (k / wn)) (y * wn + x) ++ [hafF W H xs x y] := by
            rw [← Nat.add_assoc, tab_succ, row_div y wn x hlx, row_mod y wn x hlx]
          have hlen := row_lt y wn hn' x hlt hlx
          have hv0 : hafF W H xs x y = (hafS W H xs x y + 2) / 4 := rfl
          unfold hafS at hv0
          obtain ⟨a, ha⟩ : ∃ a, 2 * (x : Int) = a := ⟨_, rfl⟩
          obtain ⟨b, hb2⟩ : ∃ b, 2 * (y : Int) = b := ⟨_, rfl⟩
          obtain ⟨a1, ha1⟩ : ∃ a1, a + 1 = a1 := ⟨_, rfl⟩
          obtain ⟨b1, hb1⟩ : ∃ b1, b + 1 = b1 := ⟨_, rfl⟩
          rw [ha, hb2, ha1, hb1] at hv0
          have bpb := BP.out.q hq
          have HXb := Lib.hid (HX.out.q hq (by omega))
          have T : ∀ (u v : Int) (z : World), Q wr z → Calls Try.prog 52 #[.agg #[.int .i64 W, .int .i64 H, .slice A m c], .int .i64 u, .int .i64 v] z fun e w' => e = .returned (.int .i64 (smpAt W H xs u v)) ∧ Q z w' := fun u v z hz => spec_at W H u v A m c B xs _ (HXb.out.q hz (by omega)) (Nat.le_trans (by omega) hz.size) hn hp
          have m0 := smp_in hp.out a b
          have m1 := smp_in hp.out a1 b
          have m2 := smp_in hp.out a b1
          have m3 := smp_in hp.out a1 b1
          have T0 := Lib.hid (T a b)
          have T1 := Lib.hid (T a1 b)
          have T2 := Lib.hid (T a b1)
          have T3 := Lib.hid (T a1 b1)
          generalize smpAt W H xs a b = s0 at m0 T0 hv0
          generalize smpAt W H xs a1 b = s1 at m1 T1 hv0
          generalize smpAt W H xs a b1 = s2' at m2 T2 hv0
          generalize smpAt W H xs a1 b1 = s3' at m3 T3 hv0
          have HV := Lib.hid hv0
          have HST := Lib.hid hst
          have HO := Lib.hid ho
          have HQr := Lib.hid hq
          have HB := Lib.hid hb
          clear T hv0 hst ho hq hb
          have r0 : -9223372036854775808 ≤ a ∧ a ≤ 9223372036854775807 := by omega
          have r1 : -9223372036854775808 ≤ b ∧ b ≤ 9223372036854775807 := by omega
          have r2 : -9223372036854775808 ≤ a1 ∧ a1 ≤ 9223372036854775807 := by omega
          have r3 : -9223372036854775808 ≤ b1 ∧ b1 ≤ 9223372036854775807 := by omega
          have r6 : 0 ≤ s0 + s1 + s2' + s3' ∧ s0 + s1 + s2' + s3' ≤ 1020 := by omega
          have v1 : IntKind.i64.wrap (s0 + s1) = s0 + s1 := IntWalk.i64_in _ ⟨by omega, by omega⟩
          have v2 : IntKind.i64.wrap (s0 + s1 + s2') = s0 + s1 + s2' := IntWalk.i64_in _ ⟨by omega, by omega⟩
          have v3 : IntKind.i64.wrap (s0 + s1 + s2' + s3') = s0 + s1 + s2' + s3' := IntWalk.i64_in _ ⟨by omega, by omega⟩
          have m5 : IntKind.i64.wrap (s0 + s1 + s2' + s3' + 2) = s0 + s1 + s2' + s3' + 2 := IntWalk.i64_in _ ⟨by omega, by omega⟩
          have m6 : (s0 + s1 + s2' + s3' + 2).tdiv 4 = (s0 + s1 + s2' + s3' + 2) / 4 := Int.tdiv_eq_ediv_of_nonneg (by omega)
          have m7 : IntKind.i64.wrap ((s0 + s1 + s2' + s3' + 2) / 4) = (s0 + s1 + s2' + s3' + 2) / 4 := IntWalk.i64_in _ ⟨by omega, by omega⟩
          have hn2 : y * wn + x ≤ 1000000000000 := by omega
          clear m0 m1 m2 m3
          have v4 : IntKind.i64.wrap a = a := IntWalk.i64_in _ r0
          have v5 : IntKind.i64.wrap b = b := IntWalk.i64_in _ r1
          have v6 : IntKind.i64.wrap a1 = a1 := IntWalk.i64_in _ r2
          have v7 : IntKind.i64.wrap b1 = b1 := IntWalk.i64_in _ r3
          clear r0 r1 r2 r3
          go_wp2_with fail
          refine wp_region_x (fun ww => Q wr ww ∧ ww.cell? ⟨w.heap.size, 0, none⟩ = some (.int .i64 W) ∧ ww.cell? ⟨w.heap.size, 1, none⟩ = some (.int .i64 H) ∧ ww.cell? ⟨w.heap.size, 2, none⟩ = some (.slice A m c)) (fun _ => false) (by kernel_rfl) ⟨(Q.refl _).drew, bpb.cell 0, bpb.cell 1, bpb.cell 2⟩ (fun hS => ?_)
          have qb : Q wr wr.drew := (Q.refl _).drew
          refine wpAnyX_take (i := 0) (v := ?vv1) rfl (by kernel_rfl) (by kernel_rfl) (by kernel_rfl) (by kernel_rfl) (fun _ _ _ h => h) (Or.inl ⟨by rfl, ?hy1⟩) hS ?rest1
          case hy1 => (intro ww hSw; (try dsimp only at hSw); go_split_ands; go_simp; try with_reducible rfl)
          try simp only [Act.put, List.setIfInBounds_toArray, List.set_cons_zero, List.set_cons_succ]
          refine wpAnyX_take (i := 1) (v := ?vv2) rfl (by kernel_rfl) (by kernel_rfl) (by kernel_rfl) (by kernel_rfl) (fun _ _ _ h => h) (Or.inl ⟨by rfl, ?hy2⟩) hS ?rest2
          case hy2 => (intro ww hSw; (try dsimp only at hSw); go_split_ands; go_simp; try with_reducible rfl)
          try simp only [Act.put, List.setIfInBounds_toArray, List.set_cons_zero, List.set_cons_succ]
          refine wpAnyX_take (i := 2) (v := ?vv3) rfl (by kernel_rfl) (by kernel_rfl) (by kernel_rfl) (by kernel_rfl) (fun _ _ _ h => h) (Or.inl ⟨by rfl, ?hy3⟩) hS ?rest3
          case hy3 => (intro ww hSw; (try dsimp only at hSw); go_split_ands; go_simp; try with_reducible rfl)
          try simp only [Act.put, List.setIfInBounds_toArray, List.set_cons_zero, List.set_cons_succ]
          refine wpAnyX_take (i := 3) (v := ?vv4) rfl (by kernel_rfl) (by kernel_rfl) (by kernel_rfl) (by kernel_rfl) (fun _ _ _ h => h) (Or.inl ⟨by rfl, ?hy4⟩) hS ?rest4
          case hy4 => (intro ww hSw; (try dsimp only at hSw); go_split_ands; go_simp; try with_reducible rfl)
          try simp only [Act.put, List.setIfInBounds_toArray, List.set_cons_zero, List.set_cons_succ]
          refine wpAnyX_take (i := 4) (v := ?vv5) rfl (by kernel_rfl) (by kernel_rfl) (by kernel_rfl) (by kernel_rfl) (fun _ _ _ h => h) (Or.inl ⟨by rfl, ?hy5⟩) hS ?rest5
          case hy5 => (intro ww hSw; (try dsimp only at hSw); go_split_ands; go_simp; try with_reducible rfl)
          try simp only [Act.put, List.setIfInBounds_toArray, List.set_cons_zero, List.set_cons_succ]
          refine wpAnyX_take (i := 6) (v := ?vv6) rfl (by kernel_rfl) (by kernel_rfl) (by kernel_rfl) (by kernel_rfl) (fun _ _ _ h => h) (Or.inl ⟨by rfl, ?hy6⟩) hS ?rest6
          case hy6 => (intro ww hSw; (try dsimp only at hSw); go_split_ands; go_simp; try with_reducible rfl)
          try simp only [Act.put, List.setIfInBounds_toArray, List.set_cons_zero, List.set_cons_succ]
          refine wpAnyX_take (i := 7) (v := ?vv7) rfl (by kernel_rfl) (by kernel_rfl) (by kernel_rfl) (by kernel_rfl) (fun _ _ _ h => h) (Or.inl ⟨by rfl, ?hy7⟩) hS ?rest7
          case hy7 => (intro ww hSw; (try dsimp only at hSw); go_split_ands; go_simp; try with_reducible rfl)
          try simp only [Act.put, List.setIfInBounds_toArray, List.set_cons_zero, List.set_cons_succ]
          refine wpAnyX_take (i := 8) (v := ?vv8) rfl (by kernel_rfl) (by kernel_rfl) (by kernel_rfl) (by kernel_rfl) (fun _ _ _ h => h) (Or.inl ⟨by rfl, ?hy8⟩) hS ?rest8
          case hy8 => (intro ww hSw; (try dsimp only at hSw); go_split_ands; go_simp; try with_reducible rfl)
          try simp only [Act.put, List.setIfInBounds_toArray, List.set_cons_zero, List.set_cons_succ]
          refine wpAnyX_take (i := 9) (v := ?vv9) rfl (by kernel_rfl) (by kernel_rfl) (by kernel_rfl) (by kernel_rfl) (fun _ _ _ h => h) (Or.inl ⟨by rfl, ?hy9⟩) hS ?rest9
          case hy9 => (intro ww hSw; (try dsimp only at hSw); go_split_ands; go_simp; try with_reducible rfl)
          try simp only [Act.put, List.setIfInBounds_toArray, List.set_cons_zero, List.set_cons_succ]
          refine wpAnyX_take (i := 10) (v := ?vv10) rfl (by kernel_rfl) (by kernel_rfl) (by kernel_rfl) (by kernel_rfl) (fun _ _ _ h => h) (Or.inl ⟨by rfl, ?hy10⟩) hS ?rest10
          case hy10 => (intro ww hSw; (try dsimp only at hSw); go_split_ands; go_simp; try with_reducible rfl)
          try simp only [Act.put, List.setIfInBounds_toArray, List.set_cons_zero, List.set_cons_succ]
          refine wpAnyX_take (i := 11) (v := ?vv11) rfl (by kernel_rfl) (by kernel_rfl) (by kernel_rfl) (by kernel_rfl) (fun _ _ _ h => h) (Or.inl ⟨by rfl, ?hy11⟩) hS ?rest11
          case hy11 => (intro ww hSw; (try dsimp only at hSw); go_split_ands; go_simp; try with_reducible rfl)
          try simp only [Act.put, List.setIfInBounds_toArray, List.set_cons_zero, List.set_cons_succ]
          refine wpAnyX_take (i := 14) (v := ?vv12) rfl (by kernel_rfl) (by kernel_rfl) (by kernel_rfl) (by kernel_rfl) (fun _ _ _ h => h) (Or.inl ⟨by rfl, ?hy12⟩) hS ?rest12
          case hy12 => (intro ww hSw; (try dsimp only at hSw); go_split_ands; go_simp; try with_reducible rfl)
          try simp only [Act.put, List.setIfInBounds_toArray, List.set_cons_zero, List.set_cons_succ]
          refine wpAnyX_take (i := 15) (v := ?vv13) rfl (by kernel_rfl) (by kernel_rfl) (by kernel_rfl) (by kernel_rfl) (fun _ _ _ h => h) (Or.inl ⟨by rfl, ?hy13⟩) hS ?rest13
          case hy13 => (intro ww hSw; (try dsimp only at hSw); go_split_ands; go_simp; try with_reducible rfl)
          try simp only [Act.put, List.setIfInBounds_toArray, List.set_cons_zero, List.set_cons_succ]
          refine wpAnyX_take (i := 16) (v := ?vv14) rfl (by kernel_rfl) (by kernel_rfl) (by kernel_rfl) (by kernel_rfl) (fun _ _ _ h => h) (Or.inl ⟨by rfl, ?hy14⟩) hS ?rest14
          case hy14 => (intro ww hSw; (try dsimp only at hSw); go_split_ands; go_simp; try with_reducible rfl)
          try simp only [Act.put, List.setIfInBounds_toArray, List.set_cons_zero, List.set_cons_succ]
          refine wpAnyX_take (i := 17) (v := ?vv15) rfl (by kernel_rfl) (by kernel_rfl) (by kernel_rfl) (by kernel_rfl) (fun _ _ _ h => h) (Or.inl ⟨by rfl, ?hy15⟩) hS ?rest15
          case hy15 => (intro ww hSw; (try dsimp only at hSw); go_split_ands; go_simp; try with_reducible rfl)
          try simp only [Act.put, List.setIfInBounds_toArray, List.set_cons_zero, List.set_cons_succ]
          refine wpAnyX_take (i := 18) (v := ?vv16) rfl (by kernel_rfl) (by kernel_rfl) (by kernel_rfl) (by kernel_rfl) (fun _ _ _ h => h) (Or.inl ⟨by rfl, ?hy16⟩) hS ?rest16
          case hy16 => (intro ww hSw; (try dsimp only at hSw); go_split_ands; go_simp; try with_reducible rfl)
          try simp only [Act.put, List.setIfInBounds_toArray, List.set_cons_zero, List.set_cons_succ]
          refine wpAnyX_take (i := 19) (v := ?vv17) rfl (by kernel_rfl) (by kernel_rfl) (by kernel_rfl) (by kernel_rfl) (fun _ _ _ h => h) (Or.inl ⟨by rfl, ?hy17⟩) hS ?rest17
          case hy17 => (intro ww hSw; (try dsimp only at hSw); go_split_ands; go_simp; try with_reducible rfl)
          try simp only [Act.put, List.setIfInBounds_toArray, List.set_cons_zero, List.set_cons_succ]
          refine wpAnyX_take (i := 22) (v := ?vv18) rfl (by kernel_rfl) (by kernel_rfl) (by kernel_rfl) (by kernel_rfl) (fun _ _ _ h => h) (Or.inl ⟨by rfl, ?hy18⟩) hS ?rest18
          case hy18 => (intro ww hSw; (try dsimp only at hSw); go_split_ands; go_simp; try with_reducible rfl)
          try simp only [Act.put, List.setIfInBounds_toArray, List.set_cons_zero, List.set_cons_succ]
          refine wpAnyX_take (i := 23) (v := ?vv19) rfl (by kernel_rfl) (by kernel_rfl) (by kernel_rfl) (by kernel_rfl) (fun _ _ _ h => h) (Or.inl ⟨by rfl, ?hy19⟩) hS ?rest19
          case hy19 => (intro ww hSw; (try dsimp only at hSw); go_split_ands; go_simp; try with_reducible rfl)
          try simp only [Act.put, List.setIfInBounds_toArray, List.set_cons_zero, List.set_cons_succ]
          refine wpAnyX_take (i := 24) (v := ?vv20) rfl (by kernel_rfl) (by kernel_rfl) (by kernel_rfl) (by kernel_rfl) (fun _ _ _ h => h) (Or.inl ⟨by rfl, ?hy20⟩) hS ?rest20
          case hy20 => (intro ww hSw; (try dsimp only at hSw); go_split_ands; go_simp; try with_reducible rfl)
          try simp only [Act.put, List.setIfInBounds_toArray, List.set_cons_zero, List.set_cons_succ]
          refine wpAnyX_take (i := 25) (v := ?vv21) rfl (by kernel_rfl) (by kernel_rfl) (by kernel_rfl) (by kernel_rfl) (fun _ _ _ h => h) (Or.inl ⟨by rfl, ?hy21⟩) hS ?rest21
          case hy21 => (intro ww hSw; (try dsimp only at hSw); go_split_ands; go_simp; try with_reducible rfl)
          try simp only [Act.put, List.setIfInBounds_toArray, List.set_cons_zero, List.set_cons_succ]
          refine wpAnyX_take (i := 26) (v := ?vv22) rfl (by kernel_rfl) (by kernel_rfl) (by kernel_rfl) (by kernel_rfl) (fun _ _ _ h => h) (Or.inl ⟨by rfl, ?hy22⟩) hS ?rest22
          case hy22 => (intro ww hSw; (try dsimp only at hSw); go_split_ands; go_simp; try with_reducible rfl)
          try simp only [Act.put, List.setIfInBounds_toArray, List.set_cons_zero, List.set_cons_succ]
          refine wpAnyX_take (i := 27) (v := ?vv23) rfl (by kernel_rfl) (by kernel_rfl) (by kernel_rfl) (by kernel_rfl) (fun _ _ _ h => h) (Or.inl ⟨by rfl, ?hy23⟩) hS ?rest23
          case hy23 => (intro ww hSw; (try dsimp only at hSw); go_split_ands; go_simp; try with_reducible rfl)
          try simp only [Act.put, List.setIfInBounds_toArray, List.set_cons_zero, List.set_cons_succ]
          refine wpAnyX_take (i := 28) (v := ?vv24) rfl (by kernel_rfl) (by kernel_rfl) (by kernel_rfl) (by kernel_rfl) (fun _ _ _ h => h) (Or.inl ⟨by rfl, ?hy24⟩) hS ?rest24
          case hy24 => (intro ww hSw; (try dsimp only at hSw); go_split_ands; go_simp; try with_reducible rfl)
          try simp only [Act.put, List.setIfInBounds_toArray, List.set_cons_zero, List.set_cons_succ]
          refine wpAnyX_step (k := 5) (by kernel_rfl) rfl rfl (fun K2 hK2 => ?_)
          go_simp
          refine (T0.out _ hS.1).mono ?_; rintro e wz ⟨rfl, qz⟩
          replace qb := qb.trans qz
          refine hK2.out _ _ ⟨qb, bpb.qcell qb 0, bpb.qcell qb 1, bpb.qcell qb 2⟩ (fun hS => ?_)
          clear hK2 K2 qz
          (try simp only [Act.put, List.setIfInBounds_toArray, List.set_cons_zero, List.set_cons_succ])
          refine wpAnyX_step (k := 12) (by kernel_rfl) rfl rfl (fun K2 hK2 => ?_)
          go_simp
          refine (T1.out _ hS.1).mono ?_; rintro e wz ⟨rfl, qz⟩
          replace qb := qb.trans qz
          refine hK2.out _ _ ⟨qb, bpb.qcell qb 0, bpb.qcell qb 1, bpb.qcell qb 2⟩ (fun hS => ?_)
          clear hK2 K2 qz
          (try simp only [Act.put, List.setIfInBounds_toArray, List.set_cons_zero, List.set_cons_succ])
          refine wpAnyX_take (i := 13) (v := ?vv25) rfl (by kernel_rfl) (by kernel_rfl) (by kernel_rfl) (by kernel_rfl) (fun _ _ _ h => h) (Or.inl ⟨by rfl, ?hy25⟩) hS ?rest25
          case hy25 => (intro ww hSw; (try dsimp only at hSw); go_split_ands; go_simp; try with_reducible rfl)
          try simp only [Act.put, List.setIfInBounds_toArray, List.set_cons_zero, List.set_cons_succ]
          refine wpAnyX_step (k := 20) (by kernel_rfl) rfl rfl (fun K2 hK2 => ?_)
          go_simp
          refine (T2.out _ hS.1).mono ?_; rintro e wz ⟨rfl, qz⟩
          replace qb := qb.trans qz
          refine hK2.out _ _ ⟨qb, bpb.qcell qb 0, bpb.qcell qb 1, bpb.qcell qb 2⟩ (fun hS => ?_)
          clear hK2 K2 qz
          (try simp only [Act.put, List.setIfInBounds_toArray, List.set_cons_zero, List.set_cons_succ])
          refine wpAnyX_take (i := 21) (v := ?vv26) rfl (by kernel_rfl) (by kernel_rfl) (by kernel_rfl) (by kernel_rfl) (fun _ _ _ h => h) (Or.inl ⟨by rfl, ?hy26⟩) hS ?rest26
          case hy26 => (intro ww hSw; (try dsimp only at hSw); go_split_ands; go_simp; try with_reducible rfl)
          try simp only [Act.put, List.setIfInBounds_toArray, List.set_cons_zero, List.set_cons_succ]
          refine wpAnyX_step (k := 29) (by kernel_rfl) rfl rfl (fun K2 hK2 => ?_)
          go_simp
          refine (T3.out _ hS.1).mono ?_; rintro e wz ⟨rfl, qz⟩
          replace qb := qb.trans qz
          refine hK2.out _ _ ⟨qb, bpb.qcell qb 0, bpb.qcell qb 1, bpb.qcell qb 2⟩ (fun hS => ?_)
          clear hK2 K2 qz
          (try simp only [Act.put, List.setIfInBounds_toArray, List.set_cons_zero, List.set_cons_succ])
          refine wpAnyX_take (i := 30) (v := ?vv27) rfl (by kernel_rfl) (by kernel_rfl) (by kernel_rfl) (by kernel_rfl) (fun _ _ _ h => h) (Or.inl ⟨by rfl, ?hy27⟩) hS ?rest27
          case hy27 => (intro ww hSw; (try dsimp only at hSw); go_split_ands; go_simp; try with_reducible rfl)
          try simp only [Act.put, List.setIfInBounds_toArray, List.set_cons_zero, List.set_cons_succ]
          refine wpAnyX_take (i := 31) (v := ?vv28) rfl (by kernel_rfl) (by kernel_rfl) (by kernel_rfl) (by kernel_rfl) (fun _ _ _ h => h) (Or.inl ⟨by rfl, ?hy28⟩) hS ?rest28
          case hy28 => (intro ww hSw; (try dsimp only at hSw); go_split_ands; go_simp; try with_reducible rfl)
          try simp only [Act.put, List.setIfInBounds_toArray, List.set_cons_zero, List.set_cons_succ]
          refine wpAnyX_done (by kernel_rfl) ?_ _
          clear hS
          have bxz := HB.out.q qb
          have bzc := bxz.cell
          have oz := HO.out.q qb
          have qz := HQr.out.trans qb
          have sz := qb.size
          have HBX := Lib.hid bxz
          clear bxc bxz qb
          have hso : ∀ k, Value.ownBlock (.slice Av (y * wn + x) cv) = some k → wv.heap.size < k := fun k e => oz.below k e
          have HSO := Lib.hid hso
          clear hso
          go_wp2_with (at_builtin; refine wpList_append_int rfl _ _ rfl wv (wv.heap.size + 1) _ _ _ rfl (oz.alloc _) ⟨_, 0, none⟩ _ _ rfl hn2 (by first | exact Nat.le_refl _ | omega | (simp; done) | (simp; omega)) (by simp; omega) (qz.alloc _) (World.cell?_alloc_new _ _ _ _) ?_; intro v' w' O2 Q2 S2 G2; have bx2 := (HBX.out.alloc (.cells #[.int .i64 ((s0 + s1 + s2' + s3' + 2) / 4)] 3)).grown G2 (fun e => absurd (HSO.out _ e.symm) (Nat.lt_irrefl _)); have bc2 := bx2.cell; have bf2 := bx2.free; obtain ⟨A2, c2, rfl⟩ := O2.form)
          have BX3 := Lib.hid (bx2.set 2 (.slice A2 (y * wn + x + 1) c2))
          have O3 := Lib.hid (O2.far (p := ⟨wv.heap.size, 2, none⟩) (by show wv.heap.size < wv.heap.size + 1; omega) (.slice A2 (y * wn + x + 1) c2))
          have Q3 := Lib.hid (Q2.set (p := ⟨wv.heap.size, 2, none⟩) (Nat.le_refl _) (.slice A2 (y * wn + x + 1) c2))
          clear bx2 O2 Q2 G2
          go_roundw
          case rel => exact ⟨x + 1, A2, c2, by omega, by go_num, by rw [HST.out, HV.out]; exact O3.out, Q3.out, BX3.out, by simp; omega⟩
          case measure => simp [intOf]; omega
        · have hxw : x = wn := by omega
          subst hxw
          have HO := Lib.hid ho
          have HQr := Lib.hid hq
          have HB := Lib.hid hb
          clear ho hq hb
          go_wp2_with fail
          go_roundw
          case rel => exact ⟨y + 1, Av, cv, by omega, by go_num, by rw [Nat.succ_mul]; exact HO.out, HQr.out, by rw [Nat.succ_mul]; exact HB.out, hws⟩
          case measure => simp [intOf]; omega
    · have hye : y = hn' := by omega
      subst hye
      have brz := BR.out.q HQr.out
      have brc := brz.cell
      have brf := brz.free
      have Q7 := Lib.hid (HQ.out.trans HQr.out)
      clear brz
      go_wp2_with fail
      refine bodyPost_ret (v := .agg #[.int .i64 (wn : Int), .int .i64 (y : Int), .slice Av (y * wn) cv]) (by simp [results, Try.results27, go_sem, brc]) rfl ⟨_, rfl, ?_, ?_⟩
      · exact Own.mono (B := wv.heap.size + 1) (by repeat (first | exact HO.out | refine Own.far ?_ (by show w.heap.size + 1 < wv.heap.size + 1; omega) _)) (by omega)
      · have hq := Q7.out
        exact (by repeat (first | exact Q.refl _ | assumption | refine Q.drewN ?_ _ | refine Q.drew ?_ | refine Q.alloc ?_ _ | refine Q.trans ?_ (by assumption) | refine Q.set ?_ (by first | exact Nat.le_refl _ | omega | (simp; done) | (simp; omega)) _))
end Go.Proofs.Ytoipcfpbkjanhaa

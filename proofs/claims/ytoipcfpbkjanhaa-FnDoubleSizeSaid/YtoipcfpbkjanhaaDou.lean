/-
  DoubleSize: plain Lean, and the program's.
-/
import Derived.Test.YtoipcfpbkjanhaaSiz3
import Derived.Test.YtoipcfpbkjanhaaDbl
namespace Go.Proofs.Ytoipcfpbkjanhaa
open Go.RowKit Go.Shelf
attribute [local go_sem] Oper.semAt_some

def dblF (W H : Int) (xs : List Int) (x y : Nat) : Int := halfAt W H xs (x : Int) (y : Int)
theorem half_in {W H : Int} {xs : List Int} (h : picB W H xs = true) (x y : Int) : 0 ≤ halfAt W H xs x y ∧ halfAt W H xs x y ≤ 255 := by
  unfold halfAt
  have a := smp_in h (x / 2) (y / 2)
  have b := smp_in h (x / 2 + 1) (y / 2)
  have c := smp_in h (x / 2) (y / 2 + 1)
  have d := smp_in h (x / 2 + 1) (y / 2 + 1)
  split <;> split <;> omega

set_option maxRecDepth 100000 in
set_option maxHeartbeats 8000000 in
theorem impl_Double_in (n : Nat) (h1 : 3 ≤ n) (W H : Int) (wn hn' : Nat) (A : Option Addr) (m c B : Nat) (xs : List Int) (w : World) (hx : Rd w B A xs) (hB : B ≤ w.heap.size) (hn : Hid (xs.length = m)) (hp : Hid (picB W H xs = true))
    (hW : 2 * W = (wn : Int)) (hH : 2 * H = (hn' : Int)) (sW : Hid (sideOk (wn : Int))) (sH : Hid (sideOk (hn' : Int))) :
    CallsIn Fence.wide n Try.prog 30 #[.agg #[.int .i64 W, .int .i64 H, .slice A m c]] w fun e w' => ∃ v, e = .returned (.agg #[.int .i64 (wn : Int), .int .i64 (hn' : Int), v]) ∧ Own w' w.heap.size v (hn' * wn) (pixL (dblF W H xs) wn hn') ∧ Q w w' := by
  obtain ⟨pW, pH, pl, pa⟩ := picB_parts hp.out
  have w16 : wn ≤ 32 := by have := sW.out; unfold sideOk at this; omega
  have h16 : hn' ≤ 32 := by have := sH.out; unfold sideOk at this; omega
  have n256 : hn' * wn ≤ 32 * 32 := Nat.mul_le_mul h16 w16
  have q0 : Q w ((w.alloc (.cells #[.int .i64 W, .int .i64 H, .slice A m c] 27)).alloc (.cells #[.int .i64 0, .int .i64 0, .slice none 0 0] 27)) := (by repeat (first | exact Q.refl _ | assumption | refine Q.drewN ?_ _ | refine Q.drew ?_ | refine Q.alloc ?_ _ | refine Q.trans ?_ (by assumption) | refine Q.set ?_ (by first | exact Nat.le_refl _ | omega | (simp; done) | (simp; omega)) _))
  have bp := (Blk.new w 27 #[.int .i64 W, .int .i64 H, .slice A m c]).alloc (.cells #[.int .i64 0, .int .i64 0, .slice none 0 0] 27)
  have br := Blk.new (w.alloc (.cells #[.int .i64 W, .int .i64 H, .slice A m c] 27)) 27 #[.int .i64 0, .int .i64 0, .slice none 0 0]
  rw [World.size_alloc] at br
  have s0 : w.heap.size + 2 ≤ ((w.alloc (.cells #[.int .i64 W, .int .i64 H, .slice A m c] 27)).alloc (.cells #[.int .i64 0, .int .i64 0, .slice none 0 0] 27)).heap.size := by simp
  have HX := Lib.hid (hx.q q0 hB)
  have mm : m ≤ 9223372036854775807 := by have := (area_le pW.1 pW.2.1 pH.1 pH.2.1).2; rw [hn.out] at pl; omega
  have hmul : (wn : Int) * (hn' : Int) = ((hn' * wn : Nat) : Int) := by rw [Int.natCast_mul, Int.mul_comm]
  have HMUL := Lib.hid hmul
  have hW2 : 8 ≤ W := pW.1
  have hH2 : 8 ≤ H := pH.1
  have hW3 : W ≤ 32 := pW.2.1
  have hH3 : H ≤ 32 := pH.2.1
  clear hx pl pa pW pH hmul
  refine callsIn_of_wp_marks Try.func30 rfl trivial ?_ rfl
  simp only [Try.ntmps30, List.size_toArray, List.length_cons, List.length_nil, Nat.reduceAdd, Nat.reduceSub, Array.replicate_succ, Array.replicate_zero, List.push_toArray, List.append_toArray, List.nil_append, List.cons_append]
  gi_wp2_with fail
  refine ⟨trivial, fun hh => by simp [Fence.wide] at hh, (callsIn_wide.2 (impl_PictureValid W H A m c _ xs true _ HX.out (by omega) hn mm hp)).mono ?_⟩; rintro e wv ⟨rfl, q1⟩
  have s2 := q1.size
  replace bp := bp.q q1
  replace br := br.q q1
  replace HX := Lib.hid (HX.out.q q1 (by omega))
  have QQ := q0.trans q1
  have bpc := bp.cell
  clear q1 q0
  gi_wp2_with fail
  refine ⟨trivial, fun hh => by simp [Fence.wide] at hh, (callsIn_wide.2 (newPicture (wn : Int) (hn' : Int) 0 (hn' * wn) _ sW sH (by unfold Hid; omega) HMUL.out (by omega))).mono ?_⟩; rintro e w3 ⟨v, rfl, o3, q3⟩
  obtain ⟨gO, cO, rfl⟩ : ∃ gO cO, v = .slice (some ⟨gO, 0, none⟩) (hn' * wn) cO := by
    rcases o3.form' with ⟨_, h⟩ | ⟨g, c, h, h1, h2, _⟩
    · have := sW.out; have := sH.out; unfold sideOk at *; have : 8 * 8 ≤ hn' * wn := Nat.mul_le_mul (by omega) (by omega); omega
    · exact ⟨g, c, h⟩
  have hg := o3.block
  have s3 := q3.size
  have s4 : (w3.alloc (.cells #[.int .i64 (wn : Int), .int .i64 (hn' : Int), .slice (some ⟨gO, 0, none⟩) (hn' * wn) cO] 27)).heap.size = w3.heap.size + 1 := by simp
  have q4 := q3.alloc (.cells #[.int .i64 (wn : Int), .int .i64 (hn' : Int), .slice (some ⟨gO, 0, none⟩) (hn' * wn) cO] 27)
  replace bp := bp.q q4
  replace br := br.q q4
  have bx := Blk.new w3 27 #[.int .i64 (wn : Int), .int .i64 (hn' : Int), .slice (some ⟨gO, 0, none⟩) (hn' * wn) cO]
  have oo := o3.q ((Q.refl _).alloc (.cells #[.int .i64 (wn : Int), .int .i64 (hn' : Int), .slice (some ⟨gO, 0, none⟩) (hn' * wn) cO] 27))
  replace HX := Lib.hid (HX.out.q q4 (by omega))
  replace QQ := QQ.trans q4
  clear q3 q4 o3 bpc
  gi_wp2_with fail
  generalize w3.alloc (.cells #[.int .i64 (wn : Int), .int .i64 (hn' : Int), .slice (some ⟨gO, 0, none⟩) (hn' * wn) cO] 27) = w4 at bp br bx oo HX QQ s4 ⊢
  generalize w3.heap.size = xb at bx s3 s4 hg ⊢
  refine ⟨trivial, fun hh => by simp [Fence.wide] at hh, (positions_in (n - 1) _ _ _ _).mono ?_⟩; rintro e wz ⟨rfl, rfl⟩
  have bq := Blk.new w4 27 #[.int .i64 (wn : Int), .int .i64 (hn' : Int), .slice (some ⟨gO, 0, none⟩) (hn' * wn) cO]
  have q5 : Q w4 (w4.alloc (.cells #[.int .i64 (wn : Int), .int .i64 (hn' : Int), .slice (some ⟨gO, 0, none⟩) (hn' * wn) cO] 27)) := (Q.refl _).alloc _
  have s5 : (w4.alloc (.cells #[.int .i64 (wn : Int), .int .i64 (hn' : Int), .slice (some ⟨gO, 0, none⟩) (hn' * wn) cO] 27)).heap.size = w4.heap.size + 1 := by simp
  replace bp := bp.q q5
  replace br := br.q q5
  replace bx := bx.q q5
  replace oo := oo.q q5
  replace HX := Lib.hid (HX.out.q q5 (by omega))
  replace QQ := QQ.trans q5
  clear q5
  gi_wp2_with fail
  generalize w4.alloc (.cells #[.int .i64 (wn : Int), .int .i64 (hn' : Int), .slice (some ⟨gO, 0, none⟩) (hn' * wn) cO] 27) = w5 at bp br bx oo HX QQ bq s5 ⊢
  generalize w4.heap.size = qb at bq s4 s5 ⊢
  obtain rfl : qb = xb + 1 := s4
  have hs5 : gO < w5.heap.size := by omega
  have BP := Lib.hid bp
  have BR := Lib.hid br
  have BX := Lib.hid bx
  have HQ := Lib.hid QQ
  have OO := Lib.hid oo
  clear bp br bx QQ oo
  refine wpIn_rangeFunc_ownF rfl (by omega) (gf := 68) (lb := #[.pointer (some ⟨xb + 1, 0, none⟩)]) rfl trivial (enters_of Try.func68 (by kernel_rfl) rfl)
    (positions_stops (n - 1) (xb + 1) wn hn' _ (by omega) (by omega) w5 bq) kpBox_t (kpBox_b (by omega)) (Below.refl _ _) (fun _ => rfl)
    (fun pre Wn => Own Wn wv.heap.size (.slice (some ⟨gO, 0, none⟩) (hn' * wn) cO) (hn' * wn) (setAll (dblF W H xs) (hn' * wn) pre) ∧ w5.grownBy Wn (some gO))
    (fun _ _ _ => False)
    (fun s X Y row hs hg' hr => ⟨hs.1.other hg' (.inr (fun e => by have := (hr gO e.symm).1; omega)), World.grownBy.andThen hs.2 hg' (fun j e => .inl (hr j e).1)⟩)
    (fun _ _ _ _ _ hs _ _ => hs)
    ⟨OO.out, World.grownBy.refl _ _⟩
    (fun x => { tmps := #[.agg #[.int .i64 W, .int .i64 H, .slice A m c], .pointer (some ⟨w.heap.size, 0, none⟩), .pointer (some ⟨w.heap.size + 1, 0, none⟩), .pointer (some ⟨xb, 0, none⟩), .int .i64 (x.1.1 : Int), .int .i64 (x.2.1 : Int), .agg #[.int .i64 W, .int .i64 H, .slice A m c], .bool true, .bool false, undef, .pointer (some ⟨w.heap.size, 0, none⟩), .int .i64 W, .int .i64 (wn : Int), .pointer (some ⟨w.heap.size, 1, none⟩), .int .i64 H, .int .i64 (hn' : Int), .agg #[.int .i64 (wn : Int), .int .i64 (hn' : Int), .slice (some ⟨gO, 0, none⟩) (hn' * wn) cO], .agg #[.int .i64 (wn : Int), .int .i64 (hn' : Int), .slice (some ⟨gO, 0, none⟩) (hn' * wn) cO], .func (.func 68) #[] #[.pointer (some ⟨xb + 1, 0, none⟩)], .int .i64 (x.1.1 : Int), .int .i64 (x.2.1 : Int), undef, undef, undef, undef, undef, undef, undef, undef, undef, undef, undef, undef, undef, undef], defers := [] }) ?assign ?body ?done ?stop
  case assign =>
    intro l x W K hK
    unfold posE
    gi_wp2
    exact hK
  case body =>
    rintro l pre ⟨⟨xx, hxx⟩, ⟨yy, hyy⟩⟩ Wb ⟨ho, hgr⟩ hlen
    clear hlen
    dsimp only
    have bpb := BP.out.grown hgr (fun e => by cases e; omega)
    have bxb := BX.out.grown hgr (fun e => by cases e; omega)
    have HXb := Lib.hid (HX.out.grown hgr (by omega) (fun g e => by cases e; omega))
    have hsz := hgr.size
    have hsn := setAll_snoc (dblF W H xs) (hn' * wn) pre (⟨xx, hxx⟩, ⟨yy, hyy⟩)
    have hv0 : dblF W H xs xx yy = halfAt W H xs (xx : Int) (yy : Int) := rfl
    have T : ∀ (z : World), Q Wb z → Calls Try.prog 57 #[.agg #[.int .i64 W, .int .i64 H, .slice A m c], .int .i64 (xx : Int), .int .i64 (yy : Int)] z fun e w' => e = .returned (.int .i64 (halfAt W H xs (xx : Int) (yy : Int))) ∧ Q z w' := fun z hz => impl_half W H _ _ A m c B xs _ (HXb.out.q hz (by omega)) (Nat.le_trans (by omega) hz.size) hn hp (by omega) (by omega) (by omega) (by omega)
    have T0 := Lib.hid T
    generalize halfAt W H xs (xx : Int) (yy : Int) = s0 at T0 hv0
    have HV := Lib.hid hv0
    have HSN := Lib.hid hsn
    have HO := Lib.hid ho
    have HG := Lib.hid hgr
    clear T hv0 hsn ho hgr
    obtain ⟨pq, hpq⟩ : ∃ p, yy * wn = p := ⟨_, rfl⟩
    have hidx := row_lt yy wn hn' xx hyy hxx
    rw [hpq] at hidx
    have e1 : (yy : Int) * (wn : Int) = (pq : Int) := by rw [← hpq]; exact (Int.natCast_mul _ _).symm
    have i1 : ((pq : Int) + (xx : Int)).toNat = pq + xx := by omega
    have i2 : (0 : Int) ≤ (pq : Int) + (xx : Int) := by omega
    have i3 : (pq : Int) + (xx : Int) < ((hn' * wn : Nat) : Int) := by omega
    have r4 : -9223372036854775808 ≤ (pq : Int) ∧ (pq : Int) ≤ 9223372036854775807 := by omega
    have r5 : -9223372036854775808 ≤ (pq : Int) + (xx : Int) ∧ (pq : Int) + (xx : Int) ≤ 9223372036854775807 := by omega
    have HPQ := Lib.hid hpq
    clear hpq
    have v8 : IntKind.i64.wrap ((yy : Int) * (wn : Int)) = (pq : Int) := by rw [e1]; exact IntWalk.i64_in _ r4
    have v9 : IntKind.i64.wrap ((pq : Int) + (xx : Int)) = (pq : Int) + (xx : Int) := IntWalk.i64_in _ r5
    clear r4 r5
    apply wpIn_block
    refine wpIn_region_x (fun ww => Q Wb ww ∧ ww.cell? ⟨w.heap.size, 0, none⟩ = some (.int .i64 W) ∧ ww.cell? ⟨w.heap.size, 1, none⟩ = some (.int .i64 H) ∧ ww.cell? ⟨w.heap.size, 2, none⟩ = some (.slice A m c) ∧ ww.cell? ⟨xb, 0, none⟩ = some (.int .i64 (wn : Int)) ∧ ww.cell? ⟨xb, 2, none⟩ = some (.slice (some ⟨gO, 0, none⟩) (hn' * wn) cO)) (fun j => decide (12 ≤ j)) (by kernel_rfl) (fun ⟨_, _, h⟩ => h) (by kernel_rfl) ⟨(Q.refl _).drew, bpb.cell 0, bpb.cell 1, bpb.cell 2, bxb.cell 0, bxb.cell 2⟩ (fun hS => ?_)
    have qb : Q Wb Wb.drew := (Q.refl _).drew
    refine wpAnyX_take (i := 0) (v := ?vv1) rfl (by kernel_rfl) (by kernel_rfl) (by kernel_rfl) (by kernel_rfl) (fun _ _ _ h => h) (Or.inl ⟨by rfl, ?hy1⟩) hS ?rest1
    case hy1 => (intro ww hSw; (try dsimp only at hSw); go_split_ands; go_simp; try with_reducible rfl)
    try simp only [Act.put, List.setIfInBounds_toArray, List.set_cons_zero, List.set_cons_succ]
    refine wpAnyX_take (i := 1) (v := ?vv2) rfl (by kernel_rfl) (by kernel_rfl) (by kernel_rfl) (by kernel_rfl) (fun _ _ _ h => h) (Or.inl ⟨by rfl, ?hy2⟩) hS ?rest2
    case hy2 => (intro ww hSw; (try dsimp only at hSw); go_split_ands; go_simp; try with_reducible rfl)
    try simp only [Act.put, List.setIfInBounds_toArray, List.set_cons_zero, List.set_cons_succ]
    refine wpAnyX_take (i := 2) (v := ?vv3) rfl (by kernel_rfl) (by kernel_rfl) (by kernel_rfl) (by kernel_rfl) (fun _ _ _ h => h) (Or.inl ⟨by rfl, ?hy3⟩) hS ?rest3
    case hy3 => (intro ww hSw; (try dsimp only at hSw); go_split_ands; go_simp; try with_reducible rfl)
    try simp only [Act.put, List.setIfInBounds_toArray, List.set_cons_zero, List.set_cons_succ]
    refine wpAnyX_take (i := 3) (v := ?vv4) rfl (by kernel_rfl) (by kernel_rfl) (by kernel_rfl) (by kernel_rfl) (fun _ _ _ h => h) (Or.inl ⟨by rfl, ?hy4⟩) hS ?rest4
    case hy4 => (intro ww hSw; (try dsimp only at hSw); go_split_ands; go_simp; try with_reducible rfl)
    try simp only [Act.put, List.setIfInBounds_toArray, List.set_cons_zero, List.set_cons_succ]
    refine wpAnyX_take (i := 4) (v := ?vv5) rfl (by kernel_rfl) (by kernel_rfl) (by kernel_rfl) (by kernel_rfl) (fun _ _ _ h => h) (Or.inl ⟨by rfl, ?hy5⟩) hS ?rest5
    case hy5 => (intro ww hSw; (try dsimp only at hSw); go_split_ands; go_simp; try with_reducible rfl)
    try simp only [Act.put, List.setIfInBounds_toArray, List.set_cons_zero, List.set_cons_succ]
    refine wpAnyX_take (i := 5) (v := ?vv6) rfl (by kernel_rfl) (by kernel_rfl) (by kernel_rfl) (by kernel_rfl) (fun _ _ _ h => h) (Or.inl ⟨by rfl, ?hy6⟩) hS ?rest6
    case hy6 => (intro ww hSw; (try dsimp only at hSw); go_split_ands; go_simp; try with_reducible rfl)
    try simp only [Act.put, List.setIfInBounds_toArray, List.set_cons_zero, List.set_cons_succ]
    refine wpAnyX_take (i := 6) (v := ?vv7) rfl (by kernel_rfl) (by kernel_rfl) (by kernel_rfl) (by kernel_rfl) (fun _ _ _ h => h) (Or.inl ⟨by rfl, ?hy7⟩) hS ?rest7
    case hy7 => (intro ww hSw; (try dsimp only at hSw); go_split_ands; go_simp; try with_reducible rfl)
    try simp only [Act.put, List.setIfInBounds_toArray, List.set_cons_zero, List.set_cons_succ]
    refine wpAnyX_take (i := 7) (v := ?vv8) rfl (by kernel_rfl) (by kernel_rfl) (by kernel_rfl) (by kernel_rfl) (fun _ _ _ h => h) (Or.inl ⟨by rfl, ?hy8⟩) hS ?rest8
    case hy8 => (intro ww hSw; (try dsimp only at hSw); go_split_ands; go_simp; try with_reducible rfl)
    try simp only [Act.put, List.setIfInBounds_toArray, List.set_cons_zero, List.set_cons_succ]
    refine wpAnyX_take (i := 8) (v := ?vv9) rfl (by kernel_rfl) (by kernel_rfl) (by kernel_rfl) (by kernel_rfl) (fun _ _ _ h => h) (Or.inl ⟨by rfl, ?hy9⟩) hS ?rest9
    case hy9 => (intro ww hSw; (try dsimp only at hSw); go_split_ands; go_simp; try with_reducible rfl)
    try simp only [Act.put, List.setIfInBounds_toArray, List.set_cons_zero, List.set_cons_succ]
    refine wpAnyX_take (i := 9) (v := ?vv10) rfl (by kernel_rfl) (by kernel_rfl) (by kernel_rfl) (by kernel_rfl) (fun _ _ _ h => h) (Or.inl ⟨by rfl, ?hy10⟩) hS ?rest10
    case hy10 => (intro ww hSw; (try dsimp only at hSw); go_split_ands; go_simp; try with_reducible rfl)
    try simp only [Act.put, List.setIfInBounds_toArray, List.set_cons_zero, List.set_cons_succ]
    refine wpAnyX_take (i := 10) (v := ?vv11) rfl (by kernel_rfl) (by kernel_rfl) (by kernel_rfl) (by kernel_rfl) (fun _ _ _ h => h) (Or.inl ⟨by rfl, ?hy11⟩) hS ?rest11
    case hy11 => (intro ww hSw; (try dsimp only at hSw); go_split_ands; go_simp; try with_reducible rfl)
    try simp only [Act.put, List.setIfInBounds_toArray, List.set_cons_zero, List.set_cons_succ]
    refine wpAnyX_step (k := 11) (by kernel_rfl) rfl rfl (fun K2 hK2 => ?_)
    go_simp
    refine (T0.out _ hS.1).mono ?_; rintro e wz ⟨rfl, qz⟩
    replace qb := qb.trans qz
    refine hK2.out _ _ ⟨qb, bpb.qcell qb 0, bpb.qcell qb 1, bpb.qcell qb 2, bxb.qcell qb 0, bxb.qcell qb 2⟩ (fun hS => ?_)
    clear hK2 K2 qz
    (try simp only [Act.put, List.setIfInBounds_toArray, List.set_cons_zero, List.set_cons_succ])
    have sz := qb.size
    refine wpAnyX_tail [12, 13] 12 (by kernel_rfl) (by decide) rfl ?_
    have oz := HO.out.q qb
    have hc4 := oz.at (pq + xx) hidx
    have hf4 := oz.free (pq + xx)
    have OZ := Lib.hid (oz.set (pq + xx) s0)
    have QZ := Lib.hid qb
    clear oz hS
    generalize (setAll (dblF W H xs) (hn' * wn) pre)[pq + xx]?.getD 0 = zz at hc4
    go_wp2_with fail
    have hne : xb + 1 ≠ gO := by omega
    refine ⟨(KeepsOthers.of_q qb).trans (KeepsOthers.setCell _ _ _), ?_, ?_, ?_⟩
    · exact (Below.heap_setCell _ ⟨gO, pq + xx, none⟩ _ (xb + 1) hne).trans (qb.block (xb + 1) (by omega))
    · rw [HSN.out, HPQ.out, HV.out]
      exact OZ.out
    · exact (grownBy_set (World.grownBy.andThen (row' := some gO) HG.out ⟨qb.os, qb.tape, qb.output, qb.size, fun k hk _ => qb.block k hk⟩ (fun _ e => .inr e)) _ _)
  case done =>
    rintro D ys Wd hD rfl ⟨ho, hgr⟩ hK
    rw [setAll_pos _ _ _ _ (Nat.le_refl _), pixT_full] at ho
    have bxz := BX.out.grown hgr (fun e => by cases e; omega)
    have brz := BR.out.grown hgr (fun e => by cases e; omega)
    have bxc := bxz.cell
    have brc := brz.cell
    have brf := brz.free
    have HO := Lib.hid ho
    have HG := Lib.hid hgr
    have HK := Lib.hid hK
    have BRZ := Lib.hid brz
    clear ho hgr hK bxz brz
    gi_wp2
    have hsz := HG.out.size
    have hne : D ≠ w.heap.size + 1 := by omega
    have QD := HQ.out.grown HG.out (fun k e => by cases e; omega)
    have hK' := (Below.heap_setCell ((Wd.setCell ⟨w.heap.size + 1, 0, none⟩ (.int .i64 (wn : Int))).setCell ⟨w.heap.size + 1, 1, none⟩ (.int .i64 (hn' : Int))) ⟨w.heap.size + 1, 2, none⟩ (.slice (some ⟨gO, 0, none⟩) (hn' * wn) cO) D hne).trans ((Below.heap_setCell (Wd.setCell ⟨w.heap.size + 1, 0, none⟩ (.int .i64 (wn : Int))) ⟨w.heap.size + 1, 1, none⟩ (.int .i64 (hn' : Int)) D hne).trans ((Below.heap_setCell Wd ⟨w.heap.size + 1, 0, none⟩ (.int .i64 (wn : Int)) D hne).trans HK.out))
    have BZ := ((BRZ.out.set 0 (.int .i64 (wn : Int))).set 1 (.int .i64 (hn' : Int))).set 2 (.slice (some ⟨gO, 0, none⟩) (hn' * wn) cO)
    have OZ := ((HO.out.far (p := ⟨w.heap.size + 1, 0, none⟩) (by show w.heap.size + 1 < wv.heap.size; omega) (.int .i64 (wn : Int))).far (p := ⟨w.heap.size + 1, 1, none⟩) (by show w.heap.size + 1 < wv.heap.size; omega) (.int .i64 (hn' : Int))).far (p := ⟨w.heap.size + 1, 2, none⟩) (by show w.heap.size + 1 < wv.heap.size; omega) (.slice (some ⟨gO, 0, none⟩) (hn' * wn) cO)
    have QZ := ((QD.set (p := ⟨w.heap.size + 1, 0, none⟩) (by show w.heap.size ≤ w.heap.size + 1; omega) (.int .i64 (wn : Int))).set (p := ⟨w.heap.size + 1, 1, none⟩) (by show w.heap.size ≤ w.heap.size + 1; omega) (.int .i64 (hn' : Int))).set (p := ⟨w.heap.size + 1, 2, none⟩) (by show w.heap.size ≤ w.heap.size + 1; omega) (.slice (some ⟨gO, 0, none⟩) (hn' * wn) cO)
    generalize (((Wd.setCell ⟨w.heap.size + 1, 0, none⟩ (.int .i64 (wn : Int))).setCell ⟨w.heap.size + 1, 1, none⟩ (.int .i64 (hn' : Int))).setCell ⟨w.heap.size + 1, 2, none⟩ (.slice (some ⟨gO, 0, none⟩) (hn' * wn) cO)) = Wz at hK' BZ OZ QZ ⊢
    have cc := (Blk.putObj BZ D (.deferred none) (fun e => hne e.symm)).cell
    clear bxc brc brf
    refine ⟨by simp, .inl ⟨_, _, rfl, run_takeDeferred hK', ?_⟩⟩
    refine ⟨.agg #[.int .i64 (wn : Int), .int .i64 (hn' : Int), .slice (some ⟨gO, 0, none⟩) (hn' * wn) cO], by simp [results, Try.results30, go_sem, cc], _, rfl, ?_, ?_⟩
    · have hgD : gO ≠ D := by omega
      exact (OZ.other (grownBy_putObj' Wz D _) (.inr (fun e => hgD (by simpa [Value.ownBlock] using e)))).mono (by omega)
    · exact QZ.grown (grownBy_putObj' Wz D _) (fun k e => by cases e; omega)
  case stop =>
    rintro D c pre W _ _ h _
    exact h.elim
end Go.Proofs.Ytoipcfpbkjanhaa

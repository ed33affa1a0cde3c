/-
  HalfSize of the program.
-/
import Derived.Test.YtoipcfpbkjanhaaSiz
namespace Go.Proofs.Ytoipcfpbkjanhaa
open Go.RowKit Go.Shelf
attribute [local go_sem] Oper.semAt_some

set_option maxRecDepth 100000 in
set_option maxHeartbeats 8000000 in
theorem impl_Half_in (n : Nat) (h1 : 3 ≤ n) (W H : Int) (wn hn' : Nat) (A : Option Addr) (m c B : Nat) (xs : List Int) (w : World) (hx : Rd w B A xs) (hB : B ≤ w.heap.size) (hn : Hid (xs.length = m)) (hp : Hid (picB W H xs = true))
    (hW : W / 2 = (wn : Int)) (hH : H / 2 = (hn' : Int)) (sW : Hid (sideOk (wn : Int))) (sH : Hid (sideOk (hn' : Int))) :
    CallsIn Fence.wide n Try.prog 28 #[.agg #[.int .i64 W, .int .i64 H, .slice A m c]] w fun e w' => ∃ v, e = .returned (.agg #[.int .i64 (wn : Int), .int .i64 (hn' : Int), v]) ∧ Own w' w.heap.size v (hn' * wn) (pixL (hafF W H xs) wn hn') ∧ Q w w' := by
  obtain ⟨pW, pH, pl, pa⟩ := picB_parts hp.out
  have w16 : wn ≤ 16 := by omega
  have h16 : hn' ≤ 16 := by omega
  have n256 : hn' * wn ≤ 16 * 16 := Nat.mul_le_mul h16 w16
  have q0 : Q w ((w.alloc (.cells #[.int .i64 W, .int .i64 H, .slice A m c] 27)).alloc (.cells #[.int .i64 0, .int .i64 0, .slice none 0 0] 27)) := (by repeat (first | exact Q.refl _ | assumption | refine Q.drewN ?_ _ | refine Q.drew ?_ | refine Q.alloc ?_ _ | refine Q.trans ?_ (by assumption) | refine Q.set ?_ (by first | exact Nat.le_refl _ | omega | (simp; done) | (simp; omega)) _))
  have bp := (Blk.new w 27 #[.int .i64 W, .int .i64 H, .slice A m c]).alloc (.cells #[.int .i64 0, .int .i64 0, .slice none 0 0] 27)
  have br := Blk.new (w.alloc (.cells #[.int .i64 W, .int .i64 H, .slice A m c] 27)) 27 #[.int .i64 0, .int .i64 0, .slice none 0 0]
  rw [World.size_alloc] at br
  have s0 : w.heap.size + 2 ≤ ((w.alloc (.cells #[.int .i64 W, .int .i64 H, .slice A m c] 27)).alloc (.cells #[.int .i64 0, .int .i64 0, .slice none 0 0] 27)).heap.size := by simp
  have HX := Lib.hid (hx.q q0 hB)
  have mm : m ≤ 9223372036854775807 := by have := (area_le pW.1 pW.2.1 pH.1 pH.2.1).2; rw [hn.out] at pl; omega
  have hmul : (wn : Int) * (hn' : Int) = ((hn' * wn : Nat) : Int) := by rw [Int.natCast_mul, Int.mul_comm]
  have HMUL := Lib.hid hmul
  have hW2 : 8 ≤ W := pW.1
  have hH2 : 8 ≤ H := pH.1
  have hW3 : W ≤ 32 := pW.2.1
  have hH3 : H ≤ 32 := pH.2.1
  clear hx pl pa pW pH hmul
  refine callsIn_of_wp_marks Try.func28 rfl trivial ?_ rfl
  simp only [Try.ntmps28, List.size_toArray, List.length_cons, List.length_nil, Nat.reduceAdd, Nat.reduceSub, Array.replicate_succ, Array.replicate_zero, List.push_toArray, List.append_toArray, List.nil_append, List.cons_append]
  gi_wp2_with fail
  refine ⟨trivial, fun hh => by simp [Fence.wide] at hh, (callsIn_wide.2 (impl_PictureValid W H A m c _ xs true _ HX.out (by omega) hn mm hp)).mono ?_⟩; rintro e wv ⟨rfl, q1⟩
  have s2 := q1.size
  replace bp := bp.q q1
  replace br := br.q q1
  replace HX := Lib.hid (HX.out.q q1 (by omega))
  have QQ := q0.trans q1
  have bpc := bp.cell
  clear q1 q0
  gi_wp2_with fail
  refine ⟨trivial, fun hh => by simp [Fence.wide] at hh, (callsIn_wide.2 (newPicture (wn : Int) (hn' : Int) 0 (hn' * wn) _ sW sH (by unfold Hid; omega) HMUL.out (by omega))).mono ?_⟩; rintro e w3 ⟨v, rfl, o3, q3⟩
  obtain ⟨gO, cO, rfl⟩ : ∃ gO cO, v = .slice (some ⟨gO, 0, none⟩) (hn' * wn) cO := by
    rcases o3.form' with ⟨_, h⟩ | ⟨g, c, h, h1, h2, _⟩
    · have := sW.out; have := sH.out; unfold sideOk at *; have : 8 * 8 ≤ hn' * wn := Nat.mul_le_mul (by omega) (by omega); omega
    · exact ⟨g, c, h⟩
  have hg := o3.block
  have s3 := q3.size
  have s4 : (w3.alloc (.cells #[.int .i64 (wn : Int), .int .i64 (hn' : Int), .slice (some ⟨gO, 0, none⟩) (hn' * wn) cO] 27)).heap.size = w3.heap.size + 1 := by simp
  have q4 := q3.alloc (.cells #[.int .i64 (wn : Int), .int .i64 (hn' : Int), .slice (some ⟨gO, 0, none⟩) (hn' * wn) cO] 27)
  replace bp := bp.q q4
  replace br := br.q q4
  have bx := Blk.new w3 27 #[.int .i64 (wn : Int), .int .i64 (hn' : Int), .slice (some ⟨gO, 0, none⟩) (hn' * wn) cO]
  have oo := o3.q ((Q.refl _).alloc (.cells #[.int .i64 (wn : Int), .int .i64 (hn' : Int), .slice (some ⟨gO, 0, none⟩) (hn' * wn) cO] 27))
  replace HX := Lib.hid (HX.out.q q4 (by omega))
  replace QQ := QQ.trans q4
  clear q3 q4 o3 bpc
  gi_wp2_with fail
  generalize w3.alloc (.cells #[.int .i64 (wn : Int), .int .i64 (hn' : Int), .slice (some ⟨gO, 0, none⟩) (hn' * wn) cO] 27) = w4 at bp br bx oo HX QQ s4 ⊢
  generalize w3.heap.size = xb at bx s3 s4 hg ⊢
  refine ⟨trivial, fun hh => by simp [Fence.wide] at hh, (positions_in (n - 1) _ _ _ _).mono ?_⟩; rintro e wz ⟨rfl, rfl⟩
  have bq := Blk.new w4 27 #[.int .i64 (wn : Int), .int .i64 (hn' : Int), .slice (some ⟨gO, 0, none⟩) (hn' * wn) cO]
  have q5 : Q w4 (w4.alloc (.cells #[.int .i64 (wn : Int), .int .i64 (hn' : Int), .slice (some ⟨gO, 0, none⟩) (hn' * wn) cO] 27)) := (Q.refl _).alloc _
  have s5 : (w4.alloc (.cells #[.int .i64 (wn : Int), .int .i64 (hn' : Int), .slice (some ⟨gO, 0, none⟩) (hn' * wn) cO] 27)).heap.size = w4.heap.size + 1 := by simp
  replace bp := bp.q q5
  replace br := br.q q5
  replace bx := bx.q q5
  replace oo := oo.q q5
  replace HX := Lib.hid (HX.out.q q5 (by omega))
  replace QQ := QQ.trans q5
  clear q5
  gi_wp2_with fail
  generalize w4.alloc (.cells #[.int .i64 (wn : Int), .int .i64 (hn' : Int), .slice (some ⟨gO, 0, none⟩) (hn' * wn) cO] 27) = w5 at bp br bx oo HX QQ bq s5 ⊢
  generalize w4.heap.size = qb at bq s4 s5 ⊢
  obtain rfl : qb = xb + 1 := s4
  have hs5 : gO < w5.heap.size := by omega
  have BP := Lib.hid bp
  have BR := Lib.hid br
  have BX := Lib.hid bx
  have HQ := Lib.hid QQ
  have OO := Lib.hid oo
  clear bp br bx QQ oo
  refine wpIn_rangeFunc_ownF rfl (by omega) (gf := 68) (lb := #[.pointer (some ⟨xb + 1, 0, none⟩)]) rfl trivial (enters_of Try.func68 (by kernel_rfl) rfl)
    (positions_stops (n - 1) (xb + 1) wn hn' _ (by omega) (by omega) w5 bq) kpBox_t (kpBox_b (by omega)) (Below.refl _ _) (fun _ => rfl)
    (fun pre Wn => Own Wn wv.heap.size (.slice (some ⟨gO, 0, none⟩) (hn' * wn) cO) (hn' * wn) (setAll (hafF W H xs) (hn' * wn) pre) ∧ w5.grownBy Wn (some gO))
    (fun _ _ _ => False)
    (fun s X Y row hs hg' hr => ⟨hs.1.other hg' (.inr (fun e => by have := (hr gO e.symm).1; omega)), World.grownBy.andThen hs.2 hg' (fun j e => .inl (hr j e).1)⟩)
    (fun _ _ _ _ _ hs _ _ => hs)
    ⟨OO.out, World.grownBy.refl _ _⟩
    (fun x => { tmps := #[.agg #[.int .i64 W, .int .i64 H, .slice A m c], .pointer (some ⟨w.heap.size, 0, none⟩), .pointer (some ⟨w.heap.size + 1, 0, none⟩), .pointer (some ⟨xb, 0, none⟩), .int .i64 (x.1.1 : Int), .int .i64 (x.2.1 : Int), undef, .agg #[.int .i64 W, .int .i64 H, .slice A m c], .bool true, .bool false, undef, .pointer (some ⟨w.heap.size, 0, none⟩), .int .i64 W, .int .i64 (wn : Int), .pointer (some ⟨w.heap.size, 1, none⟩), .int .i64 H, .int .i64 (hn' : Int), .agg #[.int .i64 (wn : Int), .int .i64 (hn' : Int), .slice (some ⟨gO, 0, none⟩) (hn' * wn) cO], .agg #[.int .i64 (wn : Int), .int .i64 (hn' : Int), .slice (some ⟨gO, 0, none⟩) (hn' * wn) cO], .func (.func 68) #[] #[.pointer (some ⟨xb + 1, 0, none⟩)], .int .i64 (x.1.1 : Int), .int .i64 (x.2.1 : Int), undef, undef, undef, undef, undef, undef, undef, undef, undef, undef, undef, undef, undef, undef, undef, undef, undef, undef, undef, undef, undef, undef, undef, undef, undef, undef, undef, undef, undef, undef, undef, undef, undef, undef, undef, undef, undef, undef, undef, undef, undef, undef, undef], defers := [] }) ?assign ?body ?done ?stop
  case assign =>
    intro l x W K hK
    unfold posE
    gi_wp2
    exact hK
  case body =>
    rintro l pre ⟨⟨xx, hxx⟩, ⟨yy, hyy⟩⟩ Wb ⟨ho, hgr⟩ hlen
    clear hlen
    dsimp only
    have bpb := BP.out.grown hgr (fun e => by cases e; omega)
    have bxb := BX.out.grown hgr (fun e => by cases e; omega)
    have HXb := Lib.hid (HX.out.grown hgr (by omega) (fun g e => by cases e; omega))
    have hsz := hgr.size
    have hsn := setAll_snoc (hafF W H xs) (hn' * wn) pre (⟨xx, hxx⟩, ⟨yy, hyy⟩)
    have hv0 : hafF W H xs xx yy = (hafS W H xs xx yy + 2) / 4 := rfl
    unfold hafS at hv0
    obtain ⟨a, ha⟩ : ∃ a, 2 * (xx : Int) = a := ⟨_, rfl⟩
    obtain ⟨b, hb⟩ : ∃ b, 2 * (yy : Int) = b := ⟨_, rfl⟩
    obtain ⟨a1, ha1⟩ : ∃ a1, a + 1 = a1 := ⟨_, rfl⟩
    obtain ⟨b1, hb1⟩ : ∃ b1, b + 1 = b1 := ⟨_, rfl⟩
    rw [ha, hb, ha1, hb1] at hv0
    have T : ∀ (u v : Int) (z : World), Q Wb z → Calls Try.prog 54 #[.agg #[.int .i64 W, .int .i64 H, .slice A m c], .int .i64 u, .int .i64 v] z fun e w' => e = .returned (.int .i64 (smpAt W H xs u v)) ∧ Q z w' := fun u v z hz => impl_at W H u v A m c B xs _ (HXb.out.q hz (by omega)) (Nat.le_trans (by omega) hz.size) hn hp
    have m0 := smp_in hp.out a b
    have m1 := smp_in hp.out a1 b
    have m2 := smp_in hp.out a b1
    have m3 := smp_in hp.out a1 b1
    have T0 := Lib.hid (T a b)
    have T1 := Lib.hid (T a1 b)
    have T2 := Lib.hid (T a b1)
    have T3 := Lib.hid (T a1 b1)
    generalize smpAt W H xs a b = s0 at m0 T0 hv0
    generalize smpAt W H xs a1 b = s1 at m1 T1 hv0
    generalize smpAt W H xs a b1 = s2' at m2 T2 hv0
    generalize smpAt W H xs a1 b1 = s3' at m3 T3 hv0
    have HV := Lib.hid hv0
    have HSN := Lib.hid hsn
    have HO := Lib.hid ho
    have HG := Lib.hid hgr
    clear T hv0 hsn ho hgr
    obtain ⟨pq, hpq⟩ : ∃ p, yy * wn = p := ⟨_, rfl⟩
    have hidx := row_lt yy wn hn' xx hyy hxx
    rw [hpq] at hidx
    have e1 : (yy : Int) * (wn : Int) = (pq : Int) := by rw [← hpq]; exact (Int.natCast_mul _ _).symm
    have i1 : ((pq : Int) + (xx : Int)).toNat = pq + xx := by omega
    have i2 : (0 : Int) ≤ (pq : Int) + (xx : Int) := by omega
    have i3 : (pq : Int) + (xx : Int) < ((hn' * wn : Nat) : Int) := by omega
    have r0 : -9223372036854775808 ≤ a ∧ a ≤ 9223372036854775807 := by omega
    have r1 : -9223372036854775808 ≤ b ∧ b ≤ 9223372036854775807 := by omega
    have r2 : -9223372036854775808 ≤ a1 ∧ a1 ≤ 9223372036854775807 := by omega
    have r3 : -9223372036854775808 ≤ b1 ∧ b1 ≤ 9223372036854775807 := by omega
    have r4 : -9223372036854775808 ≤ (pq : Int) ∧ (pq : Int) ≤ 9223372036854775807 := by omega
    have r5 : -9223372036854775808 ≤ (pq : Int) + (xx : Int) ∧ (pq : Int) + (xx : Int) ≤ 9223372036854775807 := by omega
    have r6 : 0 ≤ s0 + s1 + s2' + s3' ∧ s0 + s1 + s2' + s3' ≤ 1020 := by omega
    have v1 : IntKind.i64.wrap (s0 + s1) = s0 + s1 := IntWalk.i64_in _ ⟨by omega, by omega⟩
    have v2 : IntKind.i64.wrap (s0 + s1 + s2') = s0 + s1 + s2' := IntWalk.i64_in _ ⟨by omega, by omega⟩
    have v3 : IntKind.i64.wrap (s0 + s1 + s2' + s3') = s0 + s1 + s2' + s3' := IntWalk.i64_in _ ⟨by omega, by omega⟩
    have HPQ := Lib.hid hpq
    clear hpq m0 m1 m2 m3
    have v4 : IntKind.i64.wrap a = a := IntWalk.i64_in _ r0
    have v5 : IntKind.i64.wrap b = b := IntWalk.i64_in _ r1
    have v6 : IntKind.i64.wrap a1 = a1 := IntWalk.i64_in _ r2
    have v7 : IntKind.i64.wrap b1 = b1 := IntWalk.i64_in _ r3
    have v8 : IntKind.i64.wrap ((yy : Int) * (wn : Int)) = (pq : Int) := by rw [e1]; exact IntWalk.i64_in _ r4
    have v9 : IntKind.i64.wrap ((pq : Int) + (xx : Int)) = (pq : Int) + (xx : Int) := IntWalk.i64_in _ r5
    clear r0 r1 r2 r3 r4 r5
    apply wpIn_block
    apply wpIn_seq_k
    intro K hK
    refine wpIn_region_x (fun ww => Q Wb ww ∧ ww.cell? ⟨w.heap.size, 0, none⟩ = some (.int .i64 W) ∧ ww.cell? ⟨w.heap.size, 1, none⟩ = some (.int .i64 H) ∧ ww.cell? ⟨w.heap.size, 2, none⟩ = some (.slice A m c)) (fun _ => false) (by kernel_rfl) (fun ⟨_, _, h⟩ => h) (by kernel_rfl) ⟨(Q.refl _).drew, bpb.cell 0, bpb.cell 1, bpb.cell 2⟩ (fun hS => ?_)
    have qb : Q Wb Wb.drew := (Q.refl _).drew
    refine wpAnyX_take (i := 0) (v := ?vv1) rfl (by kernel_rfl) (by kernel_rfl) (by kernel_rfl) (by kernel_rfl) (fun _ _ _ h => h) (Or.inl ⟨by rfl, ?hy1⟩) hS ?rest1
    case hy1 => (intro ww hSw; (try dsimp only at hSw); go_split_ands; go_simp; try with_reducible rfl)
    try simp only [Act.put, List.setIfInBounds_toArray, List.set_cons_zero, List.set_cons_succ]
    refine wpAnyX_take (i := 1) (v := ?vv2) rfl (by kernel_rfl) (by kernel_rfl) (by kernel_rfl) (by kernel_rfl) (fun _ _ _ h => h) (Or.inl ⟨by rfl, ?hy2⟩) hS ?rest2
    case hy2 => (intro ww hSw; (try dsimp only at hSw); go_split_ands; go_simp; try with_reducible rfl)
    try simp only [Act.put, List.setIfInBounds_toArray, List.set_cons_zero, List.set_cons_succ]
    refine wpAnyX_take (i := 2) (v := ?vv3) rfl (by kernel_rfl) (by kernel_rfl) (by kernel_rfl) (by kernel_rfl) (fun _ _ _ h => h) (Or.inl ⟨by rfl, ?hy3⟩) hS ?rest3
    case hy3 => (intro ww hSw; (try dsimp only at hSw); go_split_ands; go_simp; try with_reducible rfl)
    try simp only [Act.put, List.setIfInBounds_toArray, List.set_cons_zero, List.set_cons_succ]
    refine wpAnyX_take (i := 3) (v := ?vv4) rfl (by kernel_rfl) (by kernel_rfl) (by kernel_rfl) (by kernel_rfl) (fun _ _ _ h => h) (Or.inl ⟨by rfl, ?hy4⟩) hS ?rest4
    case hy4 => (intro ww hSw; (try dsimp only at hSw); go_split_ands; go_simp; try with_reducible rfl)
    try simp only [Act.put, List.setIfInBounds_toArray, List.set_cons_zero, List.set_cons_succ]
    refine wpAnyX_take (i := 4) (v := ?vv5) rfl (by kernel_rfl) (by kernel_rfl) (by kernel_rfl) (by kernel_rfl) (fun _ _ _ h => h) (Or.inl ⟨by rfl, ?hy5⟩) hS ?rest5
    case hy5 => (intro ww hSw; (try dsimp only at hSw); go_split_ands; go_simp; try with_reducible rfl)
    try simp only [Act.put, List.setIfInBounds_toArray, List.set_cons_zero, List.set_cons_succ]
    refine wpAnyX_take (i := 6) (v := ?vv6) rfl (by kernel_rfl) (by kernel_rfl) (by kernel_rfl) (by kernel_rfl) (fun _ _ _ h => h) (Or.inl ⟨by rfl, ?hy6⟩) hS ?rest6
    case hy6 => (intro ww hSw; (try dsimp only at hSw); go_split_ands; go_simp; try with_reducible rfl)
    try simp only [Act.put, List.setIfInBounds_toArray, List.set_cons_zero, List.set_cons_succ]
    refine wpAnyX_take (i := 7) (v := ?vv7) rfl (by kernel_rfl) (by kernel_rfl) (by kernel_rfl) (by kernel_rfl) (fun _ _ _ h => h) (Or.inl ⟨by rfl, ?hy7⟩) hS ?rest7
    case hy7 => (intro ww hSw; (try dsimp only at hSw); go_split_ands; go_simp; try with_reducible rfl)
    try simp only [Act.put, List.setIfInBounds_toArray, List.set_cons_zero, List.set_cons_succ]
    refine wpAnyX_take (i := 8) (v := ?vv8) rfl (by kernel_rfl) (by kernel_rfl) (by kernel_rfl) (by kernel_rfl) (fun _ _ _ h => h) (Or.inl ⟨by rfl, ?hy8⟩) hS ?rest8
    case hy8 => (intro ww hSw; (try dsimp only at hSw); go_split_ands; go_simp; try with_reducible rfl)
    try simp only [Act.put, List.setIfInBounds_toArray, List.set_cons_zero, List.set_cons_succ]
    refine wpAnyX_take (i := 9) (v := ?vv9) rfl (by kernel_rfl) (by kernel_rfl) (by kernel_rfl) (by kernel_rfl) (fun _ _ _ h => h) (Or.inl ⟨by rfl, ?hy9⟩) hS ?rest9
    case hy9 => (intro ww hSw; (try dsimp only at hSw); go_split_ands; go_simp; try with_reducible rfl)
    try simp only [Act.put, List.setIfInBounds_toArray, List.set_cons_zero, List.set_cons_succ]
    refine wpAnyX_take (i := 10) (v := ?vv10) rfl (by kernel_rfl) (by kernel_rfl) (by kernel_rfl) (by kernel_rfl) (fun _ _ _ h => h) (Or.inl ⟨by rfl, ?hy10⟩) hS ?rest10
    case hy10 => (intro ww hSw; (try dsimp only at hSw); go_split_ands; go_simp; try with_reducible rfl)
    try simp only [Act.put, List.setIfInBounds_toArray, List.set_cons_zero, List.set_cons_succ]
    refine wpAnyX_take (i := 11) (v := ?vv11) rfl (by kernel_rfl) (by kernel_rfl) (by kernel_rfl) (by kernel_rfl) (fun _ _ _ h => h) (Or.inl ⟨by rfl, ?hy11⟩) hS ?rest11
    case hy11 => (intro ww hSw; (try dsimp only at hSw); go_split_ands; go_simp; try with_reducible rfl)
    try simp only [Act.put, List.setIfInBounds_toArray, List.set_cons_zero, List.set_cons_succ]
    refine wpAnyX_take (i := 14) (v := ?vv12) rfl (by kernel_rfl) (by kernel_rfl) (by kernel_rfl) (by kernel_rfl) (fun _ _ _ h => h) (Or.inl ⟨by rfl, ?hy12⟩) hS ?rest12
    case hy12 => (intro ww hSw; (try dsimp only at hSw); go_split_ands; go_simp; try with_reducible rfl)
    try simp only [Act.put, List.setIfInBounds_toArray, List.set_cons_zero, List.set_cons_succ]
    refine wpAnyX_take (i := 15) (v := ?vv13) rfl (by kernel_rfl) (by kernel_rfl) (by kernel_rfl) (by kernel_rfl) (fun _ _ _ h => h) (Or.inl ⟨by rfl, ?hy13⟩) hS ?rest13
    case hy13 => (intro ww hSw; (try dsimp only at hSw); go_split_ands; go_simp; try with_reducible rfl)
    try simp only [Act.put, List.setIfInBounds_toArray, List.set_cons_zero, List.set_cons_succ]
    refine wpAnyX_take (i := 16) (v := ?vv14) rfl (by kernel_rfl) (by kernel_rfl) (by kernel_rfl) (by kernel_rfl) (fun _ _ _ h => h) (Or.inl ⟨by rfl, ?hy14⟩) hS ?rest14
    case hy14 => (intro ww hSw; (try dsimp only at hSw); go_split_ands; go_simp; try with_reducible rfl)
    try simp only [Act.put, List.setIfInBounds_toArray, List.set_cons_zero, List.set_cons_succ]
    refine wpAnyX_take (i := 17) (v := ?vv15) rfl (by kernel_rfl) (by kernel_rfl) (by kernel_rfl) (by kernel_rfl) (fun _ _ _ h => h) (Or.inl ⟨by rfl, ?hy15⟩) hS ?rest15
    case hy15 => (intro ww hSw; (try dsimp only at hSw); go_split_ands; go_simp; try with_reducible rfl)
    try simp only [Act.put, List.setIfInBounds_toArray, List.set_cons_zero, List.set_cons_succ]
    refine wpAnyX_take (i := 18) (v := ?vv16) rfl (by kernel_rfl) (by kernel_rfl) (by kernel_rfl) (by kernel_rfl) (fun _ _ _ h => h) (Or.inl ⟨by rfl, ?hy16⟩) hS ?rest16
    case hy16 => (intro ww hSw; (try dsimp only at hSw); go_split_ands; go_simp; try with_reducible rfl)
    try simp only [Act.put, List.setIfInBounds_toArray, List.set_cons_zero, List.set_cons_succ]
    refine wpAnyX_take (i := 19) (v := ?vv17) rfl (by kernel_rfl) (by kernel_rfl) (by kernel_rfl) (by kernel_rfl) (fun _ _ _ h => h) (Or.inl ⟨by rfl, ?hy17⟩) hS ?rest17
    case hy17 => (intro ww hSw; (try dsimp only at hSw); go_split_ands; go_simp; try with_reducible rfl)
    try simp only [Act.put, List.setIfInBounds_toArray, List.set_cons_zero, List.set_cons_succ]
    refine wpAnyX_take (i := 22) (v := ?vv18) rfl (by kernel_rfl) (by kernel_rfl) (by kernel_rfl) (by kernel_rfl) (fun _ _ _ h => h) (Or.inl ⟨by rfl, ?hy18⟩) hS ?rest18
    case hy18 => (intro ww hSw; (try dsimp only at hSw); go_split_ands; go_simp; try with_reducible rfl)
    try simp only [Act.put, List.setIfInBounds_toArray, List.set_cons_zero, List.set_cons_succ]
    refine wpAnyX_take (i := 23) (v := ?vv19) rfl (by kernel_rfl) (by kernel_rfl) (by kernel_rfl) (by kernel_rfl) (fun _ _ _ h => h) (Or.inl ⟨by rfl, ?hy19⟩) hS ?rest19
    case hy19 => (intro ww hSw; (try dsimp only at hSw); go_split_ands; go_simp; try with_reducible rfl)
    try simp only [Act.put, List.setIfInBounds_toArray, List.set_cons_zero, List.set_cons_succ]
    refine wpAnyX_take (i := 24) (v := ?vv20) rfl (by kernel_rfl) (by kernel_rfl) (by kernel_rfl) (by kernel_rfl) (fun _ _ _ h => h) (Or.inl ⟨by rfl, ?hy20⟩) hS ?rest20
    case hy20 => (intro ww hSw; (try dsimp only at hSw); go_split_ands; go_simp; try with_reducible rfl)
    try simp only [Act.put, List.setIfInBounds_toArray, List.set_cons_zero, List.set_cons_succ]
    refine wpAnyX_take (i := 25) (v := ?vv21) rfl (by kernel_rfl) (by kernel_rfl) (by kernel_rfl) (by kernel_rfl) (fun _ _ _ h => h) (Or.inl ⟨by rfl, ?hy21⟩) hS ?rest21
    case hy21 => (intro ww hSw; (try dsimp only at hSw); go_split_ands; go_simp; try with_reducible rfl)
    try simp only [Act.put, List.setIfInBounds_toArray, List.set_cons_zero, List.set_cons_succ]
    refine wpAnyX_take (i := 26) (v := ?vv22) rfl (by kernel_rfl) (by kernel_rfl) (by kernel_rfl) (by kernel_rfl) (fun _ _ _ h => h) (Or.inl ⟨by rfl, ?hy22⟩) hS ?rest22
    case hy22 => (intro ww hSw; (try dsimp only at hSw); go_split_ands; go_simp; try with_reducible rfl)
    try simp only [Act.put, List.setIfInBounds_toArray, List.set_cons_zero, List.set_cons_succ]
    refine wpAnyX_take (i := 27) (v := ?vv23) rfl (by kernel_rfl) (by kernel_rfl) (by kernel_rfl) (by kernel_rfl) (fun _ _ _ h => h) (Or.inl ⟨by rfl, ?hy23⟩) hS ?rest23
    case hy23 => (intro ww hSw; (try dsimp only at hSw); go_split_ands; go_simp; try with_reducible rfl)
    try simp only [Act.put, List.setIfInBounds_toArray, List.set_cons_zero, List.set_cons_succ]
    refine wpAnyX_take (i := 28) (v := ?vv24) rfl (by kernel_rfl) (by kernel_rfl) (by kernel_rfl) (by kernel_rfl) (fun _ _ _ h => h) (Or.inl ⟨by rfl, ?hy24⟩) hS ?rest24
    case hy24 => (intro ww hSw; (try dsimp only at hSw); go_split_ands; go_simp; try with_reducible rfl)
    try simp only [Act.put, List.setIfInBounds_toArray, List.set_cons_zero, List.set_cons_succ]
    refine wpAnyX_step (k := 5) (by kernel_rfl) rfl rfl (fun K2 hK2 => ?_)
    go_simp
    refine (T0.out _ hS.1).mono ?_; rintro e wz ⟨rfl, qz⟩
    replace qb := qb.trans qz
    refine hK2.out _ _ ⟨qb, bpb.qcell qb 0, bpb.qcell qb 1, bpb.qcell qb 2⟩ (fun hS => ?_)
    clear hK2 K2 qz
    (try simp only [Act.put, List.setIfInBounds_toArray, List.set_cons_zero, List.set_cons_succ])
    refine wpAnyX_step (k := 12) (by kernel_rfl) rfl rfl (fun K2 hK2 => ?_)
    go_simp
    refine (T1.out _ hS.1).mono ?_; rintro e wz ⟨rfl, qz⟩
    replace qb := qb.trans qz
    refine hK2.out _ _ ⟨qb, bpb.qcell qb 0, bpb.qcell qb 1, bpb.qcell qb 2⟩ (fun hS => ?_)
    clear hK2 K2 qz
    (try simp only [Act.put, List.setIfInBounds_toArray, List.set_cons_zero, List.set_cons_succ])
    refine wpAnyX_take (i := 13) (v := ?vv25) rfl (by kernel_rfl) (by kernel_rfl) (by kernel_rfl) (by kernel_rfl) (fun _ _ _ h => h) (Or.inl ⟨by rfl, ?hy25⟩) hS ?rest25
    case hy25 => (intro ww hSw; (try dsimp only at hSw); go_split_ands; go_simp; try with_reducible rfl)
    try simp only [Act.put, List.setIfInBounds_toArray, List.set_cons_zero, List.set_cons_succ]
    refine wpAnyX_step (k := 20) (by kernel_rfl) rfl rfl (fun K2 hK2 => ?_)
    go_simp
    refine (T2.out _ hS.1).mono ?_; rintro e wz ⟨rfl, qz⟩
    replace qb := qb.trans qz
    refine hK2.out _ _ ⟨qb, bpb.qcell qb 0, bpb.qcell qb 1, bpb.qcell qb 2⟩ (fun hS => ?_)
    clear hK2 K2 qz
    (try simp only [Act.put, List.setIfInBounds_toArray, List.set_cons_zero, List.set_cons_succ])
    refine wpAnyX_take (i := 21) (v := ?vv26) rfl (by kernel_rfl) (by kernel_rfl) (by kernel_rfl) (by kernel_rfl) (fun _ _ _ h => h) (Or.inl ⟨by rfl, ?hy26⟩) hS ?rest26
    case hy26 => (intro ww hSw; (try dsimp only at hSw); go_split_ands; go_simp; try with_reducible rfl)
    try simp only [Act.put, List.setIfInBounds_toArray, List.set_cons_zero, List.set_cons_succ]
    refine wpAnyX_step (k := 29) (by kernel_rfl) rfl rfl (fun K2 hK2 => ?_)
    go_simp
    refine (T3.out _ hS.1).mono ?_; rintro e wz ⟨rfl, qz⟩
    replace qb := qb.trans qz
    refine hK2.out _ _ ⟨qb, bpb.qcell qb 0, bpb.qcell qb 1, bpb.qcell qb 2⟩ (fun hS => ?_)
    clear hK2 K2 qz
    (try simp only [Act.put, List.setIfInBounds_toArray, List.set_cons_zero, List.set_cons_succ])
    refine wpAnyX_take (i := 30) (v := ?vv27) rfl (by kernel_rfl) (by kernel_rfl) (by kernel_rfl) (by kernel_rfl) (fun _ _ _ h => h) (Or.inl ⟨by rfl, ?hy27⟩) hS ?rest27
    case hy27 => (intro ww hSw; (try dsimp only at hSw); go_split_ands; go_simp; try with_reducible rfl)
    try simp only [Act.put, List.setIfInBounds_toArray, List.set_cons_zero, List.set_cons_succ]
    refine wpAnyX_take (i := 31) (v := ?vv28) rfl (by kernel_rfl) (by kernel_rfl) (by kernel_rfl) (by kernel_rfl) (fun _ _ _ h => h) (Or.inl ⟨by rfl, ?hy28⟩) hS ?rest28
    case hy28 => (intro ww hSw; (try dsimp only at hSw); go_split_ands; go_simp; try with_reducible rfl)
    try simp only [Act.put, List.setIfInBounds_toArray, List.set_cons_zero, List.set_cons_succ]
    refine wpAnyX_done (by kernel_rfl) ?_ _
    refine hK _ _ ?_
    clear hK K hS
    have bxz := bxb.q qb
    have sz := qb.size
    refine wpIn_region_x (fun ww => ww.cell? ⟨xb, 0, none⟩ = some (.int .i64 (wn : Int)) ∧ ww.cell? ⟨xb, 2, none⟩ = some (.slice (some ⟨gO, 0, none⟩) (hn' * wn) cO)) (fun j => decide (10 ≤ j)) (by kernel_rfl) (fun ⟨_, _, h⟩ => h) (by kernel_rfl) ⟨bxz.cell 0, bxz.cell 2⟩ (fun hS => ?_)
    refine wpAnyX_take (i := 0) (v := ?vv29) rfl (by kernel_rfl) (by kernel_rfl) (by kernel_rfl) (by kernel_rfl) (fun _ _ _ h => h) (Or.inl ⟨by rfl, ?hy29⟩) hS ?rest29
    case hy29 => (intro ww hSw; (try dsimp only at hSw); go_split_ands; go_simp; try with_reducible rfl)
    try simp only [Act.put, List.setIfInBounds_toArray, List.set_cons_zero, List.set_cons_succ]
    refine wpAnyX_take (i := 1) (v := ?vv30) rfl (by kernel_rfl) (by kernel_rfl) (by kernel_rfl) (by kernel_rfl) (fun _ _ _ h => h) (Or.inl ⟨by rfl, ?hy30⟩) hS ?rest30
    case hy30 => (intro ww hSw; (try dsimp only at hSw); go_split_ands; go_simp; try with_reducible rfl)
    try simp only [Act.put, List.setIfInBounds_toArray, List.set_cons_zero, List.set_cons_succ]
    refine wpAnyX_take (i := 2) (v := ?vv31) rfl (by kernel_rfl) (by kernel_rfl) (by kernel_rfl) (by kernel_rfl) (fun _ _ _ h => h) (Or.inl ⟨by rfl, ?hy31⟩) hS ?rest31
    case hy31 => (intro ww hSw; (try dsimp only at hSw); go_split_ands; go_simp; try with_reducible rfl)
    try simp only [Act.put, List.setIfInBounds_toArray, List.set_cons_zero, List.set_cons_succ]
    refine wpAnyX_take (i := 3) (v := ?vv32) rfl (by kernel_rfl) (by kernel_rfl) (by kernel_rfl) (by kernel_rfl) (fun _ _ _ h => h) (Or.inl ⟨by rfl, ?hy32⟩) hS ?rest32
    case hy32 => (intro ww hSw; (try dsimp only at hSw); go_split_ands; go_simp; try with_reducible rfl)
    try simp only [Act.put, List.setIfInBounds_toArray, List.set_cons_zero, List.set_cons_succ]
    refine wpAnyX_take (i := 4) (v := ?vv33) rfl (by kernel_rfl) (by kernel_rfl) (by kernel_rfl) (by kernel_rfl) (fun _ _ _ h => h) (Or.inl ⟨by rfl, ?hy33⟩) hS ?rest33
    case hy33 => (intro ww hSw; (try dsimp only at hSw); go_split_ands; go_simp; try with_reducible rfl)
    try simp only [Act.put, List.setIfInBounds_toArray, List.set_cons_zero, List.set_cons_succ]
    refine wpAnyX_take (i := 5) (v := ?vv34) rfl (by kernel_rfl) (by kernel_rfl) (by kernel_rfl) (by kernel_rfl) (fun _ _ _ h => h) (Or.inl ⟨by rfl, ?hy34⟩) hS ?rest34
    case hy34 => (intro ww hSw; (try dsimp only at hSw); go_split_ands; go_simp; try with_reducible rfl)
    try simp only [Act.put, List.setIfInBounds_toArray, List.set_cons_zero, List.set_cons_succ]
    refine wpAnyX_take (i := 6) (v := ?vv35) rfl (by kernel_rfl) (by kernel_rfl) (by kernel_rfl) (by kernel_rfl) (fun _ _ _ h => h) (Or.inl ⟨by rfl, ?hy35⟩) hS ?rest35
    case hy35 => (intro ww hSw; (try dsimp only at hSw); go_split_ands; go_simp; try with_reducible rfl)
    try simp only [Act.put, List.setIfInBounds_toArray, List.set_cons_zero, List.set_cons_succ]
    refine wpAnyX_take (i := 7) (v := ?vv36) rfl (by kernel_rfl) (by kernel_rfl) (by kernel_rfl) (by kernel_rfl) (fun _ _ _ h => h) (Or.inl ⟨by rfl, ?hy36⟩) hS ?rest36
    case hy36 => (intro ww hSw; (try dsimp only at hSw); go_split_ands; go_simp; try with_reducible rfl)
    try simp only [Act.put, List.setIfInBounds_toArray, List.set_cons_zero, List.set_cons_succ]
    refine wpAnyX_take (i := 8) (v := ?vv37) rfl (by kernel_rfl) (by kernel_rfl) (by kernel_rfl) (by kernel_rfl) (fun _ _ _ h => h) (Or.inl ⟨by rfl, ?hy37⟩) hS ?rest37
    case hy37 => (intro ww hSw; (try dsimp only at hSw); go_split_ands; go_simp; try with_reducible rfl)
    try simp only [Act.put, List.setIfInBounds_toArray, List.set_cons_zero, List.set_cons_succ]
    refine wpAnyX_step (k := 9) (by kernel_rfl) rfl rfl (fun K2 hK2 => ?_)
    go_simp
    refine (rounded4 _ _ r6.1 r6.2).mono ?_; rintro e wq ⟨rfl, rfl⟩
    refine hK2.out _ _ hS (fun hS => ?_)
    clear hK2 K2
    (try simp only [Act.put, List.setIfInBounds_toArray, List.set_cons_zero, List.set_cons_succ])
    refine wpAnyX_tail [10, 11] 10 (by kernel_rfl) (by decide) rfl ?_
    have oz := HO.out.q (qb.drew)
    have hc4 := oz.at (pq + xx) hidx
    have hf4 := oz.free (pq + xx)
    have OZ := Lib.hid (oz.set (pq + xx) ((s0 + s1 + s2' + s3' + 2) / 4))
    have QZ := Lib.hid (qb.drew)
    clear oz hS
    generalize (setAll (hafF W H xs) (hn' * wn) pre)[pq + xx]?.getD 0 = zz at hc4
    go_wp2_with fail
    have hne : xb + 1 ≠ gO := by omega
    refine ⟨((KeepsOthers.of_q qb).trans (KeepsOthers.setCell _ _ _)).trans (KeepsOthers.drew _), ?_, ?_, ?_⟩
    · exact (Below.heap_setCell _ ⟨gO, pq + xx, none⟩ _ (xb + 1) hne).trans (qb.block (xb + 1) (by omega))
    · rw [HSN.out, HPQ.out, HV.out]
      exact OZ.out
    · exact grownBy_drewN (grownBy_set (World.grownBy.andThen (row' := some gO) HG.out ⟨qb.os, qb.tape, qb.output, qb.size, fun k hk _ => qb.block k hk⟩ (fun _ e => .inr e)) _ _) 1
  case done =>
    rintro D ys Wd hD rfl ⟨ho, hgr⟩ hK
    rw [setAll_pos _ _ _ _ (Nat.le_refl _), pixT_full] at ho
    have bxz := BX.out.grown hgr (fun e => by cases e; omega)
    have brz := BR.out.grown hgr (fun e => by cases e; omega)
    have bxc := bxz.cell
    have brc := brz.cell
    have brf := brz.free
    have HO := Lib.hid ho
    have HG := Lib.hid hgr
    have HK := Lib.hid hK
    have BRZ := Lib.hid brz
    clear ho hgr hK bxz brz
    gi_wp2
    have hsz := HG.out.size
    have hne : D ≠ w.heap.size + 1 := by omega
    have QD := HQ.out.grown HG.out (fun k e => by cases e; omega)
    have hK' := (Below.heap_setCell ((Wd.setCell ⟨w.heap.size + 1, 0, none⟩ (.int .i64 (wn : Int))).setCell ⟨w.heap.size + 1, 1, none⟩ (.int .i64 (hn' : Int))) ⟨w.heap.size + 1, 2, none⟩ (.slice (some ⟨gO, 0, none⟩) (hn' * wn) cO) D hne).trans ((Below.heap_setCell (Wd.setCell ⟨w.heap.size + 1, 0, none⟩ (.int .i64 (wn : Int))) ⟨w.heap.size + 1, 1, none⟩ (.int .i64 (hn' : Int)) D hne).trans ((Below.heap_setCell Wd ⟨w.heap.size + 1, 0, none⟩ (.int .i64 (wn : Int)) D hne).trans HK.out))
    have BZ := ((BRZ.out.set 0 (.int .i64 (wn : Int))).set 1 (.int .i64 (hn' : Int))).set 2 (.slice (some ⟨gO, 0, none⟩) (hn' * wn) cO)
    have OZ := ((HO.out.far (p := ⟨w.heap.size + 1, 0, none⟩) (by show w.heap.size + 1 < wv.heap.size; omega) (.int .i64 (wn : Int))).far (p := ⟨w.heap.size + 1, 1, none⟩) (by show w.heap.size + 1 < wv.heap.size; omega) (.int .i64 (hn' : Int))).far (p := ⟨w.heap.size + 1, 2, none⟩) (by show w.heap.size + 1 < wv.heap.size; omega) (.slice (some ⟨gO, 0, none⟩) (hn' * wn) cO)
    have QZ := ((QD.set (p := ⟨w.heap.size + 1, 0, none⟩) (by show w.heap.size ≤ w.heap.size + 1; omega) (.int .i64 (wn : Int))).set (p := ⟨w.heap.size + 1, 1, none⟩) (by show w.heap.size ≤ w.heap.size + 1; omega) (.int .i64 (hn' : Int))).set (p := ⟨w.heap.size + 1, 2, none⟩) (by show w.heap.size ≤ w.heap.size + 1; omega) (.slice (some ⟨gO, 0, none⟩) (hn' * wn) cO)
    generalize (((Wd.setCell ⟨w.heap.size + 1, 0, none⟩ (.int .i64 (wn : Int))).setCell ⟨w.heap.size + 1, 1, none⟩ (.int .i64 (hn' : Int))).setCell ⟨w.heap.size + 1, 2, none⟩ (.slice (some ⟨gO, 0, none⟩) (hn' * wn) cO)) = Wz at hK' BZ OZ QZ ⊢
    have cc := (Blk.putObj BZ D (.deferred none) (fun e => hne e.symm)).cell
    clear bxc brc brf
    refine ⟨by simp, .inl ⟨_, _, rfl, run_takeDeferred hK', ?_⟩⟩
    refine ⟨.agg #[.int .i64 (wn : Int), .int .i64 (hn' : Int), .slice (some ⟨gO, 0, none⟩) (hn' * wn) cO], by simp [results, Try.results28, go_sem, cc], _, rfl, ?_, ?_⟩
    · have hgD : gO ≠ D := by omega
      exact (OZ.other (grownBy_putObj' Wz D _) (.inr (fun e => hgD (by simpa [Value.ownBlock] using e)))).mono (by omega)
    · exact QZ.grown (grownBy_putObj' Wz D _) (fun k e => by cases e; omega)
  case stop =>
    rintro D c pre W _ _ h _
    exact h.elim
end Go.Proofs.Ytoipcfpbkjanhaa

/-
  HalfSize of the program: where there is no halved picture.
-/
import Derived.Test.YtoipcfpbkjanhaaSiz2
namespace Go.Proofs.Ytoipcfpbkjanhaa
open Go.RowKit Go.Shelf
attribute [local go_sem] Oper.semAt_some

theorem newPicture_no (W H V : Int) (w : World) (h : Hid (¬ sideOk W ∨ ¬ sideOk H)) :
    Calls Try.prog 38 #[.int .i64 W, .int .i64 H, .int .i64 V] w fun e w' => e = .returned (.agg #[.int .i64 0, .int .i64 0, .slice none 0 0]) ∧ Q w w' := by
  have b0 := (Blk.new w 27 #[.int .i64 0, .int .i64 0, .slice none 0 0])
  have bc := b0.cell
  have bf := b0.free
  by_cases hW : sideOk W
  · have hH : ¬ sideOk H := by rcases h.out with h | h; exact absurd hW h; exact h
    have D1 := hid_ _ (decide_eq_true hW)
    have D2 := hid_ _ (decide_eq_false hH)
    clear hW hH h
    go_enter Try.func38, Try.ntmps38
    go_wp2_with fail
    refine (sideValid_b _ _ _ D1).mono ?_; rintro e w' ⟨rfl, rfl⟩
    go_wp2_with fail
    refine (sideValid_b _ _ _ D2).mono ?_; rintro e w' ⟨rfl, rfl⟩
    go_wp2_with fail
    exact bodyPost_ret (v := .agg #[.int .i64 0, .int .i64 0, .slice none 0 0]) (by simp [results, Try.results38, go_sem, bc]) rfl ⟨rfl, (by repeat (first | exact Q.refl _ | assumption | refine Q.drewN ?_ _ | refine Q.drew ?_ | refine Q.alloc ?_ _ | refine Q.trans ?_ (by assumption) | refine Q.set ?_ (by first | exact Nat.le_refl _ | omega | (simp; done) | (simp; omega)) _))⟩
  · have D1 := hid_ _ (decide_eq_false hW)
    clear hW h
    go_enter Try.func38, Try.ntmps38
    go_wp2_with fail
    refine (sideValid_b _ _ _ D1).mono ?_; rintro e w' ⟨rfl, rfl⟩
    go_wp2_with fail
    exact bodyPost_ret (v := .agg #[.int .i64 0, .int .i64 0, .slice none 0 0]) (by simp [results, Try.results38, go_sem, bc]) rfl ⟨rfl, (by repeat (first | exact Q.refl _ | assumption | refine Q.drewN ?_ _ | refine Q.drew ?_ | refine Q.alloc ?_ _ | refine Q.trans ?_ (by assumption) | refine Q.set ?_ (by first | exact Nat.le_refl _ | omega | (simp; done) | (simp; omega)) _))⟩

set_option maxRecDepth 100000 in
set_option maxHeartbeats 4000000 in
theorem impl_Half_no (W H : Int) (A : Option Addr) (m c B : Nat) (xs : List Int) (w : World) (hx : Rd w B A xs) (hB : B ≤ w.heap.size) (hn : Hid (xs.length = m)) (hm : m ≤ 9223372036854775807) (hp : Hid (picB W H xs = false)) :
    Calls Try.prog 28 #[.agg #[.int .i64 W, .int .i64 H, .slice A m c]] w fun e w' => e = .returned (.agg #[.int .i64 0, .int .i64 0, .slice none 0 0]) ∧ Q w w' := by
  have q0 : Q w ((w.alloc (.cells #[.int .i64 W, .int .i64 H, .slice A m c] 27)).alloc (.cells #[.int .i64 0, .int .i64 0, .slice none 0 0] 27)) := (by repeat (first | exact Q.refl _ | assumption | refine Q.drewN ?_ _ | refine Q.drew ?_ | refine Q.alloc ?_ _ | refine Q.trans ?_ (by assumption) | refine Q.set ?_ (by first | exact Nat.le_refl _ | omega | (simp; done) | (simp; omega)) _))
  have r0 := Blk.new (w.alloc (.cells #[.int .i64 W, .int .i64 H, .slice A m c] 27)) 27 #[.int .i64 0, .int .i64 0, .slice none 0 0]
  rw [World.size_alloc] at r0
  have s0 := q0.size
  have HX := Lib.hid (hx.q q0 hB)
  clear hx
  go_enter Try.func28, Try.ntmps28
  go_wp2_with fail
  refine (impl_PictureValid W H A m c _ xs false _ HX.out (by omega) hn hm hp).mono ?_; rintro e w1 ⟨rfl, q1⟩
  have r4 := (r0.q q1).cell
  have f4 := (r0.q q1).free
  go_wp2_with fail
  refine bodyPost_ret (v := .agg #[.int .i64 0, .int .i64 0, .slice none 0 0]) (by simp [results, Try.results28, go_sem, r4]) rfl ⟨rfl, ?_⟩
  have hq := q0.trans q1
  exact (by repeat (first | exact Q.refl _ | assumption | refine Q.drewN ?_ _ | refine Q.drew ?_ | refine Q.alloc ?_ _ | refine Q.trans ?_ (by assumption) | refine Q.set ?_ (by first | exact Nat.le_refl _ | omega | (simp; done) | (simp; omega)) _))

set_option maxRecDepth 100000 in
set_option maxHeartbeats 8000000 in
theorem impl_Half_zero (n : Nat) (h1 : 3 ≤ n) (W H : Int) (A : Option Addr) (m c B : Nat) (xs : List Int) (w : World) (hx : Rd w B A xs) (hB : B ≤ w.heap.size) (hn : Hid (xs.length = m)) (hp : Hid (picB W H xs = true)) (hs : Hid (¬ sideOk (W / 2) ∨ ¬ sideOk (H / 2))) :
    CallsIn Fence.wide n Try.prog 28 #[.agg #[.int .i64 W, .int .i64 H, .slice A m c]] w fun e w' => e = .returned (.agg #[.int .i64 0, .int .i64 0, .slice none 0 0]) ∧ Q w w' := by
  obtain ⟨pW, pH, pl, pa⟩ := picB_parts hp.out
  have q0 : Q w ((w.alloc (.cells #[.int .i64 W, .int .i64 H, .slice A m c] 27)).alloc (.cells #[.int .i64 0, .int .i64 0, .slice none 0 0] 27)) := (by repeat (first | exact Q.refl _ | assumption | refine Q.drewN ?_ _ | refine Q.drew ?_ | refine Q.alloc ?_ _ | refine Q.trans ?_ (by assumption) | refine Q.set ?_ (by first | exact Nat.le_refl _ | omega | (simp; done) | (simp; omega)) _))
  have bp := (Blk.new w 27 #[.int .i64 W, .int .i64 H, .slice A m c]).alloc (.cells #[.int .i64 0, .int .i64 0, .slice none 0 0] 27)
  have br := Blk.new (w.alloc (.cells #[.int .i64 W, .int .i64 H, .slice A m c] 27)) 27 #[.int .i64 0, .int .i64 0, .slice none 0 0]
  rw [World.size_alloc] at br
  have s0 : w.heap.size + 2 ≤ ((w.alloc (.cells #[.int .i64 W, .int .i64 H, .slice A m c] 27)).alloc (.cells #[.int .i64 0, .int .i64 0, .slice none 0 0] 27)).heap.size := by simp
  have HX := Lib.hid (hx.q q0 hB)
  have mm : m ≤ 9223372036854775807 := by have := (area_le pW.1 pW.2.1 pH.1 pH.2.1).2; rw [hn.out] at pl; omega
  have hW2 : 8 ≤ W := pW.1
  have hH2 : 8 ≤ H := pH.1
  have hW3 : W ≤ 32 := pW.2.1
  have hH3 : H ≤ 32 := pH.2.1
  clear hx pl pa pW pH
  refine callsIn_of_wp_marks Try.func28 rfl trivial ?_ rfl
  simp only [Try.ntmps28, List.size_toArray, List.length_cons, List.length_nil, Nat.reduceAdd, Nat.reduceSub, Array.replicate_succ, Array.replicate_zero, List.push_toArray, List.append_toArray, List.nil_append, List.cons_append]
  gi_wp2_with fail
  refine ⟨trivial, fun hh => by simp [Fence.wide] at hh, (callsIn_wide.2 (impl_PictureValid W H A m c _ xs true _ HX.out (by omega) hn mm hp)).mono ?_⟩; rintro e wv ⟨rfl, q1⟩
  have s2 := q1.size
  replace bp := bp.q q1
  replace br := br.q q1
  have QQ := q0.trans q1
  have bpc := bp.cell
  clear q1 q0 HX
  gi_wp2_with fail
  refine ⟨trivial, fun hh => by simp [Fence.wide] at hh, (callsIn_wide.2 (newPicture_no (W / 2) (H / 2) 0 _ hs)).mono ?_⟩; rintro e w3 ⟨rfl, q3⟩
  have s3 := q3.size
  have s4 : (w3.alloc (.cells #[.int .i64 0, .int .i64 0, .slice none 0 0] 27)).heap.size = w3.heap.size + 1 := by simp
  have q4 := q3.alloc (.cells #[.int .i64 0, .int .i64 0, .slice none 0 0] 27)
  replace br := br.q q4
  have bx := Blk.new w3 27 #[.int .i64 0, .int .i64 0, .slice none 0 0]
  replace QQ := QQ.trans q4
  clear q3 q4 bp bpc
  gi_wp2_with fail
  generalize w3.alloc (.cells #[.int .i64 0, .int .i64 0, .slice none 0 0] 27) = w4 at br bx QQ s4 ⊢
  generalize w3.heap.size = xb at bx s3 s4 ⊢
  refine ⟨trivial, fun hh => by simp [Fence.wide] at hh, (positions_in (n - 1) _ _ _ _).mono ?_⟩; rintro e wz ⟨rfl, rfl⟩
  have bq := Blk.new w4 27 #[.int .i64 0, .int .i64 0, .slice none 0 0]
  have q5 : Q w4 (w4.alloc (.cells #[.int .i64 0, .int .i64 0, .slice none 0 0] 27)) := (Q.refl _).alloc _
  have s5 : (w4.alloc (.cells #[.int .i64 0, .int .i64 0, .slice none 0 0] 27)).heap.size = w4.heap.size + 1 := by simp
  replace br := br.q q5
  replace bx := bx.q q5
  replace QQ := QQ.trans q5
  clear q5
  gi_wp2_with fail
  generalize w4.alloc (.cells #[.int .i64 0, .int .i64 0, .slice none 0 0] 27) = w5 at br bx QQ bq s5 ⊢
  generalize w4.heap.size = qb at bq s4 s5 ⊢
  obtain rfl : qb = xb + 1 := s4
  have BR := Lib.hid br
  have BX := Lib.hid bx
  have HQ := Lib.hid QQ
  clear br bx QQ
  refine wpIn_rangeFunc_ownF rfl (by omega) (gf := 68) (lb := #[.pointer (some ⟨xb + 1, 0, none⟩)]) rfl trivial (enters_of Try.func68 (by kernel_rfl) rfl)
    (positions_stops (n - 1) (xb + 1) 0 0 _ (by omega) (by omega) w5 bq) kpBox_t (kpBox_b (by omega)) (Below.refl _ _) (fun _ => rfl)
    (fun _ Wn => Below w5.heap.size w5 Wn)
    (fun _ _ _ => False)
    (ownFrom_below (Nat.le_refl _) (Nat.le_refl _))
    (fun _ _ _ _ _ hs _ _ => hs)
    (Below.refl _ _)
    (fun x => { tmps := #[.agg #[.int .i64 W, .int .i64 H, .slice A m c], .pointer (some ⟨w.heap.size, 0, none⟩), .pointer (some ⟨w.heap.size + 1, 0, none⟩), .pointer (some ⟨xb, 0, none⟩), .int .i64 (x.1.1 : Int), .int .i64 (x.2.1 : Int), undef, .agg #[.int .i64 W, .int .i64 H, .slice A m c], .bool true, .bool false, undef, .pointer (some ⟨w.heap.size, 0, none⟩), .int .i64 W, .int .i64 (W / 2), .pointer (some ⟨w.heap.size, 1, none⟩), .int .i64 H, .int .i64 (H / 2), .agg #[.int .i64 0, .int .i64 0, .slice none 0 0], .agg #[.int .i64 0, .int .i64 0, .slice none 0 0], .func (.func 68) #[] #[.pointer (some ⟨xb + 1, 0, none⟩)], .int .i64 (x.1.1 : Int), .int .i64 (x.2.1 : Int), undef, undef, undef, undef, undef, undef, undef, undef, undef, undef, undef, undef, undef, undef, undef, undef, undef, undef, undef, undef, undef, undef, undef, undef, undef, undef, undef, undef, undef, undef, undef, undef, undef, undef, undef, undef, undef, undef, undef, undef, undef, undef, undef], defers := [] }) ?assign ?body ?done ?stop
  case assign =>
    intro l x W K hK
    exact absurd x.1.2 (Nat.not_lt_zero _)
  case body =>
    rintro l pre x Wb _ _
    exact absurd x.1.2 (Nat.not_lt_zero _)
  case done =>
    rintro D ys Wd hD _ hbl hK
    have qd : Q w5 Wd := hbl
    have bxc := BX.out.qcell qd
    have brz := BR.out.q qd
    have brc := brz.cell
    have brf := brz.free
    have HK := Lib.hid hK
    have BRZ := Lib.hid brz
    have hsz := qd.size
    have hne : D ≠ w.heap.size + 1 := by omega
    have QD := HQ.out.trans qd
    have hK' := (Below.heap_setCell ((Wd.setCell ⟨w.heap.size + 1, 0, none⟩ (.int .i64 0)).setCell ⟨w.heap.size + 1, 1, none⟩ (.int .i64 0)) ⟨w.heap.size + 1, 2, none⟩ (.slice none 0 0) D hne).trans ((Below.heap_setCell (Wd.setCell ⟨w.heap.size + 1, 0, none⟩ (.int .i64 0)) ⟨w.heap.size + 1, 1, none⟩ (.int .i64 0) D hne).trans ((Below.heap_setCell Wd ⟨w.heap.size + 1, 0, none⟩ (.int .i64 0) D hne).trans HK.out))
    have BZ := Lib.hid (((BRZ.out.set 0 (.int .i64 0)).set 1 (.int .i64 0)).set 2 (.slice none 0 0))
    have QZ := Lib.hid (((QD.set (p := ⟨w.heap.size + 1, 0, none⟩) (by show w.heap.size ≤ w.heap.size + 1; omega) (.int .i64 0)).set (p := ⟨w.heap.size + 1, 1, none⟩) (by show w.heap.size ≤ w.heap.size + 1; omega) (.int .i64 0)).set (p := ⟨w.heap.size + 1, 2, none⟩) (by show w.heap.size ≤ w.heap.size + 1; omega) (.slice none 0 0))
    have HK' := Lib.hid hK'
    clear hbl hK hK' brz qd QD
    gi_wp2
    generalize (((Wd.setCell ⟨w.heap.size + 1, 0, none⟩ (.int .i64 0)).setCell ⟨w.heap.size + 1, 1, none⟩ (.int .i64 0)).setCell ⟨w.heap.size + 1, 2, none⟩ (.slice none 0 0)) = Wz at HK' BZ QZ ⊢
    have cc := (Blk.putObj BZ.out D (.deferred none) (fun e => hne e.symm)).cell
    clear bxc brc brf
    refine ⟨by simp, .inl ⟨_, _, rfl, run_takeDeferred HK'.out, ?_⟩⟩
    refine ⟨.agg #[.int .i64 0, .int .i64 0, .slice none 0 0], by simp [results, Try.results28, go_sem, cc], rfl, ?_⟩
    exact QZ.out.grown (grownBy_putObj' Wz D _) (fun k e => by cases e; omega)
  case stop =>
    rintro D c pre W _ _ h _
    exact h.elim
end Go.Proofs.Ytoipcfpbkjanhaa

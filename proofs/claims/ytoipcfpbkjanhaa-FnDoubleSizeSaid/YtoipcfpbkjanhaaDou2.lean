/-
  DoubleSize of the program, whatever its argument.
-/
import Derived.Test.YtoipcfpbkjanhaaDou
import Derived.Test.YtoipcfpbkjanhaaSiz4
namespace Go.Proofs.Ytoipcfpbkjanhaa
open Go.RowKit Go.Shelf
attribute [local go_sem] Oper.semAt_some

set_option maxRecDepth 100000 in
set_option maxHeartbeats 4000000 in
theorem impl_Double_no (W H : Int) (A : Option Addr) (m c B : Nat) (xs : List Int) (w : World) (hx : Rd w B A xs) (hB : B ≤ w.heap.size) (hn : Hid (xs.length = m)) (hm : m ≤ 9223372036854775807) (hp : Hid (picB W H xs = false)) :
    Calls Try.prog 30 #[.agg #[.int .i64 W, .int .i64 H, .slice A m c]] w fun e w' => e = .returned (.agg #[.int .i64 0, .int .i64 0, .slice none 0 0]) ∧ Q w w' := by
  have q0 : Q w ((w.alloc (.cells #[.int .i64 W, .int .i64 H, .slice A m c] 27)).alloc (.cells #[.int .i64 0, .int .i64 0, .slice none 0 0] 27)) := (by repeat (first | exact Q.refl _ | assumption | refine Q.drewN ?_ _ | refine Q.drew ?_ | refine Q.alloc ?_ _ | refine Q.trans ?_ (by assumption) | refine Q.set ?_ (by first | exact Nat.le_refl _ | omega | (simp; done) | (simp; omega)) _))
  have r0 := Blk.new (w.alloc (.cells #[.int .i64 W, .int .i64 H, .slice A m c] 27)) 27 #[.int .i64 0, .int .i64 0, .slice none 0 0]
  rw [World.size_alloc] at r0
  have s0 := q0.size
  have HX := Lib.hid (hx.q q0 hB)
  clear hx
  go_enter Try.func30, Try.ntmps30
  go_wp2_with fail
  refine (impl_PictureValid W H A m c _ xs false _ HX.out (by omega) hn hm hp).mono ?_; rintro e w1 ⟨rfl, q1⟩
  have r4 := (r0.q q1).cell
  have f4 := (r0.q q1).free
  go_wp2_with fail
  refine bodyPost_ret (v := .agg #[.int .i64 0, .int .i64 0, .slice none 0 0]) (by simp [results, Try.results30, go_sem, r4]) rfl ⟨rfl, ?_⟩
  have hq := q0.trans q1
  exact (by repeat (first | exact Q.refl _ | assumption | refine Q.drewN ?_ _ | refine Q.drew ?_ | refine Q.alloc ?_ _ | refine Q.trans ?_ (by assumption) | refine Q.set ?_ (by first | exact Nat.le_refl _ | omega | (simp; done) | (simp; omega)) _))

set_option maxRecDepth 100000 in
set_option maxHeartbeats 8000000 in
theorem impl_Double_zero (n : Nat) (h1 : 3 ≤ n) (W H : Int) (A : Option Addr) (m c B : Nat) (xs : List Int) (w : World) (hx : Rd w B A xs) (hB : B ≤ w.heap.size) (hn : Hid (xs.length = m)) (hp : Hid (picB W H xs = true)) (hs : Hid (¬ sideOk (2 * W) ∨ ¬ sideOk (2 * H))) :
    CallsIn Fence.wide n Try.prog 30 #[.agg #[.int .i64 W, .int .i64 H, .slice A m c]] w fun e w' => e = .returned (.agg #[.int .i64 0, .int .i64 0, .slice none 0 0]) ∧ Q w w' := by
  obtain ⟨pW, pH, pl, pa⟩ := picB_parts hp.out
  have q0 : Q w ((w.alloc (.cells #[.int .i64 W, .int .i64 H, .slice A m c] 27)).alloc (.cells #[.int .i64 0, .int .i64 0, .slice none 0 0] 27)) := (by repeat (first | exact Q.refl _ | assumption | refine Q.drewN ?_ _ | refine Q.drew ?_ | refine Q.alloc ?_ _ | refine Q.trans ?_ (by assumption) | refine Q.set ?_ (by first | exact Nat.le_refl _ | omega | (simp; done) | (simp; omega)) _))
  have bp := (Blk.new w 27 #[.int .i64 W, .int .i64 H, .slice A m c]).alloc (.cells #[.int .i64 0, .int .i64 0, .slice none 0 0] 27)
  have br := Blk.new (w.alloc (.cells #[.int .i64 W, .int .i64 H, .slice A m c] 27)) 27 #[.int .i64 0, .int .i64 0, .slice none 0 0]
  rw [World.size_alloc] at br
  have s0 : w.heap.size + 2 ≤ ((w.alloc (.cells #[.int .i64 W, .int .i64 H, .slice A m c] 27)).alloc (.cells #[.int .i64 0, .int .i64 0, .slice none 0 0] 27)).heap.size := by simp
  have HX := Lib.hid (hx.q q0 hB)
  have mm : m ≤ 9223372036854775807 := by have := (area_le pW.1 pW.2.1 pH.1 pH.2.1).2; rw [hn.out] at pl; omega
  have hW2 : 8 ≤ W := pW.1
  have hH2 : 8 ≤ H := pH.1
  have hW3 : W ≤ 32 := pW.2.1
  have hH3 : H ≤ 32 := pH.2.1
  clear hx pl pa pW pH
  refine callsIn_of_wp_marks Try.func30 rfl trivial ?_ rfl
  simp only [Try.ntmps30, List.size_toArray, List.length_cons, List.length_nil, Nat.reduceAdd, Nat.reduceSub, Array.replicate_succ, Array.replicate_zero, List.push_toArray, List.append_toArray, List.nil_append, List.cons_append]
  gi_wp2_with fail
  refine ⟨trivial, fun hh => by simp [Fence.wide] at hh, (callsIn_wide.2 (impl_PictureValid W H A m c _ xs true _ HX.out (by omega) hn mm hp)).mono ?_⟩; rintro e wv ⟨rfl, q1⟩
  have s2 := q1.size
  replace bp := bp.q q1
  replace br := br.q q1
  have QQ := q0.trans q1
  have bpc := bp.cell
  clear q1 q0 HX
  gi_wp2_with fail
  refine ⟨trivial, fun hh => by simp [Fence.wide] at hh, (callsIn_wide.2 (newPicture_no (2 * W) (2 * H) 0 _ hs)).mono ?_⟩; rintro e w3 ⟨rfl, q3⟩
  have s3 := q3.size
  have s4 : (w3.alloc (.cells #[.int .i64 0, .int .i64 0, .slice none 0 0] 27)).heap.size = w3.heap.size + 1 := by simp
  have q4 := q3.alloc (.cells #[.int .i64 0, .int .i64 0, .slice none 0 0] 27)
  replace br := br.q q4
  have bx := Blk.new w3 27 #[.int .i64 0, .int .i64 0, .slice none 0 0]
  replace QQ := QQ.trans q4
  clear q3 q4 bp bpc
  gi_wp2_with fail
  generalize w3.alloc (.cells #[.int .i64 0, .int .i64 0, .slice none 0 0] 27) = w4 at br bx QQ s4 ⊢
  generalize w3.heap.size = xb at bx s3 s4 ⊢
  refine ⟨trivial, fun hh => by simp [Fence.wide] at hh, (positions_in (n - 1) _ _ _ _).mono ?_⟩; rintro e wz ⟨rfl, rfl⟩
  have bq := Blk.new w4 27 #[.int .i64 0, .int .i64 0, .slice none 0 0]
  have q5 : Q w4 (w4.alloc (.cells #[.int .i64 0, .int .i64 0, .slice none 0 0] 27)) := (Q.refl _).alloc _
  have s5 : (w4.alloc (.cells #[.int .i64 0, .int .i64 0, .slice none 0 0] 27)).heap.size = w4.heap.size + 1 := by simp
  replace br := br.q q5
  replace bx := bx.q q5
  replace QQ := QQ.trans q5
  clear q5
  gi_wp2_with fail
  generalize w4.alloc (.cells #[.int .i64 0, .int .i64 0, .slice none 0 0] 27) = w5 at br bx QQ bq s5 ⊢
  generalize w4.heap.size = qb at bq s4 s5 ⊢
  obtain rfl : qb = xb + 1 := s4
  have BR := Lib.hid br
  have BX := Lib.hid bx
  have HQ := Lib.hid QQ
  clear br bx QQ
  refine wpIn_rangeFunc_ownF rfl (by omega) (gf := 68) (lb := #[.pointer (some ⟨xb + 1, 0, none⟩)]) rfl trivial (enters_of Try.func68 (by kernel_rfl) rfl)
    (positions_stops (n - 1) (xb + 1) 0 0 _ (by omega) (by omega) w5 bq) kpBox_t (kpBox_b (by omega)) (Below.refl _ _) (fun _ => rfl)
    (fun _ Wn => Below w5.heap.size w5 Wn)
    (fun _ _ _ => False)
    (ownFrom_below (Nat.le_refl _) (Nat.le_refl _))
    (fun _ _ _ _ _ hs _ _ => hs)
    (Below.refl _ _)
    (fun x => { tmps := #[.agg #[.int .i64 W, .int .i64 H, .slice A m c], .pointer (some ⟨w.heap.size, 0, none⟩), .pointer (some ⟨w.heap.size + 1, 0, none⟩), .pointer (some ⟨xb, 0, none⟩), .int .i64 (x.1.1 : Int), .int .i64 (x.2.1 : Int), .agg #[.int .i64 W, .int .i64 H, .slice A m c], .bool true, .bool false, undef, .pointer (some ⟨w.heap.size, 0, none⟩), .int .i64 W, .int .i64 (2 * W), .pointer (some ⟨w.heap.size, 1, none⟩), .int .i64 H, .int .i64 (2 * H), .agg #[.int .i64 0, .int .i64 0, .slice none 0 0], .agg #[.int .i64 0, .int .i64 0, .slice none 0 0], .func (.func 68) #[] #[.pointer (some ⟨xb + 1, 0, none⟩)], .int .i64 (x.1.1 : Int), .int .i64 (x.2.1 : Int), undef, undef, undef, undef, undef, undef, undef, undef, undef, undef, undef, undef, undef, undef], defers := [] }) ?assign ?body ?done ?stop
  case assign =>
    intro l x W K hK
    exact absurd x.1.2 (Nat.not_lt_zero _)
  case body =>
    rintro l pre x Wb _ _
    exact absurd x.1.2 (Nat.not_lt_zero _)
  case done =>
    rintro D ys Wd hD _ hbl hK
    have qd : Q w5 Wd := hbl
    have bxc := BX.out.qcell qd
    have brz := BR.out.q qd
    have brc := brz.cell
    have brf := brz.free
    have HK := Lib.hid hK
    have BRZ := Lib.hid brz
    have hsz := qd.size
    have hne : D ≠ w.heap.size + 1 := by omega
    have QD := HQ.out.trans qd
    have hK' := (Below.heap_setCell ((Wd.setCell ⟨w.heap.size + 1, 0, none⟩ (.int .i64 0)).setCell ⟨w.heap.size + 1, 1, none⟩ (.int .i64 0)) ⟨w.heap.size + 1, 2, none⟩ (.slice none 0 0) D hne).trans ((Below.heap_setCell (Wd.setCell ⟨w.heap.size + 1, 0, none⟩ (.int .i64 0)) ⟨w.heap.size + 1, 1, none⟩ (.int .i64 0) D hne).trans ((Below.heap_setCell Wd ⟨w.heap.size + 1, 0, none⟩ (.int .i64 0) D hne).trans HK.out))
    have BZ := Lib.hid (((BRZ.out.set 0 (.int .i64 0)).set 1 (.int .i64 0)).set 2 (.slice none 0 0))
    have QZ := Lib.hid (((QD.set (p := ⟨w.heap.size + 1, 0, none⟩) (by show w.heap.size ≤ w.heap.size + 1; omega) (.int .i64 0)).set (p := ⟨w.heap.size + 1, 1, none⟩) (by show w.heap.size ≤ w.heap.size + 1; omega) (.int .i64 0)).set (p := ⟨w.heap.size + 1, 2, none⟩) (by show w.heap.size ≤ w.heap.size + 1; omega) (.slice none 0 0))
    have HK' := Lib.hid hK'
    clear hbl hK hK' brz qd QD
    gi_wp2
    generalize (((Wd.setCell ⟨w.heap.size + 1, 0, none⟩ (.int .i64 0)).setCell ⟨w.heap.size + 1, 1, none⟩ (.int .i64 0)).setCell ⟨w.heap.size + 1, 2, none⟩ (.slice none 0 0)) = Wz at HK' BZ QZ ⊢
    have cc := (Blk.putObj BZ.out D (.deferred none) (fun e => hne e.symm)).cell
    clear bxc brc brf
    refine ⟨by simp, .inl ⟨_, _, rfl, run_takeDeferred HK'.out, ?_⟩⟩
    refine ⟨.agg #[.int .i64 0, .int .i64 0, .slice none 0 0], by simp [results, Try.results30, go_sem, cc], rfl, ?_⟩
    exact QZ.out.grown (grownBy_putObj' Wz D _) (fun k e => by cases e; omega)
  case stop =>
    rintro D c pre W _ _ h _
    exact h.elim

/-- the columns, the rows and the numbers of what DoubleSize returns -/
def doubP (W H : Int) (xs : List Int) : Int × Int × List Int := if picB W H xs = true ∧ sideOk (2 * W) ∧ sideOk (2 * H) then (2 * W, 2 * H, pixL (dblF W H xs) (2 * W).toNat (2 * H).toNat) else (0, 0, [])
theorem doubP_len (W H : Int) (xs : List Int) : (doubP W H xs).2.2.length ≤ 1024 := by
  unfold doubP
  split
  · rename_i h
    show (pixL _ _ _).length ≤ 1024
    rw [length_pixL]
    have h1 := h.2.1
    have h2 := h.2.2
    unfold sideOk at h1 h2
    have : (2 * H).toNat * (2 * W).toNat ≤ 32 * 32 := Nat.mul_le_mul (by omega) (by omega)
    omega
  · simp
theorem impl_DoubleSize (W H : Int) (A : Option Addr) (n c B : Nat) (xs : List Int) (w : World) (hx : Rd w B A xs) (hB : B ≤ w.heap.size) (hn : Hid (xs.length = n)) (hm : n ≤ 9223372036854775807) :
    Calls Try.prog 30 #[.agg #[.int .i64 W, .int .i64 H, .slice A n c]] w fun e w' => ∃ v, e = .returned (.agg #[.int .i64 (doubP W H xs).1, .int .i64 (doubP W H xs).2.1, v]) ∧ Own w' w.heap.size v (doubP W H xs).2.2.length (doubP W H xs).2.2 ∧ Q w w' := by
  by_cases h : picB W H xs = true ∧ sideOk (2 * W) ∧ sideOk (2 * H)
  · rw [doubP, if_pos h]
    obtain ⟨hp, h1, h2⟩ := h
    have e1 : 2 * W = ((2 * W).toNat : Int) := by unfold sideOk at h1; omega
    have e2 : 2 * H = ((2 * H).toNat : Int) := by unfold sideOk at h2; omega
    refine (callsIn_wide.1 (impl_Double_in 3 (by omega) W H (2 * W).toNat (2 * H).toNat A n c B xs w hx hB hn hp e1 e2 (by rw [Hid, ← e1]; exact h1) (by rw [Hid, ← e2]; exact h2))).mono ?_
    rintro e w' ⟨v, rfl, o, q⟩
    refine ⟨v, by rw [← e1, ← e2], ?_, q⟩
    show Own w' w.heap.size v (pixL (dblF W H xs) (2 * W).toNat (2 * H).toNat).length _
    rw [length_pixL]; exact o
  · rw [doubP, if_neg h]
    cases hp : picB W H xs
    · exact (impl_Double_no W H A n c B xs w hx hB hn hm hp).mono fun e w' ⟨he, hq⟩ => ⟨_, he, Own.nil _ _, hq⟩
    · have hs : Hid (¬ sideOk (2 * W) ∨ ¬ sideOk (2 * H)) := by
        unfold Hid
        by_cases h1 : sideOk (2 * W)
        · exact .inr fun h2 => h ⟨hp, h1, h2⟩
        · exact .inl h1
      exact (callsIn_wide.1 (impl_Double_zero 3 (by omega) W H A n c B xs w hx hB hn hp hs)).mono fun e w' ⟨he, hq⟩ => ⟨_, he, Own.nil _ _, hq⟩
end Go.Proofs.Ytoipcfpbkjanhaa

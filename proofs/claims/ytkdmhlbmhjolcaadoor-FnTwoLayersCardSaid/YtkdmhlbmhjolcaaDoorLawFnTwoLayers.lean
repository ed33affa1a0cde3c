/-
  FnTwoLayers: for every code of at most 1048576 bytes the law returns true: refinement improves; for longer codes the law asks nothing. Condition: the table of quantization steps reads as the program's text lays it (the card ties that).
-/
import Derived.Test.YtkdmhlbmhjolcaaDoorFrameD
import Derived.Test.YtkdmhlbmhjolcaaDoorDrawD
import Derived.Test.YtkdmhlbmhjolcaaDoorQStep
import Derived.Test.YtkdmhlbmhjolcaaDoorArr12
import Derived.Test.YtkdmhlbmhjolcaaDoorArrEq
import Derived.Test.YtkdmhlbmhjolcaaDoorAbs
import Derived.Test.YtkdmhlbmhjolcaaDoorPict
import Derived.Test.YtkdmhlbmhjolcaaDoorTie
import Derived.Test.YtkdmhlbmhjolcaaDoorCards
namespace Go.Proofs.YtkdmhlbmhjolcaaDoor
open Go.ChangeShapes Go.WideShapes Go.ChangeAt Go.RowKit

theorem two_zero {xs : List Int} {q f : Int} (h : twoOk xs q f = false) : lowL xs q f = List.replicate 16 0 ∧ highL xs q f = List.replicate 16 0 := by
  unfold lowL highL
  rw [h]
  exact ⟨rfl, rfl⟩
theorem inB_all {xs : List Int} (hx : xs.length = 16) (h : ∀ j, j < 16 → -255 ≤ xs[j]?.getD 0 ∧ xs[j]?.getD 0 ≤ 255) : inB xs 255 = true := by
  rw [← tab16 xs hx]
  exact inB_tab _ _ h
theorem absV_le {y m : Int} (h1 : 2 * y ≤ m) (h2 : -m ≤ 2 * y) : 2 * absV y ≤ m ∧ 0 ≤ absV y := by
  unfold absV
  split <;> omega
set_option maxRecDepth 100000 in
set_option maxHeartbeats 16000000 in
theorem walk_FnTwoLayers (w : World) (hT : Tb w) (v0 : Value) (x0 : Option Addr × Nat × List Int) (h0 : ArgBytes w v0 x0) :
    Calls Tryd.prog 9 #[v0] w fun e w' => e = .returned (.bool true) ∧ Q w w' := by
  have hv := h0.1; have hm := h0.2.2.1; unfold maxLen at hm; generalize hn : x0.2.2.length = nn at hv hm; have HN := Lib.hid hn; clear hn; by_cases hbig : 1048576 < nn; (subst hv; go_enter Tryd.func9, Tryd.ntmps9; go_wp2_with fail; go_ret; exact ⟨rfl, Q.refl _⟩); have H0 : ArgBytes w (.slice x0.1 nn x0.2.1) x0 := (by rw [hv] at h0; exact h0); subst hv; clear h0; go_enter Tryd.func9, Tryd.ntmps9; go_wp2_with fail
  refine (DrawTwoLayers _ _ _ H0).mono ?_; rintro e wv ⟨xs, q, f, rfl, hxl, hxb, ⟨k1, k2⟩, ⟨k3, k4⟩, QQ⟩
  have HT := Lib.hid (hT.q QQ)
  clear H0 hT
  have qa : Q wv (wv.alloc (.cells (arr (List.replicate 16 0)) 22)) := (by repeat (first | exact Q.refl _ | assumption | refine Q.drewN ?_ _ | refine Q.drew ?_ | refine Q.alloc ?_ _ | refine Q.trans ?_ (by assumption) | refine Q.set ?_ (by first | exact Nat.le_refl _ | omega | (simp; done) | (simp; omega)) _))
  have c0 := Bl.zero wv
  obtain ⟨wp, rfl⟩ : ∃ wp, wp = wv := ⟨_, rfl⟩
  have eg := eqg
  go_wp2_with (first | (first | refine wpList_load_arr rfl _ rfl _ rfl _ (by assumption) ?_ | refine wpList_load_arr_g (by rfl) _ rfl _ rfl _ (by assumption) ?_) | (refine wpList_store_arr rfl _ _ rfl _ rfl _ _ rfl (by first | assumption | rfl) (by assumption) ?_; intro w5 bx g5 s5))
  have qz := qa.grown g5 (fun k e => by have := Option.some.inj e; omega)
  replace QQ := QQ.trans qz
  replace HT := Lib.hid (HT.out.q qz)
  clear qz qa g5 s5 c0
  refine (impl_TwoLayers xs q f _ HT.out hxl).mono ?_; rintro e wv ⟨rfl, q1⟩
  (try replace bx := bx.q q1); (try replace bl := bl.q q1); (try replace bh := bh.q q1); replace QQ := QQ.trans q1; replace HT := Lib.hid (HT.out.q q1); clear q1
  have hll := lowL_len xs q f
  have hhl := highL_len xs q f
  obtain ⟨lo, hlo⟩ : ∃ lo, lowL xs q f = lo := ⟨_, rfl⟩
  obtain ⟨hi, hhi⟩ : ∃ hi, highL xs q f = hi := ⟨_, rfl⟩
  have HLO := Lib.hid hlo
  have HHI := Lib.hid hhi
  rw [hlo] at hll ⊢
  rw [hhi] at hhl ⊢
  clear hlo hhi
  have hwx := Lib.hid bx.lt
  obtain ⟨gx, hgx⟩ : ∃ gx, wp.heap.size = gx := ⟨_, rfl⟩
  rw [hgx] at bx hwx ⊢
  clear hgx
  obtain ⟨g1, HG1⟩ : ∃ g1, Hid (wv.heap.size = g1) := ⟨_, rfl⟩
  have qa : Q wv ((wv.alloc (.cells (arr (List.replicate 16 0)) 22)).alloc (.cells (arr (List.replicate 16 0)) 22)) := (by repeat (first | exact Q.refl _ | assumption | refine Q.drewN ?_ _ | refine Q.drew ?_ | refine Q.alloc ?_ _ | refine Q.trans ?_ (by assumption) | refine Q.set ?_ (by first | exact Nat.le_refl _ | omega | (simp; done) | (simp; omega)) _)); have c0 := (Bl.zero wv).alloc (.cells (arr (List.replicate 16 0)) 22); have c1 := Bl.zero (wv.alloc (.cells (arr (List.replicate 16 0)) 22)); rw [World.size_alloc] at c1
  replace bx := bx.q qa
  go_wp2_with (first | (first | refine wpList_load_arr rfl _ rfl _ rfl _ (by assumption) ?_ | refine wpList_load_arr_g (by rfl) _ rfl _ rfl _ (by assumption) ?_) | ((refine wpList_store_arr rfl _ _ rfl _ rfl _ _ rfl (by first | assumption | rfl) (by assumption) ?_; intro w7 bl g7 s7); replace c1 := c1.grown g7 (fun e => by have := Option.some.inj e; omega); replace bx := bx.grown g7 (fun e => by have := Option.some.inj e; have := hwx.out; omega)) | ((refine wpList_store_arr rfl _ _ rfl _ rfl _ _ rfl (by first | assumption | rfl) (by assumption) ?_; intro w8 bh g8 s8); replace bl := bl.grown g8 (fun e => by have := Option.some.inj e; omega); replace bx := bx.grown g8 (fun e => by have := Option.some.inj e; have := hwx.out; omega)))
  have qz := (qa.grown g7 (fun k e => by have := Option.some.inj e; omega)).grown g8 (fun k e => by have := Option.some.inj e; omega)
  have hg1x := hwx.out
  replace QQ := QQ.trans qz
  replace HT := Lib.hid (HT.out.q qz)
  have s78 : w8.heap.size = wv.heap.size + 2 := by rw [s8, s7]; simp
  clear qz qa g7 g8 s7 s8 c0 c1
  have hg1 := HG1.out
  rw [hg1] at bl bh s78 hg1x ⊢
  clear hg1 HG1 hwx
  refine (spec_TwoLayers xs q f _ hxl).mono ?_; rw [HLO.out, HHI.out]; rintro e wz ⟨rfl, q1⟩
  have hsz := q1.size
  rw [s78] at hsz
  (try replace bx := bx.q q1); (try replace bl := bl.q q1); (try replace bh := bh.q q1); replace QQ := QQ.trans q1; replace HT := Lib.hid (HT.out.q q1); clear q1
  clear s78
  obtain ⟨wv, rfl⟩ : ∃ wv, wv = wz := ⟨_, rfl⟩
  have bl' := bl
  have bh' := bh
  obtain ⟨g2, HG2⟩ : ∃ g2, Hid (wv.heap.size = g2) := ⟨_, rfl⟩
  rw [HG2.out] at hsz
  have qa : Q wv ((wv.alloc (.cells (arr (List.replicate 16 0)) 22)).alloc (.cells (arr (List.replicate 16 0)) 22)) := (by repeat (first | exact Q.refl _ | assumption | refine Q.drewN ?_ _ | refine Q.drew ?_ | refine Q.alloc ?_ _ | refine Q.trans ?_ (by assumption) | refine Q.set ?_ (by first | exact Nat.le_refl _ | omega | (simp; done) | (simp; omega)) _)); have c0 := (Bl.zero wv).alloc (.cells (arr (List.replicate 16 0)) 22); have c1 := Bl.zero (wv.alloc (.cells (arr (List.replicate 16 0)) 22)); rw [World.size_alloc] at c1
  have HSZ := Lib.hid (show g1 + 2 ≤ wv.heap.size by have := HG2.out; omega)
  have HSX := Lib.hid (show gx < wv.heap.size by have := HG2.out; omega)
  replace bl := bl.q qa
  replace bh := bh.q qa
  replace bx := bx.q qa
  have heL := eq_self lo hll
  have heH := eq_self hi hhl
  clear hsz hg1x
  go_wp2_with (first | (first | refine wpList_load_arr rfl _ rfl _ rfl _ (by assumption) ?_ | refine wpList_load_arr_g (by rfl) _ rfl _ rfl _ (by assumption) ?_) | ((refine wpList_store_arr rfl _ _ rfl _ rfl _ _ rfl (by first | assumption | rfl) (by assumption) ?_; intro w7 br g7 s7); replace c1 := c1.grown g7 (fun e => by have := Option.some.inj e; omega); replace bl := bl.grown g7 (fun e => by have := Option.some.inj e; have := HSZ.out; omega); replace bh := bh.grown g7 (fun e => by have := Option.some.inj e; have := HSZ.out; omega); replace bx := bx.grown g7 (fun e => by have := Option.some.inj e; have := HSX.out; omega)) | ((refine wpList_store_arr rfl _ _ rfl _ rfl _ _ rfl (by first | assumption | rfl) (by assumption) ?_; intro w8 bs g8 s8); replace br := br.grown g8 (fun e => by have := Option.some.inj e; omega); replace bl := bl.grown g8 (fun e => by have := Option.some.inj e; have := HSZ.out; omega); replace bh := bh.grown g8 (fun e => by have := Option.some.inj e; have := HSZ.out; omega); replace bx := bx.grown g8 (fun e => by have := Option.some.inj e; have := HSX.out; omega)))
  have qz := (qa.grown g7 (fun k e => by have := Option.some.inj e; omega)).grown g8 (fun k e => by have := Option.some.inj e; omega)
  replace QQ := QQ.trans qz
  replace HT := Lib.hid (HT.out.q qz)
  clear qz qa g7 g8 s7 s8 c0 c1 bl' bh'
  rw [HG2.out] at br bs ⊢
  clear HG2
  clear heL heH br bs
  obtain ⟨wv, rfl⟩ : ∃ w9, w9 = w8 := ⟨_, rfl⟩
  have HB := Lib.hid bx
  have HLB := Lib.hid bl
  have HHB := Lib.hid bh
  have HQ := Lib.hid QQ
  have HZ0 := Lib.hid (fun h => two_zero (xs := xs) (q := q) (f := f) h)
  rw [HLO.out, HHI.out] at HZ0
  clear bx bl bh QQ
  go_loop [10] (fun i => ∃ k : Nat, k ≤ 16 ∧ i = .int .i64 k ∧ Hid (∀ j, j < k → -255 ≤ xs[j]?.getD 0 ∧ xs[j]?.getD 0 ≤ 255)) (fun i => 16 - (intOf i).toNat)
  case atStart => exact ⟨0, by omega, rfl, fun j hj => by omega⟩
  case round =>
    obtain ⟨k, hk, rfl, hall⟩ := hrel
    by_cases hlt : k < 16
    · have hk16 : (k : Int) < 16 := by omega
      have c1 := HB.out.at k hlt
      have hbk := hxb k
      by_cases hy : -255 ≤ xs[k]?.getD 0 ∧ xs[k]?.getD 0 ≤ 255
      · have hnx := Lib.hid (show ∀ j, j < k + 1 → -255 ≤ xs[j]?.getD 0 ∧ xs[j]?.getD 0 ≤ 255 from fun j hj => by
          by_cases e : j = k
          · subst e; exact hy
          · exact hall.out j (by omega))
        have hav : 0 ≤ absV (xs[k]?.getD 0) ∧ absV (xs[k]?.getD 0) ≤ 255 := by unfold absV; split <;> omega
        have T := Lib.hid (fun w => abs_val (xs[k]?.getD 0) w (by omega) (by omega))
        generalize xs[k]?.getD 0 = y at c1 hav T
        generalize absV y = ay at hav T
        have hno : decide (255 < ay) = false := decide_eq_false (by omega)
        clear hall hy hbk hav
        go_wp2_with fail
        refine (T.out _).mono ?_; rintro e w' ⟨rfl, rfl⟩
        go_wp2_with fail
        go_round
        case rel => exact ⟨k + 1, by omega, by go_num, hnx⟩
        case measure => simp [intOf]; omega
      · have hnb : inB xs 255 = false := by
          cases hb : inB xs 255 with
          | false => rfl
          | true => exact absurd (inB_get hb k (by omega)) hy
        have hto : twoOk xs q f = false := by unfold twoOk; rw [hnb]; rfl
        obtain ⟨z1, z2⟩ := HZ0.out hto
        have hav : 255 < absV (xs[k]?.getD 0) := by unfold absV; split <;> omega
        have T := Lib.hid (fun w => abs_val (xs[k]?.getD 0) w (by omega) (by omega))
        generalize xs[k]?.getD 0 = y at c1 hav T
        generalize absV y = ay at hav T
        have hyes : decide (255 < ay) = true := decide_eq_true hav
        have heL : ∀ w, (Op.equalIn 10000 22 (.agg (arr lo)) (.agg #[.int .i64 0, .int .i64 0, .int .i64 0, .int .i64 0, .int .i64 0, .int .i64 0, .int .i64 0, .int .i64 0, .int .i64 0, .int .i64 0, .int .i64 0, .int .i64 0, .int .i64 0, .int .i64 0, .int .i64 0, .int .i64 0])).run Tryd.prog w = .ok true w := fun w => by rw [z1]; exact eq_self (List.replicate 16 0) rfl w
        have heH : ∀ w, (Op.equalIn 10000 22 (.agg (arr hi)) (.agg #[.int .i64 0, .int .i64 0, .int .i64 0, .int .i64 0, .int .i64 0, .int .i64 0, .int .i64 0, .int .i64 0, .int .i64 0, .int .i64 0, .int .i64 0, .int .i64 0, .int .i64 0, .int .i64 0, .int .i64 0, .int .i64 0])).run Tryd.prog w = .ok true w := fun w => by rw [z2]; exact eq_self (List.replicate 16 0) rfl w
        clear z1 z2
        have bl := HLB.out
        have bh := HHB.out
        clear hall hy hbk hav hto hnb HZ0 HLO HHI
        go_wp2_with fail
        refine (T.out _).mono ?_; rintro e w' ⟨rfl, rfl⟩
        go_wp2_with (first | refine wpList_load_arr rfl _ rfl _ rfl _ (by assumption) ?_ | refine wpList_load_arr_g (by rfl) _ rfl _ rfl _ (by assumption) ?_)
        refine (alive _).mono ?_; rintro e wy ⟨rfl, q5⟩
        have QZ := HQ.out.trans q5
        go_wp2_with fail
        go_ret
        exact ⟨rfl, QZ⟩
    · have hk16 : k = 16 := by omega
      subst hk16
      have hb : inB xs 255 = true := inB_all hxl hall.out
      have bl := HLB.out
      have bh := HHB.out
      clear hall
      cases hr : rB q f
      · have hto : twoOk xs q f = false := by unfold twoOk; rw [hr, Bool.and_false]
        obtain ⟨z1, z2⟩ := HZ0.out hto
        have heL : ∀ w, (Op.equalIn 10000 22 (.agg (arr lo)) (.agg #[.int .i64 0, .int .i64 0, .int .i64 0, .int .i64 0, .int .i64 0, .int .i64 0, .int .i64 0, .int .i64 0, .int .i64 0, .int .i64 0, .int .i64 0, .int .i64 0, .int .i64 0, .int .i64 0, .int .i64 0, .int .i64 0])).run Tryd.prog w = .ok true w := fun w => by rw [z1]; exact eq_self (List.replicate 16 0) rfl w
        have heH : ∀ w, (Op.equalIn 10000 22 (.agg (arr hi)) (.agg #[.int .i64 0, .int .i64 0, .int .i64 0, .int .i64 0, .int .i64 0, .int .i64 0, .int .i64 0, .int .i64 0, .int .i64 0, .int .i64 0, .int .i64 0, .int .i64 0, .int .i64 0, .int .i64 0, .int .i64 0, .int .i64 0])).run Tryd.prog w = .ok true w := fun w => by rw [z2]; exact eq_self (List.replicate 16 0) rfl w
        clear z1 z2
        have hno : q < 0 ∨ 15 < q ∨ q < f := by
          by_cases h1 : 0 ≤ q
          · by_cases h2 : q ≤ 15
            · by_cases h3 : f ≤ q
              · exfalso
                unfold rB qB at hr
                rw [decide_eq_true ⟨h1, h2⟩, decide_eq_true ⟨k3, h3⟩] at hr
                cases hr
              · omega
            · omega
          · omega
        clear hr hto HZ0 HLO HHI
        have h3 : decide (f < 0) = false := decide_eq_false (by omega)
        by_cases h1 : q < 0
        · go_wp2_with (first | refine wpList_load_arr rfl _ rfl _ rfl _ (by assumption) ?_ | refine wpList_load_arr_g (by rfl) _ rfl _ rfl _ (by assumption) ?_)
          refine (alive _).mono ?_; rintro e wy ⟨rfl, q5⟩
          have QZ := HQ.out.trans q5
          go_wp2_with fail
          go_ret
          exact ⟨rfl, QZ⟩
        · have h1' : decide (q < 0) = false := decide_eq_false h1
          by_cases h2 : 15 < q
          · go_wp2_with (first | refine wpList_load_arr rfl _ rfl _ rfl _ (by assumption) ?_ | refine wpList_load_arr_g (by rfl) _ rfl _ rfl _ (by assumption) ?_)
            refine (alive _).mono ?_; rintro e wy ⟨rfl, q5⟩
            have QZ := HQ.out.trans q5
            go_wp2_with fail
            go_ret
            exact ⟨rfl, QZ⟩
          · have h2' : decide (15 < q) = false := decide_eq_false h2
            have h4 : q < f := by omega
            go_wp2_with (first | refine wpList_load_arr rfl _ rfl _ rfl _ (by assumption) ?_ | refine wpList_load_arr_g (by rfl) _ rfl _ rfl _ (by assumption) ?_)
            refine (alive _).mono ?_; rintro e wy ⟨rfl, q5⟩
            have QZ := HQ.out.trans q5
            go_wp2_with fail
            go_ret
            exact ⟨rfl, QZ⟩
      · obtain ⟨r1, r2, r3, r4⟩ := rB_parts hr
        have HB2 := Lib.hid hb
        obtain ⟨n, rfl⟩ : ∃ n : Nat, q = (n : Int) := ⟨q.toNat, by omega⟩
        obtain ⟨m, rfl⟩ : ∃ m : Nat, f = (m : Int) := ⟨f.toNat, by omega⟩
        have n16 : n < 16 := by omega
        have m16 : m < 16 := by omega
        have hto : twoOk xs n m = true := by unfold twoOk; rw [hb, hr]; rfl
        have HLC := Lib.hid (low_code hto)
        rw [HLO.out] at HLC
        have hlok : ∀ k, k < 16 → lo[k]?.getD 0 = codeC xs (step n) k := fun k hk => by
          rw [← HLO.out]; unfold lowL; rw [hto]; exact tab_get _ _ _ hk
        have hhik : ∀ k, k < 16 → hi[k]?.getD 0 = fineC xs (step n) (step m) k := fun k hk => by
          rw [← HHI.out]; unfold highL; rw [hto]; exact tab_get _ _ _ hk
        have HLK := Lib.hid hlok
        have HHK := Lib.hid hhik
        have HCI := Lib.hid (fun k hk => codeC_in hb n k n16 hk)
        have HFI := Lib.hid (fun k hk => fineC_in hb n16 m16 k hk)
        have HHA := Lib.hid (fun k hk => hadF_in hb k hk)
        have HER := Lib.hid (fun k hk => errDD_le hb n16 m16 k hk)
        have HJT := Lib.hid (join_two hxl hb n16)
        have hfl := hadL_len xs
        have HHL := Lib.hid (show ∀ k, k < 16 → (hadL xs)[k]?.getD 0 = hadF xs k from fun k hk => by unfold hadL; rw [tab_get _ _ _ hk])
        have bx := HB.out
        clear hr hb hto hlok hhik HZ0 HLO HHI r1 r2 r3 k1 k2 k3 k4
        go_wp2_with (first | refine wpList_load_arr rfl _ rfl _ rfl _ (by assumption) ?_ | refine wpList_load_arr_g (by rfl) _ rfl _ rfl _ (by assumption) ?_)
        refine (ForwardTransform xs _ hxl HB2).mono ?_; rintro e wy ⟨rfl, q1⟩
        have bl := HLB.out.q q1
        have bh := HHB.out.q q1
        replace bx := bx.q q1
        have QQ := HQ.out.trans q1
        have HT := Lib.hid (HT.out.q q1)
        clear q1
        generalize hadL xs = hs at hfl HHL ⊢
        have hwl := bl.lt
        have hwh := bh.lt
        have hwx := bx.lt
        go_wp2_with (first | (first | refine wpList_load_arr rfl _ rfl _ rfl _ (by assumption) ?_ | refine wpList_load_arr_g (by rfl) _ rfl _ rfl _ (by assumption) ?_) | (refine wpList_new_arr rfl _ rfl rfl rfl _ _ rfl rfl _ rfl hfl ?_; intro w8 bc q8 s8))
        replace bl := bl.q q8
        replace bh := bh.q q8
        replace bx := bx.q q8
        replace QQ := QQ.trans q8
        replace HT := Lib.hid (HT.out.q q8)
        clear q8
        generalize wy.heap.size = gc at bc s8 hwl hwh hwx ⊢
        obtain ⟨wv, rfl⟩ : ∃ w9, w9 = w8 := ⟨_, rfl⟩
        have HB := Lib.hid bx
        have HLB := Lib.hid bl
        have HHB := Lib.hid bh
        have HCB := Lib.hid bc
        have HQ := Lib.hid QQ
        clear bx bl bh bc QQ
        go_loopw [12] (fun i wr => ∃ k : Nat, k ≤ 16 ∧ i = .int .i64 k ∧ Hid (Q wv wr)) (fun i _ => 16 - (intOf i).toNat)
        case atStart => exact ⟨0, by omega, rfl, Q.refl _⟩
        case round =>
          obtain ⟨k, hk, rfl, hq⟩ := hrel
          by_cases hlt : k < 16
          · have hk16 : (k : Int) < 16 := by omega
            have c1 := (HCB.out.q hq.out).at k hlt
            have c2 := (HLB.out.q hq.out).at k hlt
            have c3 := (HHB.out.q hq.out).at k hlt
            rw [HHL.out k hlt] at c1
            rw [HLK.out k hlt] at c2
            rw [HHK.out k hlt] at c3
            obtain ⟨a1, a2⟩ := HHA.out k hlt
            obtain ⟨l1, l2⟩ := HCI.out k hlt
            obtain ⟨h1, h2⟩ := HFI.out k hlt
            obtain ⟨⟨e1, e2⟩, ⟨e3, e4⟩⟩ := HER.out k hlt
            have T1 := Lib.hid (fun w hT => impl_Dequantize (codeC xs (step n) k) (n : Int) n w hT rfl n16 l1 l2)
            have T2 := Lib.hid (fun w hT => impl_Dequantize (fineC xs (step n) (step m) k) (m : Int) m w hT rfl m16 h1 h2)
            obtain ⟨d1, d2⟩ := deqV_in (codeC xs (step n) k) (step n)
            obtain ⟨d3, d4⟩ := deqV_in (fineC xs (step n) (step m) k) (step m)
            have T3 := Lib.hid (fun w hT => impl_QuantStep (n : Int) n w hT rfl n16)
            have T4 := Lib.hid (fun w hT => impl_QuantStep (m : Int) m w hT rfl m16)
            have sn := step_in n n16
            have sm := step_in m m16
            generalize hadF xs k = c at c1 a1 a2 e1 e2 e3 e4
            generalize codeC xs (step n) k = lk at c2 l1 l2 e1 e2 e3 e4 T1 d1 d2
            generalize fineC xs (step n) (step m) k = hk' at c3 h1 h2 e3 e4 T2 d3 d4
            generalize deqV lk (step n) = dl at e1 e2 e3 e4 T1 d1 d2
            generalize deqV hk' (step m) = dh at e3 e4 T2 d3 d4
            generalize step n = ss at e1 e2 T3 sn
            generalize step m = tt at e3 e4 T4 sm
            obtain ⟨r, hr⟩ : ∃ r, c - dl = r := ⟨_, rfl⟩
            rw [hr] at e1 e2 e3 e4
            obtain ⟨z, hz⟩ : ∃ z, r - dh = z := ⟨_, rfl⟩
            rw [hz] at e3 e4
            have ar := absV_le e1 e2
            have az := absV_le e3 e4
            have T5 := Lib.hid (fun w => abs_val r w (by omega) (by omega))
            have T6 := Lib.hid (fun w => abs_val z w (by omega) (by omega))
            generalize absV r = rr at ar T5
            generalize absV z = zz at az T6
            have w1 : IntKind.i64.wrap (c - dl) = r := by rw [hr]; exact IntWalk.i64_in _ ⟨by omega, by omega⟩
            have w2 : wrap64 (c - dl) = r := by rw [← IntWalk.i64_left, w1]
            have w3 : IntKind.i64.wrap (r - dh) = z := by rw [hz]; exact IntWalk.i64_in _ ⟨by omega, by omega⟩
            have w4 : wrap64 (r - dh) = z := by rw [← IntWalk.i64_left, w3]
            have w5 : IntKind.i64.wrap (2 * rr) = 2 * rr := IntWalk.i64_in _ ⟨by omega, by omega⟩
            have w6 : IntKind.i64.wrap (2 * zz) = 2 * zz := IntWalk.i64_in _ ⟨by omega, by omega⟩
            have t1 : decide (ss < 2 * rr) = false := decide_eq_false (by omega)
            have t2 : decide (tt < 2 * zz) = false := decide_eq_false (by omega)
            have HQZ := Lib.hid hq.out
            clear hq hr hz ar az e1 e2 e3 e4 a1 a2 l1 l2 h1 h2 d1 d2 d3 d4 sn sm
            go_wp2_with fail
            refine wp_region_x (fun ww => Q wr ww ∧ ww.cell? ⟨gc, k, none⟩ = some (.int .i64 c) ∧ ww.cell? ⟨g1, k, none⟩ = some (.int .i64 lk)) (fun _ => false) (by kernel_rfl) ⟨(Q.refl _).drew, c1, c2⟩ (fun hS => ?_)
            refine wpAnyX_take (i := 0) (v := ?vv1) rfl (by kernel_rfl) (by kernel_rfl) (by kernel_rfl) (by kernel_rfl) (fun _ _ _ h => h) (Or.inl ⟨by rfl, ?hy1⟩) hS ?rest1
            case hy1 => (intro ww hSw; (try dsimp only at hSw); go_split_ands; go_simp; try with_reducible rfl)
            try simp only [Act.put, List.setIfInBounds_toArray, List.set_cons_zero, List.set_cons_succ]
            refine wpAnyX_take (i := 1) (v := ?vv2) rfl (by kernel_rfl) (by kernel_rfl) (by kernel_rfl) (by kernel_rfl) (fun _ _ _ h => h) (Or.inl ⟨by rfl, ?hy2⟩) hS ?rest2
            case hy2 => (intro ww hSw; (try dsimp only at hSw); go_split_ands; go_simp; try with_reducible rfl)
            try simp only [Act.put, List.setIfInBounds_toArray, List.set_cons_zero, List.set_cons_succ]
            refine wpAnyX_take (i := 2) (v := ?vv3) rfl (by kernel_rfl) (by kernel_rfl) (by kernel_rfl) (by kernel_rfl) (fun _ _ _ h => h) (Or.inl ⟨by rfl, ?hy3⟩) hS ?rest3
            case hy3 => (intro ww hSw; (try dsimp only at hSw); go_split_ands; go_simp; try with_reducible rfl)
            try simp only [Act.put, List.setIfInBounds_toArray, List.set_cons_zero, List.set_cons_succ]
            refine wpAnyX_take (i := 3) (v := ?vv4) rfl (by kernel_rfl) (by kernel_rfl) (by kernel_rfl) (by kernel_rfl) (fun _ _ _ h => h) (Or.inl ⟨by rfl, ?hy4⟩) hS ?rest4
            case hy4 => (intro ww hSw; (try dsimp only at hSw); go_split_ands; go_simp; try with_reducible rfl)
            try simp only [Act.put, List.setIfInBounds_toArray, List.set_cons_zero, List.set_cons_succ]
            refine wpAnyX_take (i := 4) (v := ?vv5) rfl (by kernel_rfl) (by kernel_rfl) (by kernel_rfl) (by kernel_rfl) (fun _ _ _ h => h) (Or.inl ⟨by rfl, ?hy5⟩) hS ?rest5
            case hy5 => (intro ww hSw; (try dsimp only at hSw); go_split_ands; go_simp; try with_reducible rfl)
            try simp only [Act.put, List.setIfInBounds_toArray, List.set_cons_zero, List.set_cons_succ]
            refine wpAnyX_take (i := 5) (v := ?vv6) rfl (by kernel_rfl) (by kernel_rfl) (by kernel_rfl) (by kernel_rfl) (fun _ _ _ h => h) (Or.inl ⟨by rfl, ?hy6⟩) hS ?rest6
            case hy6 => (intro ww hSw; (try dsimp only at hSw); go_split_ands; go_simp; try with_reducible rfl)
            try simp only [Act.put, List.setIfInBounds_toArray, List.set_cons_zero, List.set_cons_succ]
            refine wpAnyX_take (i := 6) (v := ?vv7) rfl (by kernel_rfl) (by kernel_rfl) (by kernel_rfl) (by kernel_rfl) (fun _ _ _ h => h) (Or.inl ⟨by rfl, ?hy7⟩) hS ?rest7
            case hy7 => (intro ww hSw; (try dsimp only at hSw); go_split_ands; go_simp; try with_reducible rfl)
            try simp only [Act.put, List.setIfInBounds_toArray, List.set_cons_zero, List.set_cons_succ]
            refine wpAnyX_step (k := 7) (by kernel_rfl) rfl rfl (fun K2 hK2 => ?_); go_simp
            refine (T1.out _ (HT.out.q (HQZ.out.trans hS.1))).mono ?_; rintro e w' ⟨rfl, q4⟩
            have q5 := hS.1.trans q4
            have hlq := HQZ.out.size
            refine hK2.out _ _ ⟨q5, (q5.cell _ _ (by have := (HCB.out).lt; omega)).trans c1, (q5.cell _ _ (by have := (HLB.out).lt; omega)).trans c2⟩ (fun hS => ?_)
            clear hK2 K2; (try simp only [Act.put, List.setIfInBounds_toArray, List.set_cons_zero, List.set_cons_succ])
            refine wpAnyX_take (i := 8) (v := ?vv8) rfl (by kernel_rfl) (by kernel_rfl) (by kernel_rfl) (by kernel_rfl) (fun _ _ _ h => h) (Or.inl ⟨by rfl, ?hy8⟩) hS ?rest8
            case hy8 => (intro ww hSw; (try dsimp only at hSw); go_split_ands; go_simp; try with_reducible rfl)
            try simp only [Act.put, List.setIfInBounds_toArray, List.set_cons_zero, List.set_cons_succ]
            refine wpAnyX_take (i := 9) (v := ?vv9) rfl (by kernel_rfl) (by kernel_rfl) (by kernel_rfl) (by kernel_rfl) (fun _ _ _ h => h) (Or.inl ⟨by rfl, ?hy9⟩) hS ?rest9
            case hy9 => (intro ww hSw; (try dsimp only at hSw); go_split_ands; go_simp; try with_reducible rfl)
            try simp only [Act.put, List.setIfInBounds_toArray, List.set_cons_zero, List.set_cons_succ]
            refine wpAnyX_done (by kernel_rfl) ?_ _
            have HQ4 := Lib.hid (HQZ.out.trans q5)
            have c3 := (q5.cell _ _ (by have := (HHB.out).lt; omega)).trans c3
            clear q4 q5 c1 c2 hS hlq
            go_wp2_with fail
            refine (T2.out _ (HT.out.q HQ4.out)).mono ?_; rintro e wa ⟨rfl, q4⟩
            have HQ5 := Lib.hid (HQ4.out.trans q4)
            clear q4 c3
            go_wp2_with fail
            refine (T5.out _).mono ?_; rintro e w' ⟨rfl, rfl⟩
            go_wp2_with fail
            refine (T3.out _ (HT.out.q HQ5.out)).mono ?_; rintro e wb ⟨rfl, q4⟩
            have HQ6 := Lib.hid (HQ5.out.trans q4)
            clear q4
            go_wp2_with fail
            refine (T6.out _).mono ?_; rintro e w' ⟨rfl, rfl⟩
            go_wp2_with fail
            refine (T4.out _ (HT.out.q HQ6.out)).mono ?_; rintro e wc ⟨rfl, q4⟩
            have HQ7 := Lib.hid (HQ6.out.trans q4)
            clear q4
            go_wp2_with fail
            go_roundw
            case rel => exact ⟨k + 1, by omega, by go_num, HQ7.out⟩
            case measure => simp [intOf]; omega
          · have hk16 : k = 16 := by omega
            subst hk16
            have bx := HB.out.q hq.out
            have bl := HLB.out.q hq.out
            have QQ := HQ.out.trans hq.out
            have HT2 := Lib.hid (HT.out.q hq.out)
            clear hq
            go_wp2_with (first | refine wpList_load_arr rfl _ rfl _ rfl _ (by assumption) ?_ | refine wpList_load_arr_g (by rfl) _ rfl _ rfl _ (by assumption) ?_)
            refine (impl_TwoLayers xs n 0 _ HT2.out hxl).mono ?_; rintro e wb ⟨rfl, q1⟩
            replace bl := bl.q q1
            replace bx := bx.q q1
            replace QQ := QQ.trans q1
            have HT3 := Lib.hid (HT2.out.q q1)
            clear q1
            have hal := lowL_len xs n 0
            have hml := highL_len xs n 0
            obtain ⟨al, hal'⟩ : ∃ al, lowL xs n 0 = al := ⟨_, rfl⟩
            obtain ⟨mo, hmo'⟩ : ∃ mo, highL xs n 0 = mo := ⟨_, rfl⟩
            rw [hal', hmo'] at HJT
            rw [hal'] at hal ⊢
            rw [hmo'] at hml ⊢
            clear hal' hmo'
            have hltx := bx.lt
            have hltl := bl.lt
            obtain ⟨wv, rfl⟩ : ∃ w9, w9 = wb := ⟨_, rfl⟩
            obtain ⟨g3, HG3⟩ : ∃ g3, Hid (wv.heap.size = g3) := ⟨_, rfl⟩
            have qa : Q wv ((wv.alloc (.cells (arr (List.replicate 16 0)) 22)).alloc (.cells (arr (List.replicate 16 0)) 22)) := (by repeat (first | exact Q.refl _ | assumption | refine Q.drewN ?_ _ | refine Q.drew ?_ | refine Q.alloc ?_ _ | refine Q.trans ?_ (by assumption) | refine Q.set ?_ (by first | exact Nat.le_refl _ | omega | (simp; done) | (simp; omega)) _)); have c0 := (Bl.zero wv).alloc (.cells (arr (List.replicate 16 0)) 22); have c1 := Bl.zero (wv.alloc (.cells (arr (List.replicate 16 0)) 22)); rw [World.size_alloc] at c1
            go_wp2_with (first | ((refine wpList_store_arr rfl _ _ rfl _ rfl _ _ rfl (by first | assumption | rfl) (by assumption) ?_; intro w7 ba g7 s7); replace c1 := c1.grown g7 (fun e => by have := Option.some.inj e; omega)) | ((refine wpList_store_arr rfl _ _ rfl _ rfl _ _ rfl (by first | assumption | rfl) (by assumption) ?_; intro w8 bm g8 s8); replace ba := ba.grown g8 (fun e => by have := Option.some.inj e; omega)))
            have qz := (qa.grown g7 (fun k e => by have := Option.some.inj e; omega)).grown g8 (fun k e => by have := Option.some.inj e; omega)
            replace bx := bx.q qz
            replace bl := bl.q qz
            replace QQ := QQ.trans qz
            have HT4 := Lib.hid (HT3.out.q qz)
            clear qz qa g7 g8 s7 s8 c0 c1
            rw [HG3.out] at ba bm hltx hltl ⊢
            clear HG3
            obtain ⟨wv, rfl⟩ : ∃ w9, w9 = w8 := ⟨_, rfl⟩
            refine wp_region_x (fun ww => Q wv ww ∧ Bl ww g3 al ∧ Bl ww (g3 + 1) mo ∧ Bl ww gx xs ∧ Bl ww g1 lo) (fun _ => false) (by kernel_rfl) ⟨(Q.refl _).drew, ba.drew, bm.drew, bx.drew, bl.drew⟩ (fun hS => ?_)
            refine wpAnyX_take (i := 0) (v := .agg (arr ?xv15)) rfl (by kernel_rfl) (by kernel_rfl) (by kernel_rfl) (by kernel_rfl) (fun _ _ _ h => h) (yieldsIf_load_arr (by rfl) _ rfl _ rfl _ (fun ww hSw => ?hz15)) hS ?rest15
            case hz15 => ((try dsimp only at hSw); go_split_ands; assumption)
            try simp only [Act.put, List.setIfInBounds_toArray, List.set_cons_zero, List.set_cons_succ]
            refine wpAnyX_take (i := 1) (v := .agg (arr ?xv16)) rfl (by kernel_rfl) (by kernel_rfl) (by kernel_rfl) (by kernel_rfl) (fun _ _ _ h => h) (yieldsIf_load_arr (by rfl) _ rfl _ rfl _ (fun ww hSw => ?hz16)) hS ?rest16
            case hz16 => ((try dsimp only at hSw); go_split_ands; assumption)
            try simp only [Act.put, List.setIfInBounds_toArray, List.set_cons_zero, List.set_cons_succ]
            refine wpAnyX_take (i := 4) (v := .agg (arr ?xv17)) rfl (by kernel_rfl) (by kernel_rfl) (by kernel_rfl) (by kernel_rfl) (fun _ _ _ h => h) (yieldsIf_load_arr (by rfl) _ rfl _ rfl _ (fun ww hSw => ?hz17)) hS ?rest17
            case hz17 => ((try dsimp only at hSw); go_split_ands; assumption)
            try simp only [Act.put, List.setIfInBounds_toArray, List.set_cons_zero, List.set_cons_succ]
            refine wpAnyX_take (i := 2) (v := ?vv10) rfl (by kernel_rfl) (by kernel_rfl) (by kernel_rfl) (by kernel_rfl) (fun _ _ _ h => h) (Or.inl ⟨by rfl, ?hy10⟩) hS ?rest10
            case hy10 => (intro ww hSw; (try dsimp only at hSw); go_split_ands; go_simp; try with_reducible rfl)
            try simp only [Act.put, List.setIfInBounds_toArray, List.set_cons_zero, List.set_cons_succ]
            refine wpAnyX_step (k := 3) (by kernel_rfl) rfl rfl (fun K2 hK2 => ?_); go_simp
            refine (impl_JoinLayers al mo n 0 _ (HT4.out.q hS.1) hal hml).mono ?_; rw [HJT.out]; rintro e wc ⟨rfl, q3⟩
            have q4 := hS.1.trans q3
            refine hK2.out _ _ ⟨q4, ba.q q4, bm.q q4, bx.q q4, bl.q q4⟩ (fun hS => ?_)
            clear hK2 K2; (try simp only [Act.put, List.setIfInBounds_toArray, List.set_cons_zero, List.set_cons_succ])
            have he := eq_self xs hxl
            have eg := eqg
            refine wpAnyX_step (k := 5) (by kernel_rfl) rfl rfl (fun K2 hK2 => ?_); go_simp
            refine hK2.out _ _ hS (fun hS => ?_)
            clear hK2 K2; (try simp only [Act.put, List.setIfInBounds_toArray, List.set_cons_zero, List.set_cons_succ])
            clear he
            refine wpAnyX_take (i := 6) (v := ?vv11) rfl (by kernel_rfl) (by kernel_rfl) (by kernel_rfl) (by kernel_rfl) (fun _ _ _ h => h) (Or.inl ⟨by rfl, ?hy11⟩) hS ?rest11
            case hy11 => (intro ww hSw; (try dsimp only at hSw); go_split_ands; go_simp; try with_reducible rfl)
            try simp only [Act.put, List.setIfInBounds_toArray, List.set_cons_zero, List.set_cons_succ]
            refine wpAnyX_take (i := 7) (v := .agg (arr ?xv18)) rfl (by kernel_rfl) (by kernel_rfl) (by kernel_rfl) (by kernel_rfl) (fun _ _ _ h => h) (yieldsIf_load_arr (by rfl) _ rfl _ rfl _ (fun ww hSw => ?hz18)) hS ?rest18
            case hz18 => ((try dsimp only at hSw); go_split_ands; assumption)
            try simp only [Act.put, List.setIfInBounds_toArray, List.set_cons_zero, List.set_cons_succ]
            refine wpAnyX_take (i := 8) (v := .agg (arr ?xv19)) rfl (by kernel_rfl) (by kernel_rfl) (by kernel_rfl) (by kernel_rfl) (fun _ _ _ h => h) (yieldsIf_load_arr (by rfl) _ rfl _ rfl _ (fun ww hSw => ?hz19)) hS ?rest19
            case hz19 => ((try dsimp only at hSw); go_split_ands; assumption)
            try simp only [Act.put, List.setIfInBounds_toArray, List.set_cons_zero, List.set_cons_succ]
            refine wpAnyX_take (i := 9) (v := ?vv12) rfl (by kernel_rfl) (by kernel_rfl) (by kernel_rfl) (by kernel_rfl) (fun _ _ _ h => h) (Or.inl ⟨by rfl, ?hy12⟩) hS ?rest12
            case hy12 => (intro ww hSw; (try dsimp only at hSw); go_split_ands; go_simp; try with_reducible rfl)
            try simp only [Act.put, List.setIfInBounds_toArray, List.set_cons_zero, List.set_cons_succ]
            refine wpAnyX_step (k := 10) (by kernel_rfl) rfl rfl (fun K2 hK2 => ?_); go_simp
            refine (impl_CodeBlock xs n _ (HT4.out.q hS.1) hxl).mono ?_; rw [← HLC.out]; rintro e wd ⟨rfl, q5⟩
            have q6 := hS.1.trans q5
            refine hK2.out _ _ ⟨q6, ba.q q6, bm.q q6, bx.q q6, bl.q q6⟩ (fun hS => ?_)
            clear hK2 K2; (try simp only [Act.put, List.setIfInBounds_toArray, List.set_cons_zero, List.set_cons_succ])
            have he := eq_self lo hll
            refine wpAnyX_step (k := 11) (by kernel_rfl) rfl rfl (fun K2 hK2 => ?_); go_simp
            refine hK2.out _ _ hS (fun hS => ?_)
            clear hK2 K2; (try simp only [Act.put, List.setIfInBounds_toArray, List.set_cons_zero, List.set_cons_succ])
            refine wpAnyX_take (i := 12) (v := ?vv13) rfl (by kernel_rfl) (by kernel_rfl) (by kernel_rfl) (by kernel_rfl) (fun _ _ _ h => h) (Or.inl ⟨by rfl, ?hy13⟩) hS ?rest13
            case hy13 => (intro ww hSw; (try dsimp only at hSw); go_split_ands; go_simp; try with_reducible rfl)
            try simp only [Act.put, List.setIfInBounds_toArray, List.set_cons_zero, List.set_cons_succ]
            refine wpAnyX_take (i := 13) (v := ?vv14) rfl (by kernel_rfl) (by kernel_rfl) (by kernel_rfl) (by kernel_rfl) (fun _ _ _ h => h) (Or.inl ⟨by rfl, ?hy14⟩) hS ?rest14
            case hy14 => (intro ww hSw; (try dsimp only at hSw); go_split_ands; go_simp; try with_reducible rfl)
            try simp only [Act.put, List.setIfInBounds_toArray, List.set_cons_zero, List.set_cons_succ]
            refine wpAnyX_done (by kernel_rfl) ?_ _
            have QZ := QQ.trans q6
            clear hS
            go_wp2_with fail
            go_ret
            exact ⟨rfl, QZ⟩
set_option maxRecDepth 100000 in
theorem lifted_FnTwoLayers (os : Os) (started : os.Started) (H : Type) (enc : TypeId × Value → H) :
    ReturnsInHanded {} Tryd.checked os 9 .any (fun w args => (Rows.fnTwoLayersSpec.pre enc Tryd.prog Tryd.f9 [] false w args ∧ laidMetH Tryd.prog laidQ w) ∧ sizedMet enc Tryd.prog Tryd.f9 (OpenSpec.ofChange Rows.fnTwoLayersSpec) false w args) (Rows.fnTwoLayersSpec.post enc Tryd.prog Tryd.f9 false true false false) := by
  refine returnsInHanded_of_change_and (C := Tryd.checked) (X := fun w _ => laidMetH Tryd.prog laidQ w) (fun _ _ _ hh h => h.of_heap hh) own_knob started (by kernel_rfl) Tryd.func9
    (ChangeSpec.witness_shaped (enc := enc) (C := Tryd.checked) (os := os) (X := fun w _ => laidMetH Tryd.prog laidQ w) false (World.doorLaid Tryd.prog 400 os) #[.slice none 0 0] 8 rfl (World.shaped_of_RefB (by kernel_rfl) (by kernel_rfl)) (by kernel_rfl) (by kernel_rfl) (by kernel_rfl) (door_met os _)) ?_
  intro W base args ds gs before hval0 hW _ _ hL _
  have hval : ∀ (j : Nat) t v, Tryd.f9.params[j]? = some t → args[j]? = some v → Value.okWide Tryd.prog W .any base t v := hval0
  have hW' := hW
  obtain ⟨p, q, hA0, hV0, rfl, hfz, hnd⟩ := hW
  have hA : DataW.TrodAll enc Tryd.prog W 0 (fun _ => true) true Tryd.f9.params.toList args.toList ds p := hA0
  have hV : DataW.TrodVars enc Tryd.prog W (fun _ => true) [quantName] gs q := hV0
  rw [Tryd.params9] at hA hval
  obtain ⟨v0, vs0, d0, ds0, p0, q0, hargs, rfl, rfl, h0, r0⟩ := trodAll_cons hA
  obtain ⟨rfl, rfl, rfl⟩ := trodAll_nil r0
  obtain rfl : args = #[v0] := by cases args; simp_all
  have hVB : ∀ W2, Below W.heap.size W W2 → DataW.TrodVars enc Tryd.prog W2 (fun b => decide (b < W.heap.size)) [quantName] gs q := fun W2 hb => Below.trodVars laid_out hb (by kernel_rfl) hV
  obtain ⟨gv, tv, csv, fuelv, dv, pv, rfl, _, _, _, _, _⟩ := trodVars_one hV
  have k0 := h0
  have lt0 : ∀ x ∈ p0, x.block < W.heap.size := by obtain ⟨m, hm⟩ := k0; exact DataW.trod_lt m _ _ _ hm
  obtain ⟨x0, o0⟩ := open_bytes (hval 0 32 v0 rfl rfl) h0
  clear hA0 hval0 hV0
  refine (walk_FnTwoLayers W (tb_of_laid hL) v0 x0 o0).mono fun e W' ⟨he, bel⟩ => ?_
  subst he
  exact ⟨_, rfl, _, _, _, [], _, _, hW', trodAll_mk1 (shut_bool Tryd.underlying4 _), (trodAll_cons_mk (Below.trod laid_out (by kernel_rfl) (of_decide_eq_true (by kernel_rfl)) k0 bel lt0) trodAll_mk0), hVB _ bel, bel.frame _, fun h => by cases h⟩

theorem FnTwoLayers_row : Rows.FnTwoLayersSaid :=
  OpenClaim.holds_of_wide 9 Tryd.f9 rfl rfl rfl rfl rfl rfl rfl ⟨rfl, rfl, rfl, rfl, rfl⟩ rfl rfl rfl rfl rfl (by kernel_rfl) Tryd.func9 (by kernel_rfl)
    (of_decide_eq_true (by kernel_rfl)) (by unfold Func.isWrapper; first | (rw [if_pos (by decide +kernel)]; kernel_rfl) | (rw [if_neg (by decide +kernel)]; exact ⟨rfl, rfl⟩))
    (fun os started H enc _ => lifted_FnTwoLayers os started H enc)

/-- The statement. -/
theorem FnTwoLayers_holds : Rows.FnTwoLayersCardSaid :=
  Claim7.holds_tied_plain_at .later [] [.data] true (true, "0fd288b46d60ce385de9de263cac55858d689a7fd72835178befc519f3b9e924") false FnTwoLayers_row (fun _ h => by cases h) (by kernel_rfl) (fun _ h => by cases h) fnTwoLayers_row_tie rfl ⟨rfl, rfl⟩ (by kernel_rfl) rfl
    (fun f fn hf hfn => by
      obtain rfl : f = 9 := Option.some.inj ((show Tryd.prog.funcNamed "loop.example/videocodec/laws.FnTwoLayers" = some 9 by kernel_rfl).symm.trans hf) |>.symm
      obtain rfl : fn = Tryd.f9 := (Option.some.inj (Tryd.func9.symm.trans hfn)).symm
      exact ⟨by kernel_rfl, fun j t ht => by
        rw [Tryd.params9] at ht
        have hm : t ∈ [32] := by simpa using Array.mem_of_getElem? ht
        have hall : ([32].all fun u => !Tryd.prog.wantsStandIn u) = true := by kernel_rfl
        exact (show Tryd.prog.wantsStandIn t = false by simpa using List.all_eq_true.1 hall t hm)⟩)
    (by kernel_rfl)
#print axioms FnTwoLayers_holds
end Go.Proofs.YtkdmhlbmhjolcaaDoor

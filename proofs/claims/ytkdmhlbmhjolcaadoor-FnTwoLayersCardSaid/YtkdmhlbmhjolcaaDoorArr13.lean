/-
  CodeBlock, of the program and of the reference.
-/
import Derived.Test.YtkdmhlbmhjolcaaDoorArr11
namespace Go.Proofs.YtkdmhlbmhjolcaaDoor
open Go.RowKit

def codeC (xs : List Int) (s : Int) (k : Nat) : Int := quantV (hadF xs k) s
def codeL (xs : List Int) (q : Int) : List Int := if (inB xs 255 && qB q) = true then tab (codeC xs (step q.toNat)) 16 else zeros
theorem codeL_len (xs : List Int) (q : Int) : (codeL xs q).length = 16 := by
  unfold codeL
  split
  · exact length_tab _ _
  · rfl
theorem codeC_in {xs : List Int} (h : inB xs 255 = true) (n k : Nat) (hn : n < 16) (hk : k < 16) : -4080 ≤ codeC xs (step n) k ∧ codeC xs (step n) k ≤ 4080 := by
  obtain ⟨a, b⟩ := hadF_in h k hk
  exact quant_in a b (step_in n hn).1
set_option maxRecDepth 100000 in
set_option maxHeartbeats 2000000 in
theorem impl_CodeBlock (xs : List Int) (q : Int) (w : World) (hT : Tb w) (hx : xs.length = 16) :
    Calls Tryd.prog 19 #[.agg (arr xs), .int .i64 q] w fun e w' => e = .returned (.agg (arr (codeL xs q))) ∧ Q w w' := by
  have s1 := arr_size xs; rw [hx] at s1
  have QQ : Q w ((w.alloc (.cells (arr xs) 22)).alloc (.cells (arr (List.replicate 16 0)) 22)) := (by repeat (first | exact Q.refl _ | assumption | refine Q.drewN ?_ _ | refine Q.drew ?_ | refine Q.alloc ?_ _ | refine Q.trans ?_ (by assumption) | refine Q.set ?_ (by first | exact Nat.le_refl _ | omega | (simp; done) | (simp; omega)) _))
  have ba := (Bl.new w xs hx).alloc (.cells (arr (List.replicate 16 0)) 22)
  have bc := Bl.zero (w.alloc (.cells (arr xs) 22))
  simp only [World.size_alloc] at bc
  have HT := Lib.hid (hT.q QQ)
  have hz : zeros.length = 16 := rfl
  have hw0 : w.heap.size ≠ 0 := by have := hT.pos; omega
  clear hT
  cases hr : qB q
  · have HV : Hid (codeL xs q = zeros) := by unfold Hid codeL; rw [hr, Bool.and_false]; rfl
    have HR : Hid (decide (0 ≤ q ∧ q ≤ 15) = false) := hr
    rw [HV.out]
    clear hr
    go_enter Tryd.func19, Tryd.ntmps19
    go_wp2_with (first | refine wpList_load_arr rfl _ rfl _ rfl _ (by assumption) ?_ | refine wpList_load_arr_g (by rfl) _ rfl _ rfl _ (by assumption) ?_)
    refine (qualityValid _ _ _ HR).mono ?_; rintro e w' ⟨rfl, rfl⟩
    (go_wp2_with (first | (first | refine wpList_load_arr rfl _ rfl _ rfl _ (by assumption) ?_ | refine wpList_load_arr_g (by rfl) _ rfl _ rfl _ (by assumption) ?_) | (refine wpList_store_arr rfl _ _ rfl _ rfl _ _ rfl (by first | assumption | rfl) (by assumption) ?_; intro w9 b9 g9 s9) | (refine wpList_store_arr rfl _ _ rfl _ rfl _ (List.replicate 16 0) rfl rfl (by assumption) ?_; intro w9 b9 g9 s9)); refine bodyPost_ret (v := .agg (arr _)) (results_cell_row (by rfl) _ _ _ _ _ _ _ (by rfl) (Bl.blk b9) Tryd.underlying22 rfl (by rw [arr_size, hz]; exact info_arr)) rfl ⟨rfl, QQ.grown g9 (fun k e => by have := Option.some.inj e; omega)⟩)
  · have HR : Hid (decide (0 ≤ q ∧ q ≤ 15) = true) := hr
    have hqb : 0 ≤ q ∧ q ≤ 15 := of_decide_eq_true hr
    cases hb : inB xs 255
    · have HV : Hid (codeL xs q = zeros) := by unfold Hid codeL; rw [hb]; rfl
      have HB := Lib.hid hb
      rw [HV.out]
      clear hr hb
      go_enter Tryd.func19, Tryd.ntmps19
      go_wp2_with (first | refine wpList_load_arr rfl _ rfl _ rfl _ (by assumption) ?_ | refine wpList_load_arr_g (by rfl) _ rfl _ rfl _ (by assumption) ?_)
      refine (qualityValid _ _ _ HR).mono ?_; rintro e w' ⟨rfl, rfl⟩
      go_wp2_with (first | refine wpList_load_arr rfl _ rfl _ rfl _ (by assumption) ?_ | refine wpList_load_arr_g (by rfl) _ rfl _ rfl _ (by assumption) ?_)
      refine (blockWithin xs 255 false _ hx (by omega) (by omega) HB).mono ?_; rintro e wv ⟨rfl, q1⟩
      (try replace ba := ba.q q1); (try replace bb := bb.q q1); (try replace bc := bc.q q1); (try replace bd := bd.q q1); (try replace HT := Lib.hid (HT.out.q q1)); replace QQ := QQ.trans q1; have sq := q1.size; clear q1
      (go_wp2_with (first | (first | refine wpList_load_arr rfl _ rfl _ rfl _ (by assumption) ?_ | refine wpList_load_arr_g (by rfl) _ rfl _ rfl _ (by assumption) ?_) | (refine wpList_store_arr rfl _ _ rfl _ rfl _ _ rfl (by first | assumption | rfl) (by assumption) ?_; intro w9 b9 g9 s9) | (refine wpList_store_arr rfl _ _ rfl _ rfl _ (List.replicate 16 0) rfl rfl (by assumption) ?_; intro w9 b9 g9 s9)); refine bodyPost_ret (v := .agg (arr _)) (results_cell_row (by rfl) _ _ _ _ _ _ _ (by rfl) (Bl.blk b9) Tryd.underlying22 rfl (by rw [arr_size, hz]; exact info_arr)) rfl ⟨rfl, QQ.grown g9 (fun k e => by have := Option.some.inj e; omega)⟩)
    · have HB := Lib.hid hb
      obtain ⟨n, rfl⟩ : ∃ n : Nat, q = (n : Int) := ⟨q.toNat, by omega⟩
      have HV : Hid (codeL xs (n : Int) = tab (codeC xs (step n)) 16) := by unfold Hid codeL; rw [hb, hr]; rfl
      rw [HV.out]
      have n16 : n < 16 := by omega
      have HI := Lib.hid (fun k hk => hadF_in hb k hk)
      have hll := hadL_len xs
      have hrl : Hid (∀ k, k < 16 → (hadL xs)[k]?.getD 0 = hadF xs k) := fun k hk => by unfold hadL; rw [tab_get _ _ _ hk]
      have s2 := arr_size (hadL xs)
      rw [hll] at s2
      clear hr hb hqb
      go_enter Tryd.func19, Tryd.ntmps19
      go_wp2_with (first | refine wpList_load_arr rfl _ rfl _ rfl _ (by assumption) ?_ | refine wpList_load_arr_g (by rfl) _ rfl _ rfl _ (by assumption) ?_)
      refine (qualityValid _ _ _ HR).mono ?_; rintro e w' ⟨rfl, rfl⟩
      go_wp2_with (first | refine wpList_load_arr rfl _ rfl _ rfl _ (by assumption) ?_ | refine wpList_load_arr_g (by rfl) _ rfl _ rfl _ (by assumption) ?_)
      refine (blockWithin xs 255 true _ hx (by omega) (by omega) HB).mono ?_; rintro e wv ⟨rfl, q1⟩
      (try replace ba := ba.q q1); (try replace bb := bb.q q1); (try replace bc := bc.q q1); (try replace bd := bd.q q1); (try replace HT := Lib.hid (HT.out.q q1)); replace QQ := QQ.trans q1; have sq := q1.size; clear q1
      go_wp2_with (first | refine wpList_load_arr rfl _ rfl _ rfl _ (by assumption) ?_ | refine wpList_load_arr_g (by rfl) _ rfl _ rfl _ (by assumption) ?_)
      refine (had_ok 255 xs _ hx (inB_bnd HB.out (by omega)) (by omega) (by omega)).mono ?_; rintro e wv ⟨rfl, q3⟩
      (try replace ba := ba.q q3); (try replace bb := bb.q q3); (try replace bc := bc.q q3); (try replace bd := bd.q q3); (try replace HT := Lib.hid (HT.out.q q3)); replace QQ := QQ.trans q3; have sq := q3.size; clear q3
      generalize hadL xs = zs at hll hrl s2 ⊢
      have hws : w.heap.size + 1 < wv.heap.size := bc.lt
      go_wp2_with (first | (refine wpList_new_arr rfl _ rfl rfl rfl _ _ rfl rfl _ rfl hll ?_; intro w5 bd q5 s5) | (first | refine wpList_load_arr rfl _ rfl _ rfl _ (by assumption) ?_ | refine wpList_load_arr_g (by rfl) _ rfl _ rfl _ (by assumption) ?_))
      replace bc := bc.q q5
      replace QQ := QQ.trans q5
      replace HT := Lib.hid (HT.out.q q5)
      clear ba q5
      generalize wv.heap.size = g at bd s5 hws ⊢
      go_loopw [20] (fun i wr => ∃ k : Nat, k ≤ 16 ∧ i = .int .i64 k ∧ Hid (Bl wr g (tab (fun j => if j < k then codeC xs (step n) j else zs[j]?.getD 0) 16) ∧ Bl wr (w.heap.size + 1) zeros ∧ Q w wr ∧ Tb wr)) (fun i _ => 16 - (intOf i).toNat)
      case atStart => exact ⟨0, by omega, rfl, by rw [mix_none _ zs hll]; exact bd, bc, QQ, HT.out⟩
      case round =>
        obtain ⟨k, hk, rfl, hK⟩ := hrel
        obtain ⟨k1, k2, k3, k4⟩ := hK.out
        clear hK bd bc QQ HT
        by_cases hlt : k < 16
        · have hk16 : (k : Int) < 16 := by omega
          have hst := set_mix (codeC xs (step n)) (fun j => zs[j]?.getD 0) k hlt
          have c1 := k1.at k hlt
          have f1 := k1.free k
          have he := fun w => run_index_arr zs k hll hlt w
          rw [mix_at _ _ _ _ hlt (Nat.le_refl _)] at c1
          rw [hrl.out k hlt] at he c1
          obtain ⟨a1, a2⟩ := HI.out k hlt
          have T1 := Lib.hid (fun z hz => impl_Quantize (hadF xs k) (n : Int) n z hz rfl n16 a1 a2)
          have hjc : codeC xs (step n) k = quantV (hadF xs k) (step n) := rfl
          rw [← hjc] at T1
          generalize codeC xs (step n) k = r at hst T1
          generalize hadF xs k = x at he c1 T1
          have HST := Lib.hid hst
          have K1 := Lib.hid k1
          have K2 := Lib.hid k2
          have K3 := Lib.hid k3
          have K4 := Lib.hid k4
          clear hst hjc k1 k2 k3 k4 c1 f1
          go_wp2_with fail
          refine (T1.out _ K4.out).mono ?_; rintro e wa ⟨rfl, q1⟩
          have k1 := K1.out.q q1
          have c3 := k1.at k hlt
          have f3 := k1.free k
          generalize (tab (fun j => if j < k then codeC xs (step n) j else zs[j]?.getD 0) 16)[k]?.getD 0 = zz at c3
          have n1 := Lib.hid (k1.set k r)
          rw [HST.out] at n1
          have n2 := Lib.hid ((K2.out.q q1).far (p := ⟨g, k, none⟩) (by show w.heap.size + 1 ≠ g; omega) (.int .i64 r))
          have n3 := Lib.hid ((K3.out.trans q1).set (p := ⟨g, k, none⟩) (by show w.heap.size ≤ g; omega) (.int .i64 r))
          have n4 := Lib.hid (tb_set (K4.out.q q1) (p := ⟨g, k, none⟩) (by show g ≠ 0; omega) (.int .i64 r))
          clear k1 q1
          go_wp2_with fail
          go_roundw
          case rel => exact ⟨k + 1, by omega, by go_num, n1.out, n2.out, n3.out, n4.out⟩
          case measure => simp [intOf]; omega
        · have hk16 : k = 16 := by omega
          subst hk16
          rw [mix_full] at k1
          have hml : (tab (codeC xs (step n)) 16).length = 16 := length_tab _ _
          generalize hms : tab (codeC xs (step n)) 16 = ms at k1 hml ⊢
          have HMS := Lib.hid hms
          have K3 := Lib.hid k3
          clear hms k3
          go_wp2_with (first | (first | refine wpList_load_arr rfl _ rfl _ rfl _ (by assumption) ?_ | refine wpList_load_arr_g (by rfl) _ rfl _ rfl _ (by assumption) ?_) | (refine wpList_store_arr rfl _ _ rfl _ rfl _ _ rfl (by first | assumption | rfl) (by assumption) ?_; intro w9 b9 g9 s9))
          refine bodyPost_ret (v := .agg (arr _)) (results_cell_row (by rfl) _ _ _ _ _ _ _ (by rfl) (Bl.blk b9) Tryd.underlying22 rfl (by rw [arr_size, hml]; exact info_arr)) rfl ⟨by rw [HMS.out], K3.out.grown g9 (fun k e => by have := Option.some.inj e; omega)⟩
set_option maxRecDepth 100000 in
set_option maxHeartbeats 2000000 in
theorem spec_CodeBlock (xs : List Int) (q : Int) (w : World) (hx : xs.length = 16) :
    Calls Tryd.prog 20 #[.agg (arr xs), .int .i64 q] w fun e w' => e = .returned (.agg (arr (codeL xs q))) ∧ Q w w' := by
  have s1 := arr_size xs; rw [hx] at s1
  have QQ : Q w ((w.alloc (.cells (arr xs) 22)).alloc (.cells (arr (List.replicate 16 0)) 22)) := (by repeat (first | exact Q.refl _ | assumption | refine Q.drewN ?_ _ | refine Q.drew ?_ | refine Q.alloc ?_ _ | refine Q.trans ?_ (by assumption) | refine Q.set ?_ (by first | exact Nat.le_refl _ | omega | (simp; done) | (simp; omega)) _))
  have ba := (Bl.new w xs hx).alloc (.cells (arr (List.replicate 16 0)) 22)
  have bc := Bl.zero (w.alloc (.cells (arr xs) 22))
  simp only [World.size_alloc] at bc
  have hz : (List.replicate 16 (0 : Int)).length = 16 := rfl
  have s0 : ((w.alloc (.cells (arr xs) 22)).alloc (.cells (arr (List.replicate 16 0)) 22)).heap.size = w.heap.size + 1 + 1 := by simp
  cases hb : inB xs 255
  · have HV : Hid (codeL xs q = zeros) := by unfold Hid codeL; rw [hb]; rfl
    have HB := Lib.hid hb
    rw [HV.out]
    clear hb
    (go_enter Tryd.func20, Tryd.ntmps20; go_wp2_with (first | (first | refine wpList_load_arr rfl _ rfl _ rfl _ (by assumption) ?_ | refine wpList_load_arr_g (by rfl) _ rfl _ rfl _ (by assumption) ?_) | ((refine wpList_new_arr rfl _ rfl rfl rfl _ _ rfl rfl (List.replicate 16 0) rfl rfl ?_; intro wv bd q0 z0); replace ba := ba.q q0; replace bc := bc.q q0; replace QQ := QQ.trans q0; simp only [World.size_alloc] at bd; clear q0 z0)))
    refine (l3Ok xs 255 false _ hx (by omega) (by omega) HB).mono ?_; rintro e wv ⟨rfl, q1⟩
    (try replace ba := ba.q q1); (try replace bb := bb.q q1); (try replace bc := bc.q q1); (try replace bd := bd.q q1); (try replace HT := Lib.hid (HT.out.q q1)); replace QQ := QQ.trans q1; have sq := q1.size; clear q1
    (go_wp2_with (first | (first | refine wpList_load_arr rfl _ rfl _ rfl _ (by assumption) ?_ | refine wpList_load_arr_g (by rfl) _ rfl _ rfl _ (by assumption) ?_) | (refine wpList_store_arr rfl _ _ rfl _ rfl _ _ rfl (by first | assumption | rfl) (by assumption) ?_; intro w9 b9 g9 s9) | (refine wpList_store_arr rfl _ _ rfl _ rfl _ (List.replicate 16 0) rfl rfl (by assumption) ?_; intro w9 b9 g9 s9)); refine bodyPost_ret (v := .agg (arr _)) (results_cell_row (by rfl) _ _ _ _ _ _ _ (by rfl) (Bl.blk b9) Tryd.underlying22 rfl (by rw [arr_size, hz]; exact info_arr)) rfl ⟨rfl, QQ.grown g9 (fun k e => by have := Option.some.inj e; omega)⟩)
  · have HB := Lib.hid hb
    cases hr : qB q
    · have HV : Hid (codeL xs q = zeros) := by unfold Hid codeL; rw [hr, Bool.and_false]; rfl
      have HR : Hid (decide (0 ≤ q ∧ q ≤ 15) = false) := hr
      rw [HV.out]
      clear hr hb
      (go_enter Tryd.func20, Tryd.ntmps20; go_wp2_with (first | (first | refine wpList_load_arr rfl _ rfl _ rfl _ (by assumption) ?_ | refine wpList_load_arr_g (by rfl) _ rfl _ rfl _ (by assumption) ?_) | ((refine wpList_new_arr rfl _ rfl rfl rfl _ _ rfl rfl (List.replicate 16 0) rfl rfl ?_; intro wv bd q0 z0); replace ba := ba.q q0; replace bc := bc.q q0; replace QQ := QQ.trans q0; simp only [World.size_alloc] at bd; clear q0 z0)))
      refine (l3Ok xs 255 true _ hx (by omega) (by omega) HB).mono ?_; rintro e wv ⟨rfl, q1⟩
      (try replace ba := ba.q q1); (try replace bb := bb.q q1); (try replace bc := bc.q q1); (try replace bd := bd.q q1); (try replace HT := Lib.hid (HT.out.q q1)); replace QQ := QQ.trans q1; have sq := q1.size; clear q1
      go_wp2_with (first | refine wpList_load_arr rfl _ rfl _ rfl _ (by assumption) ?_ | refine wpList_load_arr_g (by rfl) _ rfl _ rfl _ (by assumption) ?_)
      refine (l1In_b _ _ _ _ _ HR).mono ?_; rintro e w' ⟨rfl, rfl⟩
      (go_wp2_with (first | (first | refine wpList_load_arr rfl _ rfl _ rfl _ (by assumption) ?_ | refine wpList_load_arr_g (by rfl) _ rfl _ rfl _ (by assumption) ?_) | (refine wpList_store_arr rfl _ _ rfl _ rfl _ _ rfl (by first | assumption | rfl) (by assumption) ?_; intro w9 b9 g9 s9) | (refine wpList_store_arr rfl _ _ rfl _ rfl _ (List.replicate 16 0) rfl rfl (by assumption) ?_; intro w9 b9 g9 s9)); refine bodyPost_ret (v := .agg (arr _)) (results_cell_row (by rfl) _ _ _ _ _ _ _ (by rfl) (Bl.blk b9) Tryd.underlying22 rfl (by rw [arr_size, hz]; exact info_arr)) rfl ⟨rfl, QQ.grown g9 (fun k e => by have := Option.some.inj e; omega)⟩)
    · have HR : Hid (decide (0 ≤ q ∧ q ≤ 15) = true) := hr
      have hqb : 0 ≤ q ∧ q ≤ 15 := of_decide_eq_true hr
      obtain ⟨n, rfl⟩ : ∃ n : Nat, q = (n : Int) := ⟨q.toNat, by omega⟩
      have HV : Hid (codeL xs (n : Int) = tab (codeC xs (step n)) 16) := by unfold Hid codeL; rw [hb, hr]; rfl
      rw [HV.out]
      have n16 : n < 16 := by omega
      have HI := Lib.hid (fun k hk => hadF_in hb k hk)
      have hll := hadL_len xs
      have hrl : Hid (∀ k, k < 16 → (hadL xs)[k]?.getD 0 = hadF xs k) := fun k hk => by unfold hadL; rw [tab_get _ _ _ hk]
      have s2 := arr_size (hadL xs)
      rw [hll] at s2
      clear hr hb hqb
      (go_enter Tryd.func20, Tryd.ntmps20; go_wp2_with (first | (first | refine wpList_load_arr rfl _ rfl _ rfl _ (by assumption) ?_ | refine wpList_load_arr_g (by rfl) _ rfl _ rfl _ (by assumption) ?_) | ((refine wpList_new_arr rfl _ rfl rfl rfl _ _ rfl rfl (List.replicate 16 0) rfl rfl ?_; intro wv bd q0 z0); replace ba := ba.q q0; replace bc := bc.q q0; replace QQ := QQ.trans q0; simp only [World.size_alloc] at bd; clear q0 z0)))
      refine (l3Ok xs 255 true _ hx (by omega) (by omega) HB).mono ?_; rintro e wv ⟨rfl, q1⟩
      (try replace ba := ba.q q1); (try replace bb := bb.q q1); (try replace bc := bc.q q1); (try replace bd := bd.q q1); (try replace HT := Lib.hid (HT.out.q q1)); replace QQ := QQ.trans q1; have sq := q1.size; clear q1
      go_wp2_with (first | refine wpList_load_arr rfl _ rfl _ rfl _ (by assumption) ?_ | refine wpList_load_arr_g (by rfl) _ rfl _ rfl _ (by assumption) ?_)
      refine (l1In_b _ _ _ _ _ HR).mono ?_; rintro e w' ⟨rfl, rfl⟩
      go_wp2_with (first | refine wpList_load_arr rfl _ rfl _ rfl _ (by assumption) ?_ | refine wpList_load_arr_g (by rfl) _ rfl _ rfl _ (by assumption) ?_)
      refine (l3Apply 255 xs _ hx (inB_bnd HB.out (by omega)) (by omega) (by omega)).mono ?_; rintro e wv ⟨rfl, q3⟩
      (try replace ba := ba.q q3); (try replace bb := bb.q q3); (try replace bc := bc.q q3); (try replace bd := bd.q q3); (try replace HT := Lib.hid (HT.out.q q3)); replace QQ := QQ.trans q3; have sq := q3.size; clear q3
      generalize hadL xs = zs at hll hrl s2 ⊢
      have hws : w.heap.size + 1 + 1 < wv.heap.size := bd.lt
      go_wp2_with (first | (refine wpList_new_arr rfl _ rfl rfl rfl _ _ rfl rfl _ rfl hll ?_; intro w5 be q5 s5) | (first | refine wpList_load_arr rfl _ rfl _ rfl _ (by assumption) ?_ | refine wpList_load_arr_g (by rfl) _ rfl _ rfl _ (by assumption) ?_))
      replace bc := bc.q q5
      replace bd := bd.q q5
      replace QQ := QQ.trans q5
      clear ba q5
      generalize wv.heap.size = g at be s5 hws ⊢
      go_loopw [7] (fun i wr => ∃ k : Nat, k ≤ 16 ∧ i = .int .i64 k ∧ Hid (Bl wr g zs ∧ Bl wr (w.heap.size + 1) zeros ∧ Q w wr ∧ Bl wr (w.heap.size + 1 + 1) (tab (fun j => if j < k then codeC xs (step n) j else 0) 16))) (fun i _ => 16 - (intOf i).toNat)
      case atStart => exact ⟨0, by omega, rfl, be, bc, QQ, by rw [tab_none]; exact bd⟩
      case round =>
        obtain ⟨k, hk, rfl, hK⟩ := hrel
        obtain ⟨k1, k2, k3, k4⟩ := hK.out
        clear hK bd bc be QQ
        by_cases hlt : k < 16
        · have hk16 : (k : Int) < 16 := by omega
          have hst := set_tab (codeC xs (step n)) k hlt
          have c1 := k1.at k hlt
          rw [hrl.out k hlt] at c1
          obtain ⟨a1, a2⟩ := HI.out k hlt
          have T1 := Lib.hid (fun z => spec_l4Quant (hadF xs k) (n : Int) n z rfl n16 a1 a2)
          have hjc : codeC xs (step n) k = quantV (hadF xs k) (step n) := rfl
          rw [← hjc] at T1
          generalize codeC xs (step n) k = r at hst T1
          generalize hadF xs k = x at c1 T1
          have HST := Lib.hid hst
          have K1 := Lib.hid k1
          have K2 := Lib.hid k2
          have K3 := Lib.hid k3
          have K4 := Lib.hid k4
          clear hst hjc k1 k2 k3 k4
          go_wp2_with fail
          refine (T1.out _).mono ?_; rintro e wa ⟨rfl, q1⟩
          have k4 := K4.out.q q1
          have c3 := k4.at k hlt
          have f3 := k4.free k
          rw [tab_at _ _ _ hlt (Nat.le_refl _)] at c3
          have n4 := Lib.hid (k4.set k r)
          rw [HST.out] at n4
          have n1 := Lib.hid ((K1.out.q q1).far (p := ⟨w.heap.size + 1 + 1, k, none⟩) (by show g ≠ w.heap.size + 1 + 1; omega) (.int .i64 r))
          have n2 := Lib.hid ((K2.out.q q1).far (p := ⟨w.heap.size + 1 + 1, k, none⟩) (by show w.heap.size + 1 ≠ w.heap.size + 1 + 1; omega) (.int .i64 r))
          have n3 := Lib.hid ((K3.out.trans q1).set (p := ⟨w.heap.size + 1 + 1, k, none⟩) (by show w.heap.size ≤ w.heap.size + 1 + 1; omega) (.int .i64 r))
          clear k4 q1 c1
          go_wp2_with fail
          go_roundw
          case rel => exact ⟨k + 1, by omega, by go_num, n1.out, n2.out, n3.out, n4.out⟩
          case measure => simp [intOf]; omega
        · have hk16 : k = 16 := by omega
          subst hk16
          rw [tab_full] at k4
          have hml : (tab (codeC xs (step n)) 16).length = 16 := length_tab _ _
          generalize hms : tab (codeC xs (step n)) 16 = ms at k4 hml ⊢
          have HMS := Lib.hid hms
          have K3 := Lib.hid k3
          clear hms k3
          go_wp2_with (first | (first | refine wpList_load_arr rfl _ rfl _ rfl _ (by assumption) ?_ | refine wpList_load_arr_g (by rfl) _ rfl _ rfl _ (by assumption) ?_) | (refine wpList_store_arr rfl _ _ rfl _ rfl _ _ rfl (by first | assumption | rfl) (by assumption) ?_; intro w9 b9 g9 s9))
          refine bodyPost_ret (v := .agg (arr _)) (results_cell_row (by rfl) _ _ _ _ _ _ _ (by rfl) (Bl.blk b9) Tryd.underlying22 rfl (by rw [arr_size, hml]; exact info_arr)) rfl ⟨by rw [HMS.out], K3.out.grown g9 (fun k e => by have := Option.some.inj e; omega)⟩
end Go.Proofs.YtkdmhlbmhjolcaaDoor

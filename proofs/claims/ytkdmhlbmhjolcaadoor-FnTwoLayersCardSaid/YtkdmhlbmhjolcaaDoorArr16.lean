/-
  DecodeBlock of the program.
-/
import Derived.Test.YtkdmhlbmhjolcaaDoorArr13
namespace Go.Proofs.YtkdmhlbmhjolcaaDoor
open Go.RowKit

def decC (xs : List Int) (s : Int) (k : Nat) : Int := deqV (xs[k]?.getD 0) s
def decL (xs : List Int) (q : Int) : List Int := if (inB xs 4080 && qB q) = true then invL (tab (decC xs (step q.toNat)) 16) else zeros
theorem decL_len (xs : List Int) (q : Int) : (decL xs q).length = 16 := by
  unfold decL
  split
  · exact invL_len _
  · rfl
set_option maxRecDepth 100000 in
set_option maxHeartbeats 2000000 in
theorem impl_DecodeBlock (xs : List Int) (q : Int) (w : World) (hT : Tb w) (hx : xs.length = 16) :
    Calls Tryd.prog 22 #[.agg (arr xs), .int .i64 q] w fun e w' => e = .returned (.agg (arr (decL xs q))) ∧ Q w w' := by
  have s1 := arr_size xs; rw [hx] at s1
  have QQ : Q w ((w.alloc (.cells (arr xs) 22)).alloc (.cells (arr (List.replicate 16 0)) 22)) := (by repeat (first | exact Q.refl _ | assumption | refine Q.drewN ?_ _ | refine Q.drew ?_ | refine Q.alloc ?_ _ | refine Q.trans ?_ (by assumption) | refine Q.set ?_ (by first | exact Nat.le_refl _ | omega | (simp; done) | (simp; omega)) _))
  have ba := (Bl.new w xs hx).alloc (.cells (arr (List.replicate 16 0)) 22)
  have bc := Bl.zero (w.alloc (.cells (arr xs) 22))
  simp only [World.size_alloc] at bc
  have HT := Lib.hid (hT.q QQ)
  have hz : zeros.length = 16 := rfl
  have hw0 : w.heap.size ≠ 0 := by have := hT.pos; omega
  clear hT
  cases hr : qB q
  · have HV : Hid (decL xs q = zeros) := by unfold Hid decL; rw [hr, Bool.and_false]; rfl
    have HR : Hid (decide (0 ≤ q ∧ q ≤ 15) = false) := hr
    rw [HV.out]
    clear hr
    go_enter Tryd.func22, Tryd.ntmps22
    go_wp2_with (first | refine wpList_load_arr rfl _ rfl _ rfl _ (by assumption) ?_ | refine wpList_load_arr_g (by rfl) _ rfl _ rfl _ (by assumption) ?_)
    refine (qualityValid _ _ _ HR).mono ?_; rintro e w' ⟨rfl, rfl⟩
    (go_wp2_with (first | (first | refine wpList_load_arr rfl _ rfl _ rfl _ (by assumption) ?_ | refine wpList_load_arr_g (by rfl) _ rfl _ rfl _ (by assumption) ?_) | (refine wpList_store_arr rfl _ _ rfl _ rfl _ _ rfl (by first | assumption | rfl) (by assumption) ?_; intro w9 b9 g9 s9) | (refine wpList_store_arr rfl _ _ rfl _ rfl _ (List.replicate 16 0) rfl rfl (by assumption) ?_; intro w9 b9 g9 s9)); refine bodyPost_ret (v := .agg (arr _)) (results_cell_row (by rfl) _ _ _ _ _ _ _ (by rfl) (Bl.blk b9) Tryd.underlying22 rfl (by rw [arr_size, hz]; exact info_arr)) rfl ⟨rfl, QQ.grown g9 (fun k e => by have := Option.some.inj e; omega)⟩)
  · have HR : Hid (decide (0 ≤ q ∧ q ≤ 15) = true) := hr
    have hqb : 0 ≤ q ∧ q ≤ 15 := of_decide_eq_true hr
    cases hb : inB xs 4080
    · have HV : Hid (decL xs q = zeros) := by unfold Hid decL; rw [hb]; rfl
      have HB := Lib.hid hb
      rw [HV.out]
      clear hr hb
      go_enter Tryd.func22, Tryd.ntmps22
      go_wp2_with (first | refine wpList_load_arr rfl _ rfl _ rfl _ (by assumption) ?_ | refine wpList_load_arr_g (by rfl) _ rfl _ rfl _ (by assumption) ?_)
      refine (qualityValid _ _ _ HR).mono ?_; rintro e w' ⟨rfl, rfl⟩
      go_wp2_with (first | refine wpList_load_arr rfl _ rfl _ rfl _ (by assumption) ?_ | refine wpList_load_arr_g (by rfl) _ rfl _ rfl _ (by assumption) ?_)
      refine (blockWithin xs 4080 false _ hx (by omega) (by omega) HB).mono ?_; rintro e wv ⟨rfl, q1⟩
      (try replace ba := ba.q q1); (try replace bb := bb.q q1); (try replace bc := bc.q q1); (try replace bd := bd.q q1); (try replace HT := Lib.hid (HT.out.q q1)); replace QQ := QQ.trans q1; have sq := q1.size; clear q1
      (go_wp2_with (first | (first | refine wpList_load_arr rfl _ rfl _ rfl _ (by assumption) ?_ | refine wpList_load_arr_g (by rfl) _ rfl _ rfl _ (by assumption) ?_) | (refine wpList_store_arr rfl _ _ rfl _ rfl _ _ rfl (by first | assumption | rfl) (by assumption) ?_; intro w9 b9 g9 s9) | (refine wpList_store_arr rfl _ _ rfl _ rfl _ (List.replicate 16 0) rfl rfl (by assumption) ?_; intro w9 b9 g9 s9)); refine bodyPost_ret (v := .agg (arr _)) (results_cell_row (by rfl) _ _ _ _ _ _ _ (by rfl) (Bl.blk b9) Tryd.underlying22 rfl (by rw [arr_size, hz]; exact info_arr)) rfl ⟨rfl, QQ.grown g9 (fun k e => by have := Option.some.inj e; omega)⟩)
    · have HB := Lib.hid hb
      obtain ⟨n, rfl⟩ : ∃ n : Nat, q = (n : Int) := ⟨q.toNat, by omega⟩
      have HV : Hid (decL xs (n : Int) = invL (tab (decC xs (step n)) 16)) := by unfold Hid decL; rw [hb, hr]; rfl
      rw [HV.out]
      have n16 : n < 16 := by omega
      have HI := Lib.hid (fun k hk => inB_get hb k hk)
      have HM : Hid (inB (tab (decC xs (step n)) 16) 4080 = true) := inB_tab _ _ fun k _ => cl_in _ (by omega)
      clear hr hb hqb
      go_enter Tryd.func22, Tryd.ntmps22
      go_wp2_with (first | refine wpList_load_arr rfl _ rfl _ rfl _ (by assumption) ?_ | refine wpList_load_arr_g (by rfl) _ rfl _ rfl _ (by assumption) ?_)
      refine (qualityValid _ _ _ HR).mono ?_; rintro e w' ⟨rfl, rfl⟩
      go_wp2_with (first | refine wpList_load_arr rfl _ rfl _ rfl _ (by assumption) ?_ | refine wpList_load_arr_g (by rfl) _ rfl _ rfl _ (by assumption) ?_)
      refine (blockWithin xs 4080 true _ hx (by omega) (by omega) HB).mono ?_; rintro e wv ⟨rfl, q1⟩
      (try replace ba := ba.q q1); (try replace bb := bb.q q1); (try replace bc := bc.q q1); (try replace bd := bd.q q1); (try replace HT := Lib.hid (HT.out.q q1)); replace QQ := QQ.trans q1; have sq := q1.size; clear q1
      go_wp2_with (first | refine wpList_load_arr rfl _ rfl _ rfl _ (by assumption) ?_ | refine wpList_load_arr_g (by rfl) _ rfl _ rfl _ (by assumption) ?_)
      have hws : w.heap.size + 1 < wv.heap.size := bc.lt
      go_loopw [17] (fun i wr => ∃ k : Nat, k ≤ 16 ∧ i = .int .i64 k ∧ Hid (Bl wr w.heap.size (tab (fun j => if j < k then decC xs (step n) j else xs[j]?.getD 0) 16) ∧ Bl wr (w.heap.size + 1) zeros ∧ Q w wr ∧ Tb wr)) (fun i _ => 16 - (intOf i).toNat)
      case atStart => exact ⟨0, by omega, rfl, by rw [mix_none _ xs hx]; exact ba, bc, QQ, HT.out⟩
      case round =>
        obtain ⟨k, hk, rfl, hK⟩ := hrel
        obtain ⟨k1, k2, k3, k4⟩ := hK.out
        clear hK ba bc QQ HT
        by_cases hlt : k < 16
        · have hk16 : (k : Int) < 16 := by omega
          have hst := set_mix (decC xs (step n)) (fun j => xs[j]?.getD 0) k hlt
          have c1 := k1.at k hlt
          have f1 := k1.free k
          have he := fun w => run_index_arr xs k hx hlt w
          rw [mix_at _ _ _ _ hlt (Nat.le_refl _)] at c1
          obtain ⟨a1, a2⟩ := HI.out k (by omega)
          have T1 := Lib.hid (fun z hz => impl_Dequantize (xs[k]?.getD 0) (n : Int) n z hz rfl n16 a1 a2)
          have hjc : decC xs (step n) k = deqV (xs[k]?.getD 0) (step n) := rfl
          rw [← hjc] at T1
          generalize decC xs (step n) k = r at hst T1
          generalize xs[k]?.getD 0 = x at he c1 T1
          have HST := Lib.hid hst
          have K1 := Lib.hid k1
          have K2 := Lib.hid k2
          have K3 := Lib.hid k3
          have K4 := Lib.hid k4
          clear hst hjc k1 k2 k3 k4 c1 f1
          go_wp2_with fail
          refine (T1.out _ K4.out).mono ?_; rintro e wa ⟨rfl, q1⟩
          have k1 := K1.out.q q1
          have c3 := k1.at k hlt
          have f3 := k1.free k
          generalize (tab (fun j => if j < k then decC xs (step n) j else xs[j]?.getD 0) 16)[k]?.getD 0 = zz at c3
          have n1 := Lib.hid (k1.set k r)
          rw [HST.out] at n1
          have n2 := Lib.hid ((K2.out.q q1).far (p := ⟨w.heap.size, k, none⟩) (by show w.heap.size + 1 ≠ w.heap.size; omega) (.int .i64 r))
          have n3 := Lib.hid ((K3.out.trans q1).set (p := ⟨w.heap.size, k, none⟩) (by show w.heap.size ≤ w.heap.size; omega) (.int .i64 r))
          have n4 := Lib.hid (tb_set (K4.out.q q1) (p := ⟨w.heap.size, k, none⟩) (by show w.heap.size ≠ 0; exact hw0) (.int .i64 r))
          clear k1 q1
          go_wp2_with fail
          go_roundw
          case rel => exact ⟨k + 1, by omega, by go_num, n1.out, n2.out, n3.out, n4.out⟩
          case measure => simp [intOf]; omega
        · have hk16 : k = 16 := by omega
          subst hk16
          rw [mix_full] at k1
          have hml : (tab (decC xs (step n)) 16).length = 16 := length_tab _ _
          generalize hms : tab (decC xs (step n)) 16 = ms at k1 HM hml
          have HMS := Lib.hid hms
          clear hms
          have hil := invL_len ms
          go_wp2_with (first | refine wpList_load_arr rfl _ rfl _ rfl _ (by assumption) ?_ | refine wpList_load_arr_g (by rfl) _ rfl _ rfl _ (by assumption) ?_)
          refine (InverseTransform ms _ hml HM).mono ?_; rintro e wv ⟨rfl, q1⟩
          replace k2 := k2.q q1
          replace k3 := k3.trans q1
          have K3 := Lib.hid k3
          clear k3 q1
          generalize hvs : invL ms = vs at hil ⊢
          have HVS := Lib.hid hvs
          clear hvs
          go_wp2_with (first | (first | refine wpList_load_arr rfl _ rfl _ rfl _ (by assumption) ?_ | refine wpList_load_arr_g (by rfl) _ rfl _ rfl _ (by assumption) ?_) | (refine wpList_store_arr rfl _ _ rfl _ rfl _ _ rfl (by first | assumption | rfl) (by assumption) ?_; intro w9 b9 g9 s9))
          refine bodyPost_ret (v := .agg (arr _)) (results_cell_row (by rfl) _ _ _ _ _ _ _ (by rfl) (Bl.blk b9) Tryd.underlying22 rfl (by rw [arr_size, hil]; exact info_arr)) rfl ⟨by rw [HMS.out, HVS.out], K3.out.grown g9 (fun k e => by have := Option.some.inj e; omega)⟩
end Go.Proofs.YtkdmhlbmhjolcaaDoor

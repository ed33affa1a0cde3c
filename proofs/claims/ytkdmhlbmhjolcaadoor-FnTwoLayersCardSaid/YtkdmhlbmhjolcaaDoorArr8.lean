/-
  Blocks of sixteen numbers: range (reference), the transform and its inverse.
-/
import Derived.Test.YtkdmhlbmhjolcaaDoorArr7
namespace Go.Proofs.YtkdmhlbmhjolcaaDoor
open Go.RowKit

theorem set_mix (F G : Nat → Int) (k : Nat) (h : k < 16) : (tab (fun j => if j < k then F j else G j) 16).set k (F k) = tab (fun j => if j < k + 1 then F j else G j) 16 := by
  apply List.ext_getElem
  · simp [tab]
  · intro i h1 h2
    rw [List.getElem_set]
    simp only [tab, List.getElem_map, List.getElem_range]
    by_cases e : k = i
    · subst e; rw [if_pos rfl, if_pos (by omega)]
    · rw [if_neg e]
      by_cases hlt : i < k
      · rw [if_pos hlt, if_pos (by omega)]
      · rw [if_neg hlt, if_neg (by omega)]
theorem mix_full (F G : Nat → Int) : tab (fun j => if j < 16 then F j else G j) 16 = tab F 16 := tab_congr _ _ _ fun _ hi => if_pos hi
theorem mix_none (F : Nat → Int) (xs : List Int) (h : xs.length = 16) : tab (fun j => if j < 0 then F j else xs[j]?.getD 0) 16 = xs := by
  rw [tab_congr _ (fun j => xs[j]?.getD 0) 16 (fun i _ => if_neg (by omega)), tab16 xs h]
theorem mix_at (F G : Nat → Int) (k m : Nat) (h : k < 16) (hm : m ≤ k) : (tab (fun j => if j < m then F j else G j) 16)[k]?.getD 0 = G k := by
  rw [tab_get _ _ _ h, if_neg (by omega)]
theorem inB_bnd {xs : List Int} {M : Int} (h : inB xs M = true) (hM : 0 ≤ M) : bnd xs M := fun k => by
  rcases Nat.lt_or_ge k xs.length with hk | hk
  · exact inB_get h k hk
  · rw [List.getElem?_eq_none hk]; simp; omega

set_option maxRecDepth 100000 in
theorem l3Ok (xs : List Int) (M : Int) (t : Bool) (w : World) (hx : xs.length = 16) (hM : 0 ≤ M) (hM2 : M ≤ 100000) (ht : Hid (inB xs M = t)) :
    Calls Tryd.prog 30 #[.agg (arr xs), .int .i64 M] w fun e w' => e = .returned (.bool t) ∧ Q w w' := by
  have s1 := arr_size xs
  rw [hx] at s1
  have hb := Bl.new w xs hx
  have QQ : Q w (w.alloc (.cells (arr xs) 22)) := (by repeat (first | exact Q.refl _ | assumption | refine Q.drewN ?_ _ | refine Q.drew ?_ | refine Q.alloc ?_ _ | refine Q.trans ?_ (by assumption) | refine Q.set ?_ (by first | exact Nat.le_refl _ | omega | (simp; done) | (simp; omega)) _))
  go_enter Tryd.func30, Tryd.ntmps30
  go_wp2_with fail
  go_loop [5] (fun i => ∃ k : Nat, k ≤ 16 ∧ i = .int .i64 k ∧ Hid (inB xs M = inB (xs.drop k) M)) (fun i => 16 - (intOf i).toNat)
  case atStart => exact ⟨0, by omega, rfl, rfl⟩
  case round =>
    obtain ⟨k, hk, rfl, hr⟩ := hrel
    by_cases hlt : k < 16
    · have hk16 : (k : Int) < 16 := by omega
      have hst := inB_drop xs M k (by omega)
      have hc := hb.at k hlt
      generalize xs[k]?.getD 0 = y at hc hst
      by_cases hy : -M ≤ y ∧ y ≤ M
      · rw [decide_eq_true hy, Bool.true_and] at hst
        have HST := Lib.hid hst
        clear hst
        go_wp2_with fail
        refine (l1In_tt _ _ _ _ hy.1 hy.2).mono ?_; rintro e w' ⟨rfl, rfl⟩
        go_wp2_with fail
        go_round
        case rel => exact ⟨k + 1, by omega, by go_num, by rw [Hid, hr.out, HST.out]⟩
        case measure => simp [intOf]; omega
      · rw [decide_eq_false hy, Bool.false_and] at hst
        have HST := Lib.hid hst
        clear hst
        go_wp2_with fail
        refine (l1In_ff _ _ _ _ (by omega)).mono ?_; rintro e w' ⟨rfl, rfl⟩
        go_wp2_with fail
        go_ret
        exact ⟨by rw [← ht.out, hr.out, HST.out]; rfl, QQ⟩
    · have hk16 : k = 16 := by omega
      subst hk16
      go_wp2_with fail
      go_ret
      exact ⟨by rw [← ht.out, hr.out, List.drop_of_length_le (Nat.le_of_eq hx)]; rfl, QQ⟩

theorem had_ok (B : Int) (xs : List Int) (w : World) (hx : xs.length = 16) (hB : bnd xs B) (hB1 : 0 ≤ B) (hB2 : B ≤ 1000000) :
    Calls Tryd.prog 36 #[.agg (arr xs)] w fun e w' => e = .returned (.agg (arr (hadL xs))) ∧ Q w w' := by
  rw [← hadW_eq xs hx]; exact hadamard B xs w hx hB hB1 hB2
theorem wpList_new_arr {w : World} {ops : Array Oper} {rest : List Oper} {o1 o2 : Oper} {a : Act} {Q' : Exit → Act → World → Prop} (h1 : o1.guard = none) (d : Tmp) (hd : o1.dst = some d) (ho1 : o1.op = .alloc 22)
    (h2 : o2.guard = none) (x y : Operand) (ho2 : o2.op = .store 22 x y) (hx : (a.put (some d) (.pointer (some ⟨w.heap.size, 0, none⟩))).eval x = .pointer (some ⟨w.heap.size, 0, none⟩)) (ys : List Int)
    (hy : (a.put (some d) (.pointer (some ⟨w.heap.size, 0, none⟩))).eval y = .agg (arr ys)) (hl : ys.length = 16)
    (hK : ∀ w', Bl w' w.heap.size ys → Q w w' → w'.heap.size = w.heap.size + 1 → wpList Tryd.prog ops Q' rest ((a.put (some d) (.pointer (some ⟨w.heap.size, 0, none⟩))).put o2.dst undef) w') : wpList Tryd.prog ops Q' (o1 :: o2 :: rest) a w := by
  refine wpList_plain h1 fun K hKK => ?_
  have hr : (Instr.alloc 22 true (.tuple #[])).run Tryd.prog w = .ok (.pointer (some ⟨w.heap.size, 0, none⟩)) (w.alloc (.cells (arr (List.replicate 16 0)) 22)) := by simp [Instr.alloc, go_sem]; rfl
  unfold Oper.wp execOp
  simp only [ho1, hr, Sem.run_bind, Sem.run_pure, Result.andThen_ok]
  refine hKK _ _ ?_
  rw [hd]
  refine wpList_store_arr h2 x y ho2 w.heap.size hx (List.replicate 16 0) ys hy hl (Bl.zero w) fun w' b g s => ?_
  refine hK w' b ?_ (by rw [s]; simp)
  exact ((Q.refl w).alloc _).grown g (fun k e => by have := Option.some.inj e; omega)
set_option maxRecDepth 100000 in
theorem ForwardTransform (xs : List Int) (w : World) (hx : xs.length = 16) (hB : Hid (inB xs 255 = true)) :
    Calls Tryd.prog 28 #[.agg (arr xs)] w fun e w' => e = .returned (.agg (arr (hadL xs))) ∧ Q w w' := by
  have s1 := arr_size xs
  rw [hx] at s1
  have QQ : Q w ((w.alloc (.cells (arr xs) 22)).alloc (.cells (arr (List.replicate 16 0)) 22)) := (by repeat (first | exact Q.refl _ | assumption | refine Q.drewN ?_ _ | refine Q.drew ?_ | refine Q.alloc ?_ _ | refine Q.trans ?_ (by assumption) | refine Q.set ?_ (by first | exact Nat.le_refl _ | omega | (simp; done) | (simp; omega)) _))
  have ba := (Bl.new w xs hx).alloc (.cells (arr (List.replicate 16 0)) 22)
  have bb := Bl.zero (w.alloc (.cells (arr xs) 22))
  simp only [World.size_alloc] at bb
  have hl := hadL_len xs
  go_enter Tryd.func28, Tryd.ntmps28
  go_wp2_with (first | refine wpList_load_arr rfl _ rfl _ rfl _ (by assumption) ?_ | refine wpList_load_arr_g (by rfl) _ rfl _ rfl _ (by assumption) ?_)
  refine (blockWithin xs 255 true _ hx (by omega) (by omega) hB).mono ?_; rintro e wv ⟨rfl, q1⟩
  replace ba := ba.q q1
  replace bb := bb.q q1
  replace QQ := QQ.trans q1
  clear q1
  go_wp2_with (first | refine wpList_load_arr rfl _ rfl _ rfl _ (by assumption) ?_ | refine wpList_load_arr_g (by rfl) _ rfl _ rfl _ (by assumption) ?_)
  refine (had_ok 255 xs _ hx (inB_bnd hB.out (by omega)) (by omega) (by omega)).mono ?_; rintro e wv ⟨rfl, q2⟩
  replace bb := bb.q q2
  replace QQ := QQ.trans q2
  go_wp2_with (refine wpList_store_arr rfl _ _ rfl _ rfl _ _ rfl (by first | assumption | rfl) (by assumption) ?_; intro w9 b9 g9 s9)
  refine bodyPost_ret (v := .agg (arr _)) (results_cell_row (by rfl) _ _ _ _ _ _ _ (by rfl) (Bl.blk b9) Tryd.underlying22 rfl (by rw [arr_size, hl]; exact info_arr)) rfl ⟨rfl, ?_⟩
  exact QQ.grown g9 (fun k e => by have := Option.some.inj e; omega)

theorem tdiv_flo (n d : Int) (hd : 0 < d) : (n.tmod d < 0 ∧ n.tdiv d - 1 = n / d) ∨ (0 ≤ n.tmod d ∧ n.tdiv d = n / d) := by
  have hm := Int.emod_nonneg n (show d ≠ 0 by omega)
  have hl := Int.emod_lt_of_pos n hd
  rw [Int.tdiv_eq_ediv, Int.tmod_eq_emod]
  by_cases h : 0 ≤ n ∨ d ∣ n
  · rw [if_pos h, if_pos h]; right; constructor <;> omega
  · rw [if_neg h, if_neg h, Int.sign_eq_one_of_pos hd]; left; constructor <;> omega
set_option maxRecDepth 100000 in
theorem l3Round (n : Int) (w : World) (h1 : -100000000 ≤ n) (h2 : n ≤ 100000000) :
    Calls Tryd.prog 53 #[.int .i64 n, .int .i64 16] w fun e w' => e = .returned (.int .i64 ((n + 8) / 16)) ∧ w = w' := by
  obtain ⟨m, hm⟩ : ∃ m, n + 8 = m := ⟨_, rfl⟩
  have w1 : IntKind.i64.wrap (n + 8) = m := by rw [hm]; exact IntWalk.i64_in _ ⟨by omega, by omega⟩
  have w2 : wrap64 (n + 8) = m := by rw [← IntWalk.i64_left, w1]
  rcases tdiv_flo m 16 (by omega) with ⟨ht, he⟩ | ⟨ht, he⟩
  · have b1 : m.tdiv 16 ≤ 100000009 := by omega
    have b2 : -100000009 ≤ m.tdiv 16 := by omega
    rw [hm]
    have H := Lib.hid he
    clear he hm
    go_enter Tryd.func53, Tryd.ntmps53
    go_wp2
    go_ret
    exact ⟨by rw [← H.out]; rfl, rfl⟩
  · have b1 : m.tdiv 16 ≤ 100000009 := by omega
    have b2 : -100000009 ≤ m.tdiv 16 := by omega
    rw [hm]
    have H := Lib.hid he
    clear he hm
    go_enter Tryd.func53, Tryd.ntmps53
    go_wp2
    go_ret
    exact ⟨by rw [← H.out]; rfl, rfl⟩

def invL (cs : List Int) : List Int := tab (fun k => ((hadL cs)[k]?.getD 0 + 8) / 16) 16
theorem invL_len (cs : List Int) : (invL cs).length = 16 := length_tab _ _
set_option maxRecDepth 100000 in
theorem l3Inverse (xs : List Int) (w : World) (hx : xs.length = 16) (hB : Hid (inB xs 4080 = true)) :
    Calls Tryd.prog 38 #[.agg (arr xs)] w fun e w' => e = .returned (.agg (arr (invL xs))) ∧ Q w w' := by
  have s1 := arr_size xs
  rw [hx] at s1
  have QQ : Q w ((w.alloc (.cells (arr xs) 22)).alloc (.cells (arr (List.replicate 16 0)) 22)) := (by repeat (first | exact Q.refl _ | assumption | refine Q.drewN ?_ _ | refine Q.drew ?_ | refine Q.alloc ?_ _ | refine Q.trans ?_ (by assumption) | refine Q.set ?_ (by first | exact Nat.le_refl _ | omega | (simp; done) | (simp; omega)) _))
  have ba := (Bl.new w xs hx).alloc (.cells (arr (List.replicate 16 0)) 22)
  have bb := Bl.zero (w.alloc (.cells (arr xs) 22))
  simp only [World.size_alloc] at bb
  have hl := hadL_len xs
  have hbn := hadL_bnd (inB_bnd hB.out (by omega)) (by omega)
  have s0 : ((w.alloc (.cells (arr xs) 22)).alloc (.cells (arr (List.replicate 16 0)) 22)).heap.size = w.heap.size + 1 + 1 := by simp
  go_enter Tryd.func38, Tryd.ntmps38
  go_wp2_with (first | refine wpList_load_arr rfl _ rfl _ rfl _ (by assumption) ?_ | refine wpList_load_arr_g (by rfl) _ rfl _ rfl _ (by assumption) ?_)
  refine (l3Apply 4080 xs _ hx (inB_bnd hB.out (by omega)) (by omega) (by omega)).mono ?_; rintro e wv ⟨rfl, q1⟩
  have s2 : w.heap.size + 1 + 1 ≤ wv.heap.size := by have := q1.size; simp only [World.size_alloc] at this; exact this
  replace ba := ba.q q1
  replace bb := bb.q q1
  replace QQ := QQ.trans q1
  clear q1
  have hinv : ∀ zs, zs = hadL xs → invL xs = tab (fun k => (zs[k]?.getD 0 + 8) / 16) 16 := fun zs e => by rw [e]; rfl
  obtain ⟨zs, hzs⟩ : ∃ zs, zs = hadL xs := ⟨_, rfl⟩
  have HI := Lib.hid (hinv zs hzs)
  rw [← hzs] at hl hbn ⊢
  have HBN := Lib.hid hbn
  clear hinv hzs hbn
  have s4 := arr_size zs
  rw [hl] at s4
  go_wp2_with (refine wpList_new_arr rfl _ rfl rfl rfl _ _ rfl rfl _ rfl hl ?_; intro w5 bc q5 s5)
  have hsz : w.heap.size + 2 ≤ wv.heap.size := by omega
  replace bb := bb.q q5
  replace QQ := QQ.trans q5
  clear ba q5 s0
  generalize wv.heap.size = g at bc s5 hsz ⊢
  go_loopw [4] (fun i wr => ∃ k : Nat, k ≤ 16 ∧ i = .int .i64 k ∧ Hid (Bl wr g (tab (fun j => if j < k then (zs[j]?.getD 0 + 8) / 16 else zs[j]?.getD 0) 16) ∧ Bl wr (w.heap.size + 1) (List.replicate 16 0) ∧ Q w wr)) (fun i _ => 16 - (intOf i).toNat)
  case atStart => exact ⟨0, by omega, rfl, by rw [mix_none _ zs hl]; exact bc, bb, QQ⟩
  case round =>
    obtain ⟨k, hk, rfl, hK⟩ := hrel
    clear bc bb QQ
    obtain ⟨k1, k2, k3⟩ := hK.out
    clear hK
    by_cases hlt : k < 16
    · have hk16 : (k : Int) < 16 := by omega
      have hst := set_mix (fun j => (zs[j]?.getD 0 + 8) / 16) (fun j => zs[j]?.getD 0) k hlt
      have c1 := k1.at k hlt
      have f1 := k1.free k
      rw [mix_at _ _ _ _ hlt (Nat.le_refl _)] at c1
      obtain ⟨b1, b2⟩ := HBN.out k
      generalize zs[k]?.getD 0 = y at hst c1 b1 b2
      have n1 := Lib.hid (k1.set k ((y + 8) / 16))
      rw [hst] at n1
      have n2 := Lib.hid (k2.far (p := ⟨g, k, none⟩) (by show w.heap.size + 1 ≠ g; omega) (.int .i64 ((y + 8) / 16)))
      have n3 := Lib.hid (k3.set (p := ⟨g, k, none⟩) (by show w.heap.size ≤ g; omega) (.int .i64 ((y + 8) / 16)))
      clear hst k1 k2 k3
      go_wp2_with fail
      refine (l3Round y _ (by omega) (by omega)).mono ?_; rintro e w' ⟨rfl, rfl⟩
      generalize (y + 8) / 16 = v at n1 n2 n3 ⊢
      go_wp2_with fail
      go_roundw
      case rel => exact ⟨k + 1, by omega, by go_num, n1.out, n2.out, n3.out⟩
      case measure => simp [intOf]; omega
    · have hk16 : k = 16 := by omega
      subst hk16
      rw [mix_full, ← HI.out] at k1
      have K3 := Lib.hid k3
      clear k3
      have hli := invL_len xs
      generalize hvs : invL xs = vs at k1 hli
      have HVS := Lib.hid hvs
      clear hvs
      go_wp2_with (first | (first | refine wpList_load_arr rfl _ rfl _ rfl _ (by assumption) ?_ | refine wpList_load_arr_g (by rfl) _ rfl _ rfl _ (by assumption) ?_) | (refine wpList_store_arr rfl _ _ rfl _ rfl _ _ rfl (by first | assumption | rfl) (by assumption) ?_; intro w9 b9 g9 s9))
      refine bodyPost_ret (v := .agg (arr _)) (results_cell_row (by rfl) _ _ _ _ _ _ _ (by rfl) (Bl.blk b9) Tryd.underlying22 rfl (by rw [arr_size, hli]; exact info_arr)) rfl ⟨by rw [HVS.out], ?_⟩
      exact K3.out.grown g9 (fun k e => by have := Option.some.inj e; omega)
set_option maxRecDepth 100000 in
theorem InverseTransform (xs : List Int) (w : World) (hx : xs.length = 16) (hB : Hid (inB xs 4080 = true)) :
    Calls Tryd.prog 41 #[.agg (arr xs)] w fun e w' => e = .returned (.agg (arr (invL xs))) ∧ Q w w' := by
  have s1 := arr_size xs
  rw [hx] at s1
  have QQ : Q w ((w.alloc (.cells (arr xs) 22)).alloc (.cells (arr (List.replicate 16 0)) 22)) := (by repeat (first | exact Q.refl _ | assumption | refine Q.drewN ?_ _ | refine Q.drew ?_ | refine Q.alloc ?_ _ | refine Q.trans ?_ (by assumption) | refine Q.set ?_ (by first | exact Nat.le_refl _ | omega | (simp; done) | (simp; omega)) _))
  have ba := (Bl.new w xs hx).alloc (.cells (arr (List.replicate 16 0)) 22)
  have bb := Bl.zero (w.alloc (.cells (arr xs) 22))
  simp only [World.size_alloc] at bb
  have hl := hadL_len xs
  have hbn := hadL_bnd (inB_bnd hB.out (by omega)) (by omega)
  have s0 : ((w.alloc (.cells (arr xs) 22)).alloc (.cells (arr (List.replicate 16 0)) 22)).heap.size = w.heap.size + 1 + 1 := by simp
  go_enter Tryd.func41, Tryd.ntmps41
  go_wp2_with (first | refine wpList_load_arr rfl _ rfl _ rfl _ (by assumption) ?_ | refine wpList_load_arr_g (by rfl) _ rfl _ rfl _ (by assumption) ?_)
  refine (blockWithin xs 4080 true _ hx (by omega) (by omega) hB).mono ?_; rintro e wv ⟨rfl, q1⟩
  have s2 : w.heap.size + 1 + 1 ≤ wv.heap.size := by have := q1.size; simp only [World.size_alloc] at this; exact this
  replace ba := ba.q q1
  replace bb := bb.q q1
  replace QQ := QQ.trans q1
  clear q1
  go_wp2_with (first | refine wpList_load_arr rfl _ rfl _ rfl _ (by assumption) ?_ | refine wpList_load_arr_g (by rfl) _ rfl _ rfl _ (by assumption) ?_)
  refine (had_ok 4080 xs _ hx (inB_bnd hB.out (by omega)) (by omega) (by omega)).mono ?_; rintro e wv ⟨rfl, q1⟩
  have s3 : w.heap.size + 1 + 1 ≤ wv.heap.size := Nat.le_trans s2 q1.size
  replace ba := ba.q q1
  replace bb := bb.q q1
  replace QQ := QQ.trans q1
  clear q1
  have hinv : ∀ zs, zs = hadL xs → invL xs = tab (fun k => (zs[k]?.getD 0 + 8) / 16) 16 := fun zs e => by rw [e]; rfl
  obtain ⟨zs, hzs⟩ : ∃ zs, zs = hadL xs := ⟨_, rfl⟩
  have HI := Lib.hid (hinv zs hzs)
  rw [← hzs] at hl hbn ⊢
  have HBN := Lib.hid hbn
  clear hinv hzs hbn
  have s4 := arr_size zs
  rw [hl] at s4
  go_wp2_with (first | (first | refine wpList_load_arr rfl _ rfl _ rfl _ (by assumption) ?_ | refine wpList_load_arr_g (by rfl) _ rfl _ rfl _ (by assumption) ?_) | (refine wpList_new_arr rfl _ rfl rfl rfl _ _ rfl rfl _ rfl hl ?_; intro w5 bc q5 s5))
  have hsz : w.heap.size + 2 ≤ wv.heap.size := by omega
  replace bb := bb.q q5
  replace QQ := QQ.trans q5
  clear ba q5 s0
  generalize wv.heap.size = g at bc s5 hsz ⊢
  go_loopw [13] (fun i wr => ∃ k : Nat, k ≤ 16 ∧ i = .int .i64 k ∧ Hid (Bl wr g (tab (fun j => if j < k then (zs[j]?.getD 0 + 8) / 16 else zs[j]?.getD 0) 16) ∧ Bl wr (w.heap.size + 1) (List.replicate 16 0) ∧ Q w wr)) (fun i _ => 16 - (intOf i).toNat)
  case atStart => exact ⟨0, by omega, rfl, by rw [mix_none _ zs hl]; exact bc, bb, QQ⟩
  case round =>
    obtain ⟨k, hk, rfl, hK⟩ := hrel
    clear bc bb QQ
    obtain ⟨k1, k2, k3⟩ := hK.out
    clear hK
    by_cases hlt : k < 16
    · have hk16 : (k : Int) < 16 := by omega
      have hst := set_mix (fun j => (zs[j]?.getD 0 + 8) / 16) (fun j => zs[j]?.getD 0) k hlt
      have c1 := k1.at k hlt
      have f1 := k1.free k
      have he := fun w => run_index_arr zs k hl hlt w
      rw [mix_at _ _ _ _ hlt (Nat.le_refl _)] at c1
      obtain ⟨b1, b2⟩ := HBN.out k
      generalize zs[k]?.getD 0 = y at hst c1 b1 b2 he
      have n1 := Lib.hid (k1.set k ((y + 8) / 16))
      rw [hst] at n1
      have n2 := Lib.hid (k2.far (p := ⟨g, k, none⟩) (by show w.heap.size + 1 ≠ g; omega) (.int .i64 ((y + 8) / 16)))
      have n3 := Lib.hid (k3.set (p := ⟨g, k, none⟩) (by show w.heap.size ≤ g; omega) (.int .i64 ((y + 8) / 16)))
      have w1 : IntKind.i64.wrap (y + 8) = y + 8 := IntWalk.i64_in _ ⟨by omega, by omega⟩
      clear hst k1 k2 k3
      go_wp2_with fail
      go_roundw
      case rel => exact ⟨k + 1, by omega, by go_num, n1.out, n2.out, n3.out⟩
      case measure => simp [intOf]; omega
    · have hk16 : k = 16 := by omega
      subst hk16
      rw [mix_full, ← HI.out] at k1
      have K3 := Lib.hid k3
      clear k3
      have hli := invL_len xs
      generalize hvs : invL xs = vs at k1 hli
      have HVS := Lib.hid hvs
      clear hvs
      go_wp2_with (first | (first | refine wpList_load_arr rfl _ rfl _ rfl _ (by assumption) ?_ | refine wpList_load_arr_g (by rfl) _ rfl _ rfl _ (by assumption) ?_) | (refine wpList_store_arr rfl _ _ rfl _ rfl _ _ rfl (by first | assumption | rfl) (by assumption) ?_; intro w9 b9 g9 s9))
      refine bodyPost_ret (v := .agg (arr _)) (results_cell_row (by rfl) _ _ _ _ _ _ _ (by rfl) (Bl.blk b9) Tryd.underlying22 rfl (by rw [arr_size, hli]; exact info_arr)) rfl ⟨by rw [HVS.out], ?_⟩
      exact K3.out.grown g9 (fun k e => by have := Option.some.inj e; omega)
end Go.Proofs.YtkdmhlbmhjolcaaDoor

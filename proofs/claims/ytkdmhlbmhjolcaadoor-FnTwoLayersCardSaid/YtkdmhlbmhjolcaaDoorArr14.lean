/-
  TwoLayers of the program.
-/
import Derived.Test.YtkdmhlbmhjolcaaDoorArr13
import Derived.Test.YtkdmhlbmhjolcaaDoorTakesM
import Derived.Deep.DeepCutAuto
import Derived.Deep.RegionWith
namespace Go.Proofs.YtkdmhlbmhjolcaaDoor
open Go.RowKit

theorem results_two_rows {P : Program} {fn : Func} {p q : Tmp} {ty : TypeId} (h : fn.results = #[.cell p ty, .cell q ty]) (tmps : Array Value) (w : World) (g g' : Nat) (t t' : TypeId) (cs cs' : Array Value) (fr fr' : Nat × Nat) (d : TypeDesc)
    (hp : tmps.getD p undef = .pointer (some ⟨g, 0, none⟩)) (hg : w.heap[g]? = some (.cells cs t fr)) (hq : tmps.getD q undef = .pointer (some ⟨g', 0, none⟩)) (hg' : w.heap[g']? = some (.cells cs' t' fr'))
    (hu : P.underlying ty = some d) (hd : (match d with | .struct _ | .array _ _ => true | _ => false) = true) (hi : (P.info? ty).map (·.size) = some cs.size) (hi' : (P.info? ty).map (·.size) = some cs'.size) :
    (results fn tmps).run P w = .ok (.tuple #[.agg cs, .agg cs']) w := by
  have hp' : tmps[p]?.getD undef = .pointer (some ⟨g, 0, none⟩) := by simpa using hp
  have hq' : tmps[q]?.getD undef = .pointer (some ⟨g', 0, none⟩) := by simpa using hq
  simp [results, h, hp', hq', asAddr, run_loadVar_row w g t ty cs fr d hg hu hd hi, run_loadVar_row w g' t' ty cs' fr' d hg' hu hd hi', Sem.run_bind, Result.andThen]
def fineC (xs : List Int) (s s' : Int) (k : Nat) : Int := quantV (cl (hadF xs k - deqV (codeC xs s k) s) 4080) s'
def twoOk (xs : List Int) (base fine : Int) : Bool := inB xs 255 && rB base fine
def lowL (xs : List Int) (base fine : Int) : List Int := if twoOk xs base fine = true then tab (codeC xs (step base.toNat)) 16 else zeros
def highL (xs : List Int) (base fine : Int) : List Int := if twoOk xs base fine = true then tab (fineC xs (step base.toNat) (step fine.toNat)) 16 else zeros
theorem lowL_len (xs : List Int) (base fine : Int) : (lowL xs base fine).length = 16 := by
  unfold lowL
  split
  · exact length_tab _ _
  · rfl
theorem highL_len (xs : List Int) (base fine : Int) : (highL xs base fine).length = 16 := by
  unfold highL
  split
  · exact length_tab _ _
  · rfl
set_option maxRecDepth 100000 in
set_option maxHeartbeats 4000000 in
theorem impl_TwoLayers (xs : List Int) (base fine : Int) (w : World) (hT : Tb w) (hx : xs.length = 16) :
    Calls Tryd.prog 17 #[.agg (arr xs), .int .i64 base, .int .i64 fine] w fun e w' => e = .returned (.tuple #[.agg (arr (lowL xs base fine)), .agg (arr (highL xs base fine))]) ∧ Q w w' := by
  have s1 := arr_size xs
  rw [hx] at s1
  have QQ : Q w ((((w.alloc (.cells (arr xs) 22)).alloc (.cells (arr (List.replicate 16 0)) 22)).alloc (.cells (arr (List.replicate 16 0)) 22)).alloc (.cells #[.int .i64 base, .int .i64 fine] 51)) := (by repeat (first | exact Q.refl _ | assumption | refine Q.drewN ?_ _ | refine Q.drew ?_ | refine Q.alloc ?_ _ | refine Q.trans ?_ (by assumption) | refine Q.set ?_ (by first | exact Nat.le_refl _ | omega | (simp; done) | (simp; omega)) _))
  have ba := (((Bl.new w xs hx).alloc (.cells (arr (List.replicate 16 0)) 22)).alloc (.cells (arr (List.replicate 16 0)) 22)).alloc (.cells #[.int .i64 base, .int .i64 fine] 51)
  have bb := ((Bl.zero (w.alloc (.cells (arr xs) 22))).alloc (.cells (arr (List.replicate 16 0)) 22)).alloc (.cells #[.int .i64 base, .int .i64 fine] 51)
  have bc := (Bl.zero ((w.alloc (.cells (arr xs) 22)).alloc (.cells (arr (List.replicate 16 0)) 22))).alloc (.cells #[.int .i64 base, .int .i64 fine] 51)
  simp only [World.size_alloc] at bb bc
  have HT := Lib.hid (hT.q QQ)
  have hz : (List.replicate 16 (0 : Int)).length = 16 := rfl
  have hw0 : w.heap.size ≠ 0 := by have := hT.pos; omega
  clear hT
  cases hr : rB base fine
  · have HV : Hid (lowL xs base fine = zeros) := by unfold Hid lowL twoOk; rw [hr, Bool.and_false]; rfl
    have HW : Hid (highL xs base fine = zeros) := by unfold Hid highL twoOk; rw [hr, Bool.and_false]; rfl
    have HR := Lib.hid hr
    rw [HV.out, HW.out]
    clear hr
    go_enter Tryd.func17, Tryd.ntmps17
    go_wp2_with (first | refine wpList_load_arr rfl _ rfl _ rfl _ (by assumption) ?_ | refine wpList_load_arr_g (by rfl) _ rfl _ rfl _ (by assumption) ?_)
    refine (refValid _ _ _ _ HR).mono ?_; rintro e wv ⟨rfl, q1⟩
    (try replace ba := ba.q q1); (try replace bb := bb.q q1); (try replace bc := bc.q q1); (try replace bd := bd.q q1); (try replace HT := Lib.hid (HT.out.q q1)); replace QQ := QQ.trans q1; have sq := q1.size; clear q1
    (go_wp2_with (first | (first | refine wpList_load_arr rfl _ rfl _ rfl _ (by assumption) ?_ | refine wpList_load_arr_g (by rfl) _ rfl _ rfl _ (by assumption) ?_) | ((refine wpList_store_arr rfl _ _ rfl _ rfl _ (List.replicate 16 0) rfl rfl (by assumption) ?_; intro w9 b9 g9 s9); replace bc := bc.grown g9 (fun e => by have := Option.some.inj e; omega)) | ((refine wpList_store_arr rfl _ _ rfl _ rfl _ (List.replicate 16 0) rfl rfl (by assumption) ?_; intro w8 b8 g8 s8); replace b9 := b9.grown g8 (fun e => by have := Option.some.inj e; omega))); refine bodyPost_ret (v := .tuple #[.agg (arr _), .agg (arr _)]) (results_two_rows (by rfl) _ _ _ _ _ _ _ _ _ _ _ (by rfl) (Bl.blk b9) (by rfl) (Bl.blk b8) Tryd.underlying22 rfl (by rw [arr_size, hz]; exact info_arr) (by rw [arr_size, hz]; exact info_arr)) rfl ⟨rfl, (QQ.grown g9 (fun k e => by have := Option.some.inj e; omega)).grown g8 (fun k e => by have := Option.some.inj e; omega)⟩)
  · have HR := Lib.hid hr
    cases hb : inB xs 255
    · have HV : Hid (lowL xs base fine = zeros) := by unfold Hid lowL twoOk; rw [hb]; rfl
      have HW : Hid (highL xs base fine = zeros) := by unfold Hid highL twoOk; rw [hb]; rfl
      have HB := Lib.hid hb
      rw [HV.out, HW.out]
      clear hr hb
      go_enter Tryd.func17, Tryd.ntmps17
      go_wp2_with (first | refine wpList_load_arr rfl _ rfl _ rfl _ (by assumption) ?_ | refine wpList_load_arr_g (by rfl) _ rfl _ rfl _ (by assumption) ?_)
      refine (refValid _ _ _ _ HR).mono ?_; rintro e wv ⟨rfl, q1⟩
      (try replace ba := ba.q q1); (try replace bb := bb.q q1); (try replace bc := bc.q q1); (try replace bd := bd.q q1); (try replace HT := Lib.hid (HT.out.q q1)); replace QQ := QQ.trans q1; have sq := q1.size; clear q1
      go_wp2_with (first | refine wpList_load_arr rfl _ rfl _ rfl _ (by assumption) ?_ | refine wpList_load_arr_g (by rfl) _ rfl _ rfl _ (by assumption) ?_)
      refine (blockWithin xs 255 false _ hx (by omega) (by omega) HB).mono ?_; rintro e wv ⟨rfl, q1⟩
      (try replace ba := ba.q q1); (try replace bb := bb.q q1); (try replace bc := bc.q q1); (try replace bd := bd.q q1); (try replace HT := Lib.hid (HT.out.q q1)); replace QQ := QQ.trans q1; have sq := q1.size; clear q1
      (go_wp2_with (first | (first | refine wpList_load_arr rfl _ rfl _ rfl _ (by assumption) ?_ | refine wpList_load_arr_g (by rfl) _ rfl _ rfl _ (by assumption) ?_) | ((refine wpList_store_arr rfl _ _ rfl _ rfl _ (List.replicate 16 0) rfl rfl (by assumption) ?_; intro w9 b9 g9 s9); replace bc := bc.grown g9 (fun e => by have := Option.some.inj e; omega)) | ((refine wpList_store_arr rfl _ _ rfl _ rfl _ (List.replicate 16 0) rfl rfl (by assumption) ?_; intro w8 b8 g8 s8); replace b9 := b9.grown g8 (fun e => by have := Option.some.inj e; omega))); refine bodyPost_ret (v := .tuple #[.agg (arr _), .agg (arr _)]) (results_two_rows (by rfl) _ _ _ _ _ _ _ _ _ _ _ (by rfl) (Bl.blk b9) (by rfl) (Bl.blk b8) Tryd.underlying22 rfl (by rw [arr_size, hz]; exact info_arr) (by rw [arr_size, hz]; exact info_arr)) rfl ⟨rfl, (QQ.grown g9 (fun k e => by have := Option.some.inj e; omega)).grown g8 (fun k e => by have := Option.some.inj e; omega)⟩)
    · have HB := Lib.hid hb
      obtain ⟨r1, r2, r3, r4⟩ := rB_parts hr
      obtain ⟨n, rfl⟩ : ∃ n : Nat, base = (n : Int) := ⟨base.toNat, by omega⟩
      obtain ⟨f, rfl⟩ : ∃ f : Nat, fine = (f : Int) := ⟨fine.toNat, by omega⟩
      have HV : Hid (lowL xs (n : Int) (f : Int) = tab (codeC xs (step n)) 16) := by unfold Hid lowL twoOk; rw [hb, hr]; rfl
      have HW : Hid (highL xs (n : Int) (f : Int) = tab (fineC xs (step n) (step f)) 16) := by unfold Hid highL twoOk; rw [hb, hr]; rfl
      have hqb : qB (n : Int) = true := decide_eq_true ⟨by omega, by omega⟩
      have HC : Hid (codeL xs (n : Int) = tab (codeC xs (step n)) 16) := by unfold Hid codeL; rw [hb, hqb]; rfl
      rw [HV.out, HW.out]
      have n16 : n < 16 := by omega
      have f16 : f < 16 := by omega
      have HI := Lib.hid (fun k hk => hadF_in hb k hk)
      have HJ := Lib.hid (fun k hk => codeC_in hb n k n16 hk)
      have hll := hadL_len xs
      have hcl := codeL_len xs (n : Int)
      have hrl : Hid (∀ k, k < 16 → (hadL xs)[k]?.getD 0 = hadF xs k) := fun k hk => by unfold hadL; rw [tab_get _ _ _ hk]
      clear hr hb hqb r1 r2 r3 r4
      go_enter Tryd.func17, Tryd.ntmps17
      go_wp2_with (first | refine wpList_load_arr rfl _ rfl _ rfl _ (by assumption) ?_ | refine wpList_load_arr_g (by rfl) _ rfl _ rfl _ (by assumption) ?_)
      refine (refValid _ _ _ _ HR).mono ?_; rintro e wv ⟨rfl, q1⟩
      (try replace ba := ba.q q1); (try replace bb := bb.q q1); (try replace bc := bc.q q1); (try replace bd := bd.q q1); (try replace HT := Lib.hid (HT.out.q q1)); replace QQ := QQ.trans q1; have sq := q1.size; clear q1
      go_wp2_with (first | refine wpList_load_arr rfl _ rfl _ rfl _ (by assumption) ?_ | refine wpList_load_arr_g (by rfl) _ rfl _ rfl _ (by assumption) ?_)
      refine (blockWithin xs 255 true _ hx (by omega) (by omega) HB).mono ?_; rintro e wv ⟨rfl, q1⟩
      (try replace ba := ba.q q1); (try replace bb := bb.q q1); (try replace bc := bc.q q1); (try replace bd := bd.q q1); (try replace HT := Lib.hid (HT.out.q q1)); replace QQ := QQ.trans q1; have sq := q1.size; clear q1
      have hwv : w.heap.size + 1 + 1 < wv.heap.size := bc.lt
      go_upto_region 4 with (first | refine wpList_load_arr rfl _ rfl _ rfl _ (by assumption) ?_ | refine wpList_load_arr_g (by rfl) _ rfl _ rfl _ (by assumption) ?_)
      go_cut [9, 10] (fun p p' wx => ∃ g g', p = .pointer (some ⟨g, 0, none⟩) ∧ p' = .pointer (some ⟨g', 0, none⟩) ∧ Bl wx g (codeL xs (n : Int)) ∧ Bl wx g' (hadL xs) ∧ g ≠ g' ∧ wv.heap.size ≤ g ∧ wv.heap.size ≤ g' ∧ Q wv wx)
      case first =>
        refine wp_region_x (fun ww => Q wv ww ∧ Bl ww w.heap.size xs) (fun _ => false) (by kernel_rfl) ⟨(Q.refl _).drew, ba.drew⟩ (fun hS => ?_)
        refine wpAnyX_take (i := 0) (v := .agg (arr ?xv2)) rfl (by kernel_rfl) (by kernel_rfl) (by kernel_rfl) (by kernel_rfl) (fun _ _ _ h => h) (yieldsIf_load_arr (by rfl) _ rfl _ rfl _ (fun ww hSw => ?hz2)) hS ?rest2
        case hz2 => ((try dsimp only at hSw); go_split_ands; assumption)
        try simp only [Act.put, List.setIfInBounds_toArray, List.set_cons_zero, List.set_cons_succ]
        refine wpAnyX_take (i := 3) (v := .agg (arr ?xv3)) rfl (by kernel_rfl) (by kernel_rfl) (by kernel_rfl) (by kernel_rfl) (fun _ _ _ h => h) (yieldsIf_load_arr (by rfl) _ rfl _ rfl _ (fun ww hSw => ?hz3)) hS ?rest3
        case hz3 => ((try dsimp only at hSw); go_split_ands; assumption)
        try simp only [Act.put, List.setIfInBounds_toArray, List.set_cons_zero, List.set_cons_succ]
        refine wpAnyX_take (i := 1) (v := ?vv1) rfl (by kernel_rfl) (by kernel_rfl) (by kernel_rfl) (by kernel_rfl) (fun _ _ _ h => h) (Or.inl ⟨by rfl, ?hy1⟩) hS ?rest1
        case hy1 => (intro ww hSw; (try dsimp only at hSw); go_split_ands; go_simp; try with_reducible rfl)
        try simp only [Act.put, List.setIfInBounds_toArray, List.set_cons_zero, List.set_cons_succ]
        generalize wv.drew = wc at hS ⊢
        refine wpAnyX_three (i := 2) (j := 5) (k := 6) (by kernel_rfl) rfl rfl rfl rfl rfl rfl (fun K2 hK2 => ?_) (fun K2 hK2 => ?_) (fun K2 hK2 => ?_)
        · go_simp
          refine (impl_CodeBlock xs (n : Int) _ (HT.out.q hS.1) hx).mono ?_; rintro e wc ⟨rfl, qn⟩
          (try replace bn := bn.q qn)
          (try replace bm := bm.q qn)
          have zn := hS.1.trans qn
          refine hK2.out _ _ ⟨zn, ba.q zn⟩ (fun hS => ?_)
          clear hK2 K2; (try simp only [Act.put, List.setIfInBounds_toArray, List.set_cons_zero, List.set_cons_succ])
          clear zn qn
          refine wpAnyX_three (i := 4) (j := 5) (k := 6) (by kernel_rfl) rfl rfl rfl rfl rfl rfl (fun K2 hK2 => ?_) (fun K2 hK2 => ?_) (fun K2 hK2 => ?_)
          · go_simp
            refine (had_ok 255 xs _ hx (inB_bnd HB.out (by omega)) (by omega) (by omega)).mono ?_; rintro e wc ⟨rfl, qn⟩
            (try replace bn := bn.q qn)
            (try replace bm := bm.q qn)
            have zn := hS.1.trans qn
            refine hK2.out _ _ ⟨zn, ba.q zn⟩ (fun hS => ?_)
            clear hK2 K2; (try simp only [Act.put, List.setIfInBounds_toArray, List.set_cons_zero, List.set_cons_succ])
            clear zn qn
            refine wpAnyX_two (i := 5) (j := 6) (by kernel_rfl) rfl rfl rfl rfl (fun K2 hK2 => ?_) (fun K2 hK2 => ?_)
            · go_simp
              have bn := Bl.zero wc
              have hgn : wv.heap.size ≤ wc.heap.size := hS.1.size
              (try have hne := Bl.lt bm)
              have qn : Q wc (wc.alloc (.cells (arr (List.replicate 16 0)) 22)) := (Q.refl _).alloc _
              (try replace bm := bm.q qn)
              have zn := hS.1.trans qn
              refine hK2.out _ _ ⟨zn, ba.q zn⟩ (fun hS => ?_)
              clear hK2 K2; (try simp only [Act.put, List.setIfInBounds_toArray, List.set_cons_zero, List.set_cons_succ])
              clear zn qn
              change wpAnyX _ _ _ _ _ _ _ _ _ (wc.alloc (.cells (arr (List.replicate 16 0)) 22))
              change Q wv (wc.alloc (.cells (arr (List.replicate 16 0)) 22)) ∧ Bl (wc.alloc (.cells (arr (List.replicate 16 0)) 22)) _ xs at hS
              (first | generalize wc.heap.size = gn at bn hgn hne ⊢ | generalize wc.heap.size = gn at bn hgn ⊢)
              (first | generalize wc.alloc (.cells (arr (List.replicate 16 0)) 22) = wc at bn bm hS ⊢ | generalize wc.alloc (.cells (arr (List.replicate 16 0)) 22) = wc at bn hS ⊢)
              refine wpAnyX_step (k := 6) (by kernel_rfl) rfl rfl (fun K2 hK2 => ?_)
              go_simp
              have bm := Bl.zero wc
              have hgm : wv.heap.size ≤ wc.heap.size := hS.1.size
              (try have hne := Bl.lt bn)
              have qn : Q wc (wc.alloc (.cells (arr (List.replicate 16 0)) 22)) := (Q.refl _).alloc _
              (try replace bn := bn.q qn)
              have zn := hS.1.trans qn
              refine hK2.out _ _ ⟨zn, ba.q zn⟩ (fun hS => ?_)
              clear hK2 K2; (try simp only [Act.put, List.setIfInBounds_toArray, List.set_cons_zero, List.set_cons_succ])
              clear zn qn
              change wpAnyX _ _ _ _ _ _ _ _ _ (wc.alloc (.cells (arr (List.replicate 16 0)) 22))
              change Q wv (wc.alloc (.cells (arr (List.replicate 16 0)) 22)) ∧ Bl (wc.alloc (.cells (arr (List.replicate 16 0)) 22)) _ xs at hS
              (first | generalize wc.heap.size = gm at bm hgm hne ⊢ | generalize wc.heap.size = gm at bm hgm ⊢)
              (first | generalize wc.alloc (.cells (arr (List.replicate 16 0)) 22) = wc at bn bm hS ⊢ | generalize wc.alloc (.cells (arr (List.replicate 16 0)) 22) = wc at bm hS ⊢)
              refine wpAnyX_step (k := 7) (by kernel_rfl) rfl rfl (fun K2 hK2 => ?_)
              refine step_store_arr rfl _ _ rfl _ rfl _ _ rfl hcl bn ?_
              intro w9 b9 g9 s9
              have zn := hS.1.grown g9 (fun k e => by have := Option.some.inj e; omega)
              replace bm := bm.grown g9 (fun e => by have := Option.some.inj e; omega)
              refine hK2.out _ _ ⟨zn, (ba.q hS.1).grown g9 (fun e => by have := Option.some.inj e; omega)⟩ (fun hS => ?_)
              clear hK2 K2; (try simp only [Act.put, List.setIfInBounds_toArray, List.set_cons_zero, List.set_cons_succ])
              refine wpAnyX_step (k := 8) (by kernel_rfl) rfl rfl (fun K2 hK2 => ?_)
              refine step_store_arr rfl _ _ rfl _ rfl _ _ rfl hll bm ?_
              intro w8 b8 g8 s8
              have zn8 := hS.1.grown g8 (fun k e => by have := Option.some.inj e; omega)
              replace b9 := b9.grown g8 (fun e => by have := Option.some.inj e; omega)
              refine hK2.out _ _ ⟨zn8, (ba.q zn).grown g8 (fun e => by have := Option.some.inj e; omega)⟩ (fun hS => ?_)
              clear hK2 K2; (try simp only [Act.put, List.setIfInBounds_toArray, List.set_cons_zero, List.set_cons_succ])
              refine wpAnyX_done (by kernel_rfl) ?_ _
              clear hS
              go_wp2_with fail
              go_meet
              exact ⟨_, _, rfl, rfl, b9, b8, by omega, by omega, by omega, zn8⟩
            · go_simp
              have bm := Bl.zero wc
              have hgm : wv.heap.size ≤ wc.heap.size := hS.1.size
              (try have hne := Bl.lt bn)
              have qn : Q wc (wc.alloc (.cells (arr (List.replicate 16 0)) 22)) := (Q.refl _).alloc _
              (try replace bn := bn.q qn)
              have zn := hS.1.trans qn
              refine hK2.out _ _ ⟨zn, ba.q zn⟩ (fun hS => ?_)
              clear hK2 K2; (try simp only [Act.put, List.setIfInBounds_toArray, List.set_cons_zero, List.set_cons_succ])
              clear zn qn
              change wpAnyX _ _ _ _ _ _ _ _ _ (wc.alloc (.cells (arr (List.replicate 16 0)) 22))
              change Q wv (wc.alloc (.cells (arr (List.replicate 16 0)) 22)) ∧ Bl (wc.alloc (.cells (arr (List.replicate 16 0)) 22)) _ xs at hS
              (first | generalize wc.heap.size = gm at bm hgm hne ⊢ | generalize wc.heap.size = gm at bm hgm ⊢)
              (first | generalize wc.alloc (.cells (arr (List.replicate 16 0)) 22) = wc at bn bm hS ⊢ | generalize wc.alloc (.cells (arr (List.replicate 16 0)) 22) = wc at bm hS ⊢)
              refine wpAnyX_step (k := 5) (by kernel_rfl) rfl rfl (fun K2 hK2 => ?_)
              go_simp
              have bn := Bl.zero wc
              have hgn : wv.heap.size ≤ wc.heap.size := hS.1.size
              (try have hne := Bl.lt bm)
              have qn : Q wc (wc.alloc (.cells (arr (List.replicate 16 0)) 22)) := (Q.refl _).alloc _
              (try replace bm := bm.q qn)
              have zn := hS.1.trans qn
              refine hK2.out _ _ ⟨zn, ba.q zn⟩ (fun hS => ?_)
              clear hK2 K2; (try simp only [Act.put, List.setIfInBounds_toArray, List.set_cons_zero, List.set_cons_succ])
              clear zn qn
              change wpAnyX _ _ _ _ _ _ _ _ _ (wc.alloc (.cells (arr (List.replicate 16 0)) 22))
              change Q wv (wc.alloc (.cells (arr (List.replicate 16 0)) 22)) ∧ Bl (wc.alloc (.cells (arr (List.replicate 16 0)) 22)) _ xs at hS
              (first | generalize wc.heap.size = gn at bn hgn hne ⊢ | generalize wc.heap.size = gn at bn hgn ⊢)
              (first | generalize wc.alloc (.cells (arr (List.replicate 16 0)) 22) = wc at bn bm hS ⊢ | generalize wc.alloc (.cells (arr (List.replicate 16 0)) 22) = wc at bn hS ⊢)
              refine wpAnyX_step (k := 7) (by kernel_rfl) rfl rfl (fun K2 hK2 => ?_)
              refine step_store_arr rfl _ _ rfl _ rfl _ _ rfl hcl bn ?_
              intro w9 b9 g9 s9
              have zn := hS.1.grown g9 (fun k e => by have := Option.some.inj e; omega)
              replace bm := bm.grown g9 (fun e => by have := Option.some.inj e; omega)
              refine hK2.out _ _ ⟨zn, (ba.q hS.1).grown g9 (fun e => by have := Option.some.inj e; omega)⟩ (fun hS => ?_)
              clear hK2 K2; (try simp only [Act.put, List.setIfInBounds_toArray, List.set_cons_zero, List.set_cons_succ])
              refine wpAnyX_step (k := 8) (by kernel_rfl) rfl rfl (fun K2 hK2 => ?_)
              refine step_store_arr rfl _ _ rfl _ rfl _ _ rfl hll bm ?_
              intro w8 b8 g8 s8
              have zn8 := hS.1.grown g8 (fun k e => by have := Option.some.inj e; omega)
              replace b9 := b9.grown g8 (fun e => by have := Option.some.inj e; omega)
              refine hK2.out _ _ ⟨zn8, (ba.q zn).grown g8 (fun e => by have := Option.some.inj e; omega)⟩ (fun hS => ?_)
              clear hK2 K2; (try simp only [Act.put, List.setIfInBounds_toArray, List.set_cons_zero, List.set_cons_succ])
              refine wpAnyX_done (by kernel_rfl) ?_ _
              clear hS
              go_wp2_with fail
              go_meet
              exact ⟨_, _, rfl, rfl, b9, b8, by omega, by omega, by omega, zn8⟩
          · go_simp
            have bn := Bl.zero wc
            have hgn : wv.heap.size ≤ wc.heap.size := hS.1.size
            (try have hne := Bl.lt bm)
            have qn : Q wc (wc.alloc (.cells (arr (List.replicate 16 0)) 22)) := (Q.refl _).alloc _
            (try replace bm := bm.q qn)
            have zn := hS.1.trans qn
            refine hK2.out _ _ ⟨zn, ba.q zn⟩ (fun hS => ?_)
            clear hK2 K2; (try simp only [Act.put, List.setIfInBounds_toArray, List.set_cons_zero, List.set_cons_succ])
            clear zn qn
            change wpAnyX _ _ _ _ _ _ _ _ _ (wc.alloc (.cells (arr (List.replicate 16 0)) 22))
            change Q wv (wc.alloc (.cells (arr (List.replicate 16 0)) 22)) ∧ Bl (wc.alloc (.cells (arr (List.replicate 16 0)) 22)) _ xs at hS
            (first | generalize wc.heap.size = gn at bn hgn hne ⊢ | generalize wc.heap.size = gn at bn hgn ⊢)
            (first | generalize wc.alloc (.cells (arr (List.replicate 16 0)) 22) = wc at bn bm hS ⊢ | generalize wc.alloc (.cells (arr (List.replicate 16 0)) 22) = wc at bn hS ⊢)
            refine wpAnyX_two (i := 4) (j := 6) (by kernel_rfl) rfl rfl rfl rfl (fun K2 hK2 => ?_) (fun K2 hK2 => ?_)
            · go_simp
              refine (had_ok 255 xs _ hx (inB_bnd HB.out (by omega)) (by omega) (by omega)).mono ?_; rintro e wc ⟨rfl, qn⟩
              (try replace bn := bn.q qn)
              (try replace bm := bm.q qn)
              have zn := hS.1.trans qn
              refine hK2.out _ _ ⟨zn, ba.q zn⟩ (fun hS => ?_)
              clear hK2 K2; (try simp only [Act.put, List.setIfInBounds_toArray, List.set_cons_zero, List.set_cons_succ])
              clear zn qn
              refine wpAnyX_step (k := 6) (by kernel_rfl) rfl rfl (fun K2 hK2 => ?_)
              go_simp
              have bm := Bl.zero wc
              have hgm : wv.heap.size ≤ wc.heap.size := hS.1.size
              (try have hne := Bl.lt bn)
              have qn : Q wc (wc.alloc (.cells (arr (List.replicate 16 0)) 22)) := (Q.refl _).alloc _
              (try replace bn := bn.q qn)
              have zn := hS.1.trans qn
              refine hK2.out _ _ ⟨zn, ba.q zn⟩ (fun hS => ?_)
              clear hK2 K2; (try simp only [Act.put, List.setIfInBounds_toArray, List.set_cons_zero, List.set_cons_succ])
              clear zn qn
              change wpAnyX _ _ _ _ _ _ _ _ _ (wc.alloc (.cells (arr (List.replicate 16 0)) 22))
              change Q wv (wc.alloc (.cells (arr (List.replicate 16 0)) 22)) ∧ Bl (wc.alloc (.cells (arr (List.replicate 16 0)) 22)) _ xs at hS
              (first | generalize wc.heap.size = gm at bm hgm hne ⊢ | generalize wc.heap.size = gm at bm hgm ⊢)
              (first | generalize wc.alloc (.cells (arr (List.replicate 16 0)) 22) = wc at bn bm hS ⊢ | generalize wc.alloc (.cells (arr (List.replicate 16 0)) 22) = wc at bm hS ⊢)
              refine wpAnyX_step (k := 7) (by kernel_rfl) rfl rfl (fun K2 hK2 => ?_)
              refine step_store_arr rfl _ _ rfl _ rfl _ _ rfl hcl bn ?_
              intro w9 b9 g9 s9
              have zn := hS.1.grown g9 (fun k e => by have := Option.some.inj e; omega)
              replace bm := bm.grown g9 (fun e => by have := Option.some.inj e; omega)
              refine hK2.out _ _ ⟨zn, (ba.q hS.1).grown g9 (fun e => by have := Option.some.inj e; omega)⟩ (fun hS => ?_)
              clear hK2 K2; (try simp only [Act.put, List.setIfInBounds_toArray, List.set_cons_zero, List.set_cons_succ])
              refine wpAnyX_step (k := 8) (by kernel_rfl) rfl rfl (fun K2 hK2 => ?_)
              refine step_store_arr rfl _ _ rfl _ rfl _ _ rfl hll bm ?_
              intro w8 b8 g8 s8
              have zn8 := hS.1.grown g8 (fun k e => by have := Option.some.inj e; omega)
              replace b9 := b9.grown g8 (fun e => by have := Option.some.inj e; omega)
              refine hK2.out _ _ ⟨zn8, (ba.q zn).grown g8 (fun e => by have := Option.some.inj e; omega)⟩ (fun hS => ?_)
              clear hK2 K2; (try simp only [Act.put, List.setIfInBounds_toArray, List.set_cons_zero, List.set_cons_succ])
              refine wpAnyX_done (by kernel_rfl) ?_ _
              clear hS
              go_wp2_with fail
              go_meet
              exact ⟨_, _, rfl, rfl, b9, b8, by omega, by omega, by omega, zn8⟩
            · go_simp
              have bm := Bl.zero wc
              have hgm : wv.heap.size ≤ wc.heap.size := hS.1.size
              (try have hne := Bl.lt bn)
              have qn : Q wc (wc.alloc (.cells (arr (List.replicate 16 0)) 22)) := (Q.refl _).alloc _
              (try replace bn := bn.q qn)
              have zn := hS.1.trans qn
              refine hK2.out _ _ ⟨zn, ba.q zn⟩ (fun hS => ?_)
              clear hK2 K2; (try simp only [Act.put, List.setIfInBounds_toArray, List.set_cons_zero, List.set_cons_succ])
              clear zn qn
              change wpAnyX _ _ _ _ _ _ _ _ _ (wc.alloc (.cells (arr (List.replicate 16 0)) 22))
              change Q wv (wc.alloc (.cells (arr (List.replicate 16 0)) 22)) ∧ Bl (wc.alloc (.cells (arr (List.replicate 16 0)) 22)) _ xs at hS
              (first | generalize wc.heap.size = gm at bm hgm hne ⊢ | generalize wc.heap.size = gm at bm hgm ⊢)
              (first | generalize wc.alloc (.cells (arr (List.replicate 16 0)) 22) = wc at bn bm hS ⊢ | generalize wc.alloc (.cells (arr (List.replicate 16 0)) 22) = wc at bm hS ⊢)
              refine wpAnyX_step (k := 4) (by kernel_rfl) rfl rfl (fun K2 hK2 => ?_)
              go_simp
              refine (had_ok 255 xs _ hx (inB_bnd HB.out (by omega)) (by omega) (by omega)).mono ?_; rintro e wc ⟨rfl, qn⟩
              (try replace bn := bn.q qn)
              (try replace bm := bm.q qn)
              have zn := hS.1.trans qn
              refine hK2.out _ _ ⟨zn, ba.q zn⟩ (fun hS => ?_)
              clear hK2 K2; (try simp only [Act.put, List.setIfInBounds_toArray, List.set_cons_zero, List.set_cons_succ])
              clear zn qn
              refine wpAnyX_step (k := 7) (by kernel_rfl) rfl rfl (fun K2 hK2 => ?_)
              refine step_store_arr rfl _ _ rfl _ rfl _ _ rfl hcl bn ?_
              intro w9 b9 g9 s9
              have zn := hS.1.grown g9 (fun k e => by have := Option.some.inj e; omega)
              replace bm := bm.grown g9 (fun e => by have := Option.some.inj e; omega)
              refine hK2.out _ _ ⟨zn, (ba.q hS.1).grown g9 (fun e => by have := Option.some.inj e; omega)⟩ (fun hS => ?_)
              clear hK2 K2; (try simp only [Act.put, List.setIfInBounds_toArray, List.set_cons_zero, List.set_cons_succ])
              refine wpAnyX_step (k := 8) (by kernel_rfl) rfl rfl (fun K2 hK2 => ?_)
              refine step_store_arr rfl _ _ rfl _ rfl _ _ rfl hll bm ?_
              intro w8 b8 g8 s8
              have zn8 := hS.1.grown g8 (fun k e => by have := Option.some.inj e; omega)
              replace b9 := b9.grown g8 (fun e => by have := Option.some.inj e; omega)
              refine hK2.out _ _ ⟨zn8, (ba.q zn).grown g8 (fun e => by have := Option.some.inj e; omega)⟩ (fun hS => ?_)
              clear hK2 K2; (try simp only [Act.put, List.setIfInBounds_toArray, List.set_cons_zero, List.set_cons_succ])
              refine wpAnyX_done (by kernel_rfl) ?_ _
              clear hS
              go_wp2_with fail
              go_meet
              exact ⟨_, _, rfl, rfl, b9, b8, by omega, by omega, by omega, zn8⟩
          · go_simp
            have bm := Bl.zero wc
            have hgm : wv.heap.size ≤ wc.heap.size := hS.1.size
            (try have hne := Bl.lt bn)
            have qn : Q wc (wc.alloc (.cells (arr (List.replicate 16 0)) 22)) := (Q.refl _).alloc _
            (try replace bn := bn.q qn)
            have zn := hS.1.trans qn
            refine hK2.out _ _ ⟨zn, ba.q zn⟩ (fun hS => ?_)
            clear hK2 K2; (try simp only [Act.put, List.setIfInBounds_toArray, List.set_cons_zero, List.set_cons_succ])
            clear zn qn
            change wpAnyX _ _ _ _ _ _ _ _ _ (wc.alloc (.cells (arr (List.replicate 16 0)) 22))
            change Q wv (wc.alloc (.cells (arr (List.replicate 16 0)) 22)) ∧ Bl (wc.alloc (.cells (arr (List.replicate 16 0)) 22)) _ xs at hS
            (first | generalize wc.heap.size = gm at bm hgm hne ⊢ | generalize wc.heap.size = gm at bm hgm ⊢)
            (first | generalize wc.alloc (.cells (arr (List.replicate 16 0)) 22) = wc at bn bm hS ⊢ | generalize wc.alloc (.cells (arr (List.replicate 16 0)) 22) = wc at bm hS ⊢)
            refine wpAnyX_two (i := 4) (j := 5) (by kernel_rfl) rfl rfl rfl rfl (fun K2 hK2 => ?_) (fun K2 hK2 => ?_)
            · go_simp
              refine (had_ok 255 xs _ hx (inB_bnd HB.out (by omega)) (by omega) (by omega)).mono ?_; rintro e wc ⟨rfl, qn⟩
              (try replace bn := bn.q qn)
              (try replace bm := bm.q qn)
              have zn := hS.1.trans qn
              refine hK2.out _ _ ⟨zn, ba.q zn⟩ (fun hS => ?_)
              clear hK2 K2; (try simp only [Act.put, List.setIfInBounds_toArray, List.set_cons_zero, List.set_cons_succ])
              clear zn qn
              refine wpAnyX_step (k := 5) (by kernel_rfl) rfl rfl (fun K2 hK2 => ?_)
              go_simp
              have bn := Bl.zero wc
              have hgn : wv.heap.size ≤ wc.heap.size := hS.1.size
              (try have hne := Bl.lt bm)
              have qn : Q wc (wc.alloc (.cells (arr (List.replicate 16 0)) 22)) := (Q.refl _).alloc _
              (try replace bm := bm.q qn)
              have zn := hS.1.trans qn
              refine hK2.out _ _ ⟨zn, ba.q zn⟩ (fun hS => ?_)
              clear hK2 K2; (try simp only [Act.put, List.setIfInBounds_toArray, List.set_cons_zero, List.set_cons_succ])
              clear zn qn
              change wpAnyX _ _ _ _ _ _ _ _ _ (wc.alloc (.cells (arr (List.replicate 16 0)) 22))
              change Q wv (wc.alloc (.cells (arr (List.replicate 16 0)) 22)) ∧ Bl (wc.alloc (.cells (arr (List.replicate 16 0)) 22)) _ xs at hS
              (first | generalize wc.heap.size = gn at bn hgn hne ⊢ | generalize wc.heap.size = gn at bn hgn ⊢)
              (first | generalize wc.alloc (.cells (arr (List.replicate 16 0)) 22) = wc at bn bm hS ⊢ | generalize wc.alloc (.cells (arr (List.replicate 16 0)) 22) = wc at bn hS ⊢)
              refine wpAnyX_step (k := 7) (by kernel_rfl) rfl rfl (fun K2 hK2 => ?_)
              refine step_store_arr rfl _ _ rfl _ rfl _ _ rfl hcl bn ?_
              intro w9 b9 g9 s9
              have zn := hS.1.grown g9 (fun k e => by have := Option.some.inj e; omega)
              replace bm := bm.grown g9 (fun e => by have := Option.some.inj e; omega)
              refine hK2.out _ _ ⟨zn, (ba.q hS.1).grown g9 (fun e => by have := Option.some.inj e; omega)⟩ (fun hS => ?_)
              clear hK2 K2; (try simp only [Act.put, List.setIfInBounds_toArray, List.set_cons_zero, List.set_cons_succ])
              refine wpAnyX_step (k := 8) (by kernel_rfl) rfl rfl (fun K2 hK2 => ?_)
              refine step_store_arr rfl _ _ rfl _ rfl _ _ rfl hll bm ?_
              intro w8 b8 g8 s8
              have zn8 := hS.1.grown g8 (fun k e => by have := Option.some.inj e; omega)
              replace b9 := b9.grown g8 (fun e => by have := Option.some.inj e; omega)
              refine hK2.out _ _ ⟨zn8, (ba.q zn).grown g8 (fun e => by have := Option.some.inj e; omega)⟩ (fun hS => ?_)
              clear hK2 K2; (try simp only [Act.put, List.setIfInBounds_toArray, List.set_cons_zero, List.set_cons_succ])
              refine wpAnyX_done (by kernel_rfl) ?_ _
              clear hS
              go_wp2_with fail
              go_meet
              exact ⟨_, _, rfl, rfl, b9, b8, by omega, by omega, by omega, zn8⟩
            · go_simp
              have bn := Bl.zero wc
              have hgn : wv.heap.size ≤ wc.heap.size := hS.1.size
              (try have hne := Bl.lt bm)
              have qn : Q wc (wc.alloc (.cells (arr (List.replicate 16 0)) 22)) := (Q.refl _).alloc _
              (try replace bm := bm.q qn)
              have zn := hS.1.trans qn
              refine hK2.out _ _ ⟨zn, ba.q zn⟩ (fun hS => ?_)
              clear hK2 K2; (try simp only [Act.put, List.setIfInBounds_toArray, List.set_cons_zero, List.set_cons_succ])
              clear zn qn
              change wpAnyX _ _ _ _ _ _ _ _ _ (wc.alloc (.cells (arr (List.replicate 16 0)) 22))
              change Q wv (wc.alloc (.cells (arr (List.replicate 16 0)) 22)) ∧ Bl (wc.alloc (.cells (arr (List.replicate 16 0)) 22)) _ xs at hS
              (first | generalize wc.heap.size = gn at bn hgn hne ⊢ | generalize wc.heap.size = gn at bn hgn ⊢)
              (first | generalize wc.alloc (.cells (arr (List.replicate 16 0)) 22) = wc at bn bm hS ⊢ | generalize wc.alloc (.cells (arr (List.replicate 16 0)) 22) = wc at bn hS ⊢)
              refine wpAnyX_step (k := 4) (by kernel_rfl) rfl rfl (fun K2 hK2 => ?_)
              go_simp
              refine (had_ok 255 xs _ hx (inB_bnd HB.out (by omega)) (by omega) (by omega)).mono ?_; rintro e wc ⟨rfl, qn⟩
              (try replace bn := bn.q qn)
              (try replace bm := bm.q qn)
              have zn := hS.1.trans qn
              refine hK2.out _ _ ⟨zn, ba.q zn⟩ (fun hS => ?_)
              clear hK2 K2; (try simp only [Act.put, List.setIfInBounds_toArray, List.set_cons_zero, List.set_cons_succ])
              clear zn qn
              refine wpAnyX_step (k := 7) (by kernel_rfl) rfl rfl (fun K2 hK2 => ?_)
              refine step_store_arr rfl _ _ rfl _ rfl _ _ rfl hcl bn ?_
              intro w9 b9 g9 s9
              have zn := hS.1.grown g9 (fun k e => by have := Option.some.inj e; omega)
              replace bm := bm.grown g9 (fun e => by have := Option.some.inj e; omega)
              refine hK2.out _ _ ⟨zn, (ba.q hS.1).grown g9 (fun e => by have := Option.some.inj e; omega)⟩ (fun hS => ?_)
              clear hK2 K2; (try simp only [Act.put, List.setIfInBounds_toArray, List.set_cons_zero, List.set_cons_succ])
              refine wpAnyX_step (k := 8) (by kernel_rfl) rfl rfl (fun K2 hK2 => ?_)
              refine step_store_arr rfl _ _ rfl _ rfl _ _ rfl hll bm ?_
              intro w8 b8 g8 s8
              have zn8 := hS.1.grown g8 (fun k e => by have := Option.some.inj e; omega)
              replace b9 := b9.grown g8 (fun e => by have := Option.some.inj e; omega)
              refine hK2.out _ _ ⟨zn8, (ba.q zn).grown g8 (fun e => by have := Option.some.inj e; omega)⟩ (fun hS => ?_)
              clear hK2 K2; (try simp only [Act.put, List.setIfInBounds_toArray, List.set_cons_zero, List.set_cons_succ])
              refine wpAnyX_done (by kernel_rfl) ?_ _
              clear hS
              go_wp2_with fail
              go_meet
              exact ⟨_, _, rfl, rfl, b9, b8, by omega, by omega, by omega, zn8⟩
        · go_simp
          have bn := Bl.zero wc
          have hgn : wv.heap.size ≤ wc.heap.size := hS.1.size
          (try have hne := Bl.lt bm)
          have qn : Q wc (wc.alloc (.cells (arr (List.replicate 16 0)) 22)) := (Q.refl _).alloc _
          (try replace bm := bm.q qn)
          have zn := hS.1.trans qn
          refine hK2.out _ _ ⟨zn, ba.q zn⟩ (fun hS => ?_)
          clear hK2 K2; (try simp only [Act.put, List.setIfInBounds_toArray, List.set_cons_zero, List.set_cons_succ])
          clear zn qn
          change wpAnyX _ _ _ _ _ _ _ _ _ (wc.alloc (.cells (arr (List.replicate 16 0)) 22))
          change Q wv (wc.alloc (.cells (arr (List.replicate 16 0)) 22)) ∧ Bl (wc.alloc (.cells (arr (List.replicate 16 0)) 22)) _ xs at hS
          (first | generalize wc.heap.size = gn at bn hgn hne ⊢ | generalize wc.heap.size = gn at bn hgn ⊢)
          (first | generalize wc.alloc (.cells (arr (List.replicate 16 0)) 22) = wc at bn bm hS ⊢ | generalize wc.alloc (.cells (arr (List.replicate 16 0)) 22) = wc at bn hS ⊢)
          refine wpAnyX_two (i := 2) (j := 6) (by kernel_rfl) rfl rfl rfl rfl (fun K2 hK2 => ?_) (fun K2 hK2 => ?_)
          · go_simp
            refine (impl_CodeBlock xs (n : Int) _ (HT.out.q hS.1) hx).mono ?_; rintro e wc ⟨rfl, qn⟩
            (try replace bn := bn.q qn)
            (try replace bm := bm.q qn)
            have zn := hS.1.trans qn
            refine hK2.out _ _ ⟨zn, ba.q zn⟩ (fun hS => ?_)
            clear hK2 K2; (try simp only [Act.put, List.setIfInBounds_toArray, List.set_cons_zero, List.set_cons_succ])
            clear zn qn
            refine wpAnyX_two (i := 4) (j := 6) (by kernel_rfl) rfl rfl rfl rfl (fun K2 hK2 => ?_) (fun K2 hK2 => ?_)
            · go_simp
              refine (had_ok 255 xs _ hx (inB_bnd HB.out (by omega)) (by omega) (by omega)).mono ?_; rintro e wc ⟨rfl, qn⟩
              (try replace bn := bn.q qn)
              (try replace bm := bm.q qn)
              have zn := hS.1.trans qn
              refine hK2.out _ _ ⟨zn, ba.q zn⟩ (fun hS => ?_)
              clear hK2 K2; (try simp only [Act.put, List.setIfInBounds_toArray, List.set_cons_zero, List.set_cons_succ])
              clear zn qn
              refine wpAnyX_step (k := 6) (by kernel_rfl) rfl rfl (fun K2 hK2 => ?_)
              go_simp
              have bm := Bl.zero wc
              have hgm : wv.heap.size ≤ wc.heap.size := hS.1.size
              (try have hne := Bl.lt bn)
              have qn : Q wc (wc.alloc (.cells (arr (List.replicate 16 0)) 22)) := (Q.refl _).alloc _
              (try replace bn := bn.q qn)
              have zn := hS.1.trans qn
              refine hK2.out _ _ ⟨zn, ba.q zn⟩ (fun hS => ?_)
              clear hK2 K2; (try simp only [Act.put, List.setIfInBounds_toArray, List.set_cons_zero, List.set_cons_succ])
              clear zn qn
              change wpAnyX _ _ _ _ _ _ _ _ _ (wc.alloc (.cells (arr (List.replicate 16 0)) 22))
              change Q wv (wc.alloc (.cells (arr (List.replicate 16 0)) 22)) ∧ Bl (wc.alloc (.cells (arr (List.replicate 16 0)) 22)) _ xs at hS
              (first | generalize wc.heap.size = gm at bm hgm hne ⊢ | generalize wc.heap.size = gm at bm hgm ⊢)
              (first | generalize wc.alloc (.cells (arr (List.replicate 16 0)) 22) = wc at bn bm hS ⊢ | generalize wc.alloc (.cells (arr (List.replicate 16 0)) 22) = wc at bm hS ⊢)
              refine wpAnyX_step (k := 7) (by kernel_rfl) rfl rfl (fun K2 hK2 => ?_)
              refine step_store_arr rfl _ _ rfl _ rfl _ _ rfl hcl bn ?_
              intro w9 b9 g9 s9
              have zn := hS.1.grown g9 (fun k e => by have := Option.some.inj e; omega)
              replace bm := bm.grown g9 (fun e => by have := Option.some.inj e; omega)
              refine hK2.out _ _ ⟨zn, (ba.q hS.1).grown g9 (fun e => by have := Option.some.inj e; omega)⟩ (fun hS => ?_)
              clear hK2 K2; (try simp only [Act.put, List.setIfInBounds_toArray, List.set_cons_zero, List.set_cons_succ])
              refine wpAnyX_step (k := 8) (by kernel_rfl) rfl rfl (fun K2 hK2 => ?_)
              refine step_store_arr rfl _ _ rfl _ rfl _ _ rfl hll bm ?_
              intro w8 b8 g8 s8
              have zn8 := hS.1.grown g8 (fun k e => by have := Option.some.inj e; omega)
              replace b9 := b9.grown g8 (fun e => by have := Option.some.inj e; omega)
              refine hK2.out _ _ ⟨zn8, (ba.q zn).grown g8 (fun e => by have := Option.some.inj e; omega)⟩ (fun hS => ?_)
              clear hK2 K2; (try simp only [Act.put, List.setIfInBounds_toArray, List.set_cons_zero, List.set_cons_succ])
              refine wpAnyX_done (by kernel_rfl) ?_ _
              clear hS
              go_wp2_with fail
              go_meet
              exact ⟨_, _, rfl, rfl, b9, b8, by omega, by omega, by omega, zn8⟩
            · go_simp
              have bm := Bl.zero wc
              have hgm : wv.heap.size ≤ wc.heap.size := hS.1.size
              (try have hne := Bl.lt bn)
              have qn : Q wc (wc.alloc (.cells (arr (List.replicate 16 0)) 22)) := (Q.refl _).alloc _
              (try replace bn := bn.q qn)
              have zn := hS.1.trans qn
              refine hK2.out _ _ ⟨zn, ba.q zn⟩ (fun hS => ?_)
              clear hK2 K2; (try simp only [Act.put, List.setIfInBounds_toArray, List.set_cons_zero, List.set_cons_succ])
              clear zn qn
              change wpAnyX _ _ _ _ _ _ _ _ _ (wc.alloc (.cells (arr (List.replicate 16 0)) 22))
              change Q wv (wc.alloc (.cells (arr (List.replicate 16 0)) 22)) ∧ Bl (wc.alloc (.cells (arr (List.replicate 16 0)) 22)) _ xs at hS
              (first | generalize wc.heap.size = gm at bm hgm hne ⊢ | generalize wc.heap.size = gm at bm hgm ⊢)
              (first | generalize wc.alloc (.cells (arr (List.replicate 16 0)) 22) = wc at bn bm hS ⊢ | generalize wc.alloc (.cells (arr (List.replicate 16 0)) 22) = wc at bm hS ⊢)
              refine wpAnyX_step (k := 4) (by kernel_rfl) rfl rfl (fun K2 hK2 => ?_)
              go_simp
              refine (had_ok 255 xs _ hx (inB_bnd HB.out (by omega)) (by omega) (by omega)).mono ?_; rintro e wc ⟨rfl, qn⟩
              (try replace bn := bn.q qn)
              (try replace bm := bm.q qn)
              have zn := hS.1.trans qn
              refine hK2.out _ _ ⟨zn, ba.q zn⟩ (fun hS => ?_)
              clear hK2 K2; (try simp only [Act.put, List.setIfInBounds_toArray, List.set_cons_zero, List.set_cons_succ])
              clear zn qn
              refine wpAnyX_step (k := 7) (by kernel_rfl) rfl rfl (fun K2 hK2 => ?_)
              refine step_store_arr rfl _ _ rfl _ rfl _ _ rfl hcl bn ?_
              intro w9 b9 g9 s9
              have zn := hS.1.grown g9 (fun k e => by have := Option.some.inj e; omega)
              replace bm := bm.grown g9 (fun e => by have := Option.some.inj e; omega)
              refine hK2.out _ _ ⟨zn, (ba.q hS.1).grown g9 (fun e => by have := Option.some.inj e; omega)⟩ (fun hS => ?_)
              clear hK2 K2; (try simp only [Act.put, List.setIfInBounds_toArray, List.set_cons_zero, List.set_cons_succ])
              refine wpAnyX_step (k := 8) (by kernel_rfl) rfl rfl (fun K2 hK2 => ?_)
              refine step_store_arr rfl _ _ rfl _ rfl _ _ rfl hll bm ?_
              intro w8 b8 g8 s8
              have zn8 := hS.1.grown g8 (fun k e => by have := Option.some.inj e; omega)
              replace b9 := b9.grown g8 (fun e => by have := Option.some.inj e; omega)
              refine hK2.out _ _ ⟨zn8, (ba.q zn).grown g8 (fun e => by have := Option.some.inj e; omega)⟩ (fun hS => ?_)
              clear hK2 K2; (try simp only [Act.put, List.setIfInBounds_toArray, List.set_cons_zero, List.set_cons_succ])
              refine wpAnyX_done (by kernel_rfl) ?_ _
              clear hS
              go_wp2_with fail
              go_meet
              exact ⟨_, _, rfl, rfl, b9, b8, by omega, by omega, by omega, zn8⟩
          · go_simp
            have bm := Bl.zero wc
            have hgm : wv.heap.size ≤ wc.heap.size := hS.1.size
            (try have hne := Bl.lt bn)
            have qn : Q wc (wc.alloc (.cells (arr (List.replicate 16 0)) 22)) := (Q.refl _).alloc _
            (try replace bn := bn.q qn)
            have zn := hS.1.trans qn
            refine hK2.out _ _ ⟨zn, ba.q zn⟩ (fun hS => ?_)
            clear hK2 K2; (try simp only [Act.put, List.setIfInBounds_toArray, List.set_cons_zero, List.set_cons_succ])
            clear zn qn
            change wpAnyX _ _ _ _ _ _ _ _ _ (wc.alloc (.cells (arr (List.replicate 16 0)) 22))
            change Q wv (wc.alloc (.cells (arr (List.replicate 16 0)) 22)) ∧ Bl (wc.alloc (.cells (arr (List.replicate 16 0)) 22)) _ xs at hS
            (first | generalize wc.heap.size = gm at bm hgm hne ⊢ | generalize wc.heap.size = gm at bm hgm ⊢)
            (first | generalize wc.alloc (.cells (arr (List.replicate 16 0)) 22) = wc at bn bm hS ⊢ | generalize wc.alloc (.cells (arr (List.replicate 16 0)) 22) = wc at bm hS ⊢)
            refine wpAnyX_step (k := 2) (by kernel_rfl) rfl rfl (fun K2 hK2 => ?_)
            go_simp
            refine (impl_CodeBlock xs (n : Int) _ (HT.out.q hS.1) hx).mono ?_; rintro e wc ⟨rfl, qn⟩
            (try replace bn := bn.q qn)
            (try replace bm := bm.q qn)
            have zn := hS.1.trans qn
            refine hK2.out _ _ ⟨zn, ba.q zn⟩ (fun hS => ?_)
            clear hK2 K2; (try simp only [Act.put, List.setIfInBounds_toArray, List.set_cons_zero, List.set_cons_succ])
            clear zn qn
            refine wpAnyX_step (k := 4) (by kernel_rfl) rfl rfl (fun K2 hK2 => ?_)
            go_simp
            refine (had_ok 255 xs _ hx (inB_bnd HB.out (by omega)) (by omega) (by omega)).mono ?_; rintro e wc ⟨rfl, qn⟩
            (try replace bn := bn.q qn)
            (try replace bm := bm.q qn)
            have zn := hS.1.trans qn
            refine hK2.out _ _ ⟨zn, ba.q zn⟩ (fun hS => ?_)
            clear hK2 K2; (try simp only [Act.put, List.setIfInBounds_toArray, List.set_cons_zero, List.set_cons_succ])
            clear zn qn
            refine wpAnyX_step (k := 7) (by kernel_rfl) rfl rfl (fun K2 hK2 => ?_)
            refine step_store_arr rfl _ _ rfl _ rfl _ _ rfl hcl bn ?_
            intro w9 b9 g9 s9
            have zn := hS.1.grown g9 (fun k e => by have := Option.some.inj e; omega)
            replace bm := bm.grown g9 (fun e => by have := Option.some.inj e; omega)
            refine hK2.out _ _ ⟨zn, (ba.q hS.1).grown g9 (fun e => by have := Option.some.inj e; omega)⟩ (fun hS => ?_)
            clear hK2 K2; (try simp only [Act.put, List.setIfInBounds_toArray, List.set_cons_zero, List.set_cons_succ])
            refine wpAnyX_step (k := 8) (by kernel_rfl) rfl rfl (fun K2 hK2 => ?_)
            refine step_store_arr rfl _ _ rfl _ rfl _ _ rfl hll bm ?_
            intro w8 b8 g8 s8
            have zn8 := hS.1.grown g8 (fun k e => by have := Option.some.inj e; omega)
            replace b9 := b9.grown g8 (fun e => by have := Option.some.inj e; omega)
            refine hK2.out _ _ ⟨zn8, (ba.q zn).grown g8 (fun e => by have := Option.some.inj e; omega)⟩ (fun hS => ?_)
            clear hK2 K2; (try simp only [Act.put, List.setIfInBounds_toArray, List.set_cons_zero, List.set_cons_succ])
            refine wpAnyX_done (by kernel_rfl) ?_ _
            clear hS
            go_wp2_with fail
            go_meet
            exact ⟨_, _, rfl, rfl, b9, b8, by omega, by omega, by omega, zn8⟩
        · go_simp
          have bm := Bl.zero wc
          have hgm : wv.heap.size ≤ wc.heap.size := hS.1.size
          (try have hne := Bl.lt bn)
          have qn : Q wc (wc.alloc (.cells (arr (List.replicate 16 0)) 22)) := (Q.refl _).alloc _
          (try replace bn := bn.q qn)
          have zn := hS.1.trans qn
          refine hK2.out _ _ ⟨zn, ba.q zn⟩ (fun hS => ?_)
          clear hK2 K2; (try simp only [Act.put, List.setIfInBounds_toArray, List.set_cons_zero, List.set_cons_succ])
          clear zn qn
          change wpAnyX _ _ _ _ _ _ _ _ _ (wc.alloc (.cells (arr (List.replicate 16 0)) 22))
          change Q wv (wc.alloc (.cells (arr (List.replicate 16 0)) 22)) ∧ Bl (wc.alloc (.cells (arr (List.replicate 16 0)) 22)) _ xs at hS
          (first | generalize wc.heap.size = gm at bm hgm hne ⊢ | generalize wc.heap.size = gm at bm hgm ⊢)
          (first | generalize wc.alloc (.cells (arr (List.replicate 16 0)) 22) = wc at bn bm hS ⊢ | generalize wc.alloc (.cells (arr (List.replicate 16 0)) 22) = wc at bm hS ⊢)
          refine wpAnyX_two (i := 2) (j := 5) (by kernel_rfl) rfl rfl rfl rfl (fun K2 hK2 => ?_) (fun K2 hK2 => ?_)
          · go_simp
            refine (impl_CodeBlock xs (n : Int) _ (HT.out.q hS.1) hx).mono ?_; rintro e wc ⟨rfl, qn⟩
            (try replace bn := bn.q qn)
            (try replace bm := bm.q qn)
            have zn := hS.1.trans qn
            refine hK2.out _ _ ⟨zn, ba.q zn⟩ (fun hS => ?_)
            clear hK2 K2; (try simp only [Act.put, List.setIfInBounds_toArray, List.set_cons_zero, List.set_cons_succ])
            clear zn qn
            refine wpAnyX_two (i := 4) (j := 5) (by kernel_rfl) rfl rfl rfl rfl (fun K2 hK2 => ?_) (fun K2 hK2 => ?_)
            · go_simp
              refine (had_ok 255 xs _ hx (inB_bnd HB.out (by omega)) (by omega) (by omega)).mono ?_; rintro e wc ⟨rfl, qn⟩
              (try replace bn := bn.q qn)
              (try replace bm := bm.q qn)
              have zn := hS.1.trans qn
              refine hK2.out _ _ ⟨zn, ba.q zn⟩ (fun hS => ?_)
              clear hK2 K2; (try simp only [Act.put, List.setIfInBounds_toArray, List.set_cons_zero, List.set_cons_succ])
              clear zn qn
              refine wpAnyX_step (k := 5) (by kernel_rfl) rfl rfl (fun K2 hK2 => ?_)
              go_simp
              have bn := Bl.zero wc
              have hgn : wv.heap.size ≤ wc.heap.size := hS.1.size
              (try have hne := Bl.lt bm)
              have qn : Q wc (wc.alloc (.cells (arr (List.replicate 16 0)) 22)) := (Q.refl _).alloc _
              (try replace bm := bm.q qn)
              have zn := hS.1.trans qn
              refine hK2.out _ _ ⟨zn, ba.q zn⟩ (fun hS => ?_)
              clear hK2 K2; (try simp only [Act.put, List.setIfInBounds_toArray, List.set_cons_zero, List.set_cons_succ])
              clear zn qn
              change wpAnyX _ _ _ _ _ _ _ _ _ (wc.alloc (.cells (arr (List.replicate 16 0)) 22))
              change Q wv (wc.alloc (.cells (arr (List.replicate 16 0)) 22)) ∧ Bl (wc.alloc (.cells (arr (List.replicate 16 0)) 22)) _ xs at hS
              (first | generalize wc.heap.size = gn at bn hgn hne ⊢ | generalize wc.heap.size = gn at bn hgn ⊢)
              (first | generalize wc.alloc (.cells (arr (List.replicate 16 0)) 22) = wc at bn bm hS ⊢ | generalize wc.alloc (.cells (arr (List.replicate 16 0)) 22) = wc at bn hS ⊢)
              refine wpAnyX_step (k := 7) (by kernel_rfl) rfl rfl (fun K2 hK2 => ?_)
              refine step_store_arr rfl _ _ rfl _ rfl _ _ rfl hcl bn ?_
              intro w9 b9 g9 s9
              have zn := hS.1.grown g9 (fun k e => by have := Option.some.inj e; omega)
              replace bm := bm.grown g9 (fun e => by have := Option.some.inj e; omega)
              refine hK2.out _ _ ⟨zn, (ba.q hS.1).grown g9 (fun e => by have := Option.some.inj e; omega)⟩ (fun hS => ?_)
              clear hK2 K2; (try simp only [Act.put, List.setIfInBounds_toArray, List.set_cons_zero, List.set_cons_succ])
              refine wpAnyX_step (k := 8) (by kernel_rfl) rfl rfl (fun K2 hK2 => ?_)
              refine step_store_arr rfl _ _ rfl _ rfl _ _ rfl hll bm ?_
              intro w8 b8 g8 s8
              have zn8 := hS.1.grown g8 (fun k e => by have := Option.some.inj e; omega)
              replace b9 := b9.grown g8 (fun e => by have := Option.some.inj e; omega)
              refine hK2.out _ _ ⟨zn8, (ba.q zn).grown g8 (fun e => by have := Option.some.inj e; omega)⟩ (fun hS => ?_)
              clear hK2 K2; (try simp only [Act.put, List.setIfInBounds_toArray, List.set_cons_zero, List.set_cons_succ])
              refine wpAnyX_done (by kernel_rfl) ?_ _
              clear hS
              go_wp2_with fail
              go_meet
              exact ⟨_, _, rfl, rfl, b9, b8, by omega, by omega, by omega, zn8⟩
            · go_simp
              have bn := Bl.zero wc
              have hgn : wv.heap.size ≤ wc.heap.size := hS.1.size
              (try have hne := Bl.lt bm)
              have qn : Q wc (wc.alloc (.cells (arr (List.replicate 16 0)) 22)) := (Q.refl _).alloc _
              (try replace bm := bm.q qn)
              have zn := hS.1.trans qn
              refine hK2.out _ _ ⟨zn, ba.q zn⟩ (fun hS => ?_)
              clear hK2 K2; (try simp only [Act.put, List.setIfInBounds_toArray, List.set_cons_zero, List.set_cons_succ])
              clear zn qn
              change wpAnyX _ _ _ _ _ _ _ _ _ (wc.alloc (.cells (arr (List.replicate 16 0)) 22))
              change Q wv (wc.alloc (.cells (arr (List.replicate 16 0)) 22)) ∧ Bl (wc.alloc (.cells (arr (List.replicate 16 0)) 22)) _ xs at hS
              (first | generalize wc.heap.size = gn at bn hgn hne ⊢ | generalize wc.heap.size = gn at bn hgn ⊢)
              (first | generalize wc.alloc (.cells (arr (List.replicate 16 0)) 22) = wc at bn bm hS ⊢ | generalize wc.alloc (.cells (arr (List.replicate 16 0)) 22) = wc at bn hS ⊢)
              refine wpAnyX_step (k := 4) (by kernel_rfl) rfl rfl (fun K2 hK2 => ?_)
              go_simp
              refine (had_ok 255 xs _ hx (inB_bnd HB.out (by omega)) (by omega) (by omega)).mono ?_; rintro e wc ⟨rfl, qn⟩
              (try replace bn := bn.q qn)
              (try replace bm := bm.q qn)
              have zn := hS.1.trans qn
              refine hK2.out _ _ ⟨zn, ba.q zn⟩ (fun hS => ?_)
              clear hK2 K2; (try simp only [Act.put, List.setIfInBounds_toArray, List.set_cons_zero, List.set_cons_succ])
              clear zn qn
              refine wpAnyX_step (k := 7) (by kernel_rfl) rfl rfl (fun K2 hK2 => ?_)
              refine step_store_arr rfl _ _ rfl _ rfl _ _ rfl hcl bn ?_
              intro w9 b9 g9 s9
              have zn := hS.1.grown g9 (fun k e => by have := Option.some.inj e; omega)
              replace bm := bm.grown g9 (fun e => by have := Option.some.inj e; omega)
              refine hK2.out _ _ ⟨zn, (ba.q hS.1).grown g9 (fun e => by have := Option.some.inj e; omega)⟩ (fun hS => ?_)
              clear hK2 K2; (try simp only [Act.put, List.setIfInBounds_toArray, List.set_cons_zero, List.set_cons_succ])
              refine wpAnyX_step (k := 8) (by kernel_rfl) rfl rfl (fun K2 hK2 => ?_)
              refine step_store_arr rfl _ _ rfl _ rfl _ _ rfl hll bm ?_
              intro w8 b8 g8 s8
              have zn8 := hS.1.grown g8 (fun k e => by have := Option.some.inj e; omega)
              replace b9 := b9.grown g8 (fun e => by have := Option.some.inj e; omega)
              refine hK2.out _ _ ⟨zn8, (ba.q zn).grown g8 (fun e => by have := Option.some.inj e; omega)⟩ (fun hS => ?_)
              clear hK2 K2; (try simp only [Act.put, List.setIfInBounds_toArray, List.set_cons_zero, List.set_cons_succ])
              refine wpAnyX_done (by kernel_rfl) ?_ _
              clear hS
              go_wp2_with fail
              go_meet
              exact ⟨_, _, rfl, rfl, b9, b8, by omega, by omega, by omega, zn8⟩
          · go_simp
            have bn := Bl.zero wc
            have hgn : wv.heap.size ≤ wc.heap.size := hS.1.size
            (try have hne := Bl.lt bm)
            have qn : Q wc (wc.alloc (.cells (arr (List.replicate 16 0)) 22)) := (Q.refl _).alloc _
            (try replace bm := bm.q qn)
            have zn := hS.1.trans qn
            refine hK2.out _ _ ⟨zn, ba.q zn⟩ (fun hS => ?_)
            clear hK2 K2; (try simp only [Act.put, List.setIfInBounds_toArray, List.set_cons_zero, List.set_cons_succ])
            clear zn qn
            change wpAnyX _ _ _ _ _ _ _ _ _ (wc.alloc (.cells (arr (List.replicate 16 0)) 22))
            change Q wv (wc.alloc (.cells (arr (List.replicate 16 0)) 22)) ∧ Bl (wc.alloc (.cells (arr (List.replicate 16 0)) 22)) _ xs at hS
            (first | generalize wc.heap.size = gn at bn hgn hne ⊢ | generalize wc.heap.size = gn at bn hgn ⊢)
            (first | generalize wc.alloc (.cells (arr (List.replicate 16 0)) 22) = wc at bn bm hS ⊢ | generalize wc.alloc (.cells (arr (List.replicate 16 0)) 22) = wc at bn hS ⊢)
            refine wpAnyX_step (k := 2) (by kernel_rfl) rfl rfl (fun K2 hK2 => ?_)
            go_simp
            refine (impl_CodeBlock xs (n : Int) _ (HT.out.q hS.1) hx).mono ?_; rintro e wc ⟨rfl, qn⟩
            (try replace bn := bn.q qn)
            (try replace bm := bm.q qn)
            have zn := hS.1.trans qn
            refine hK2.out _ _ ⟨zn, ba.q zn⟩ (fun hS => ?_)
            clear hK2 K2; (try simp only [Act.put, List.setIfInBounds_toArray, List.set_cons_zero, List.set_cons_succ])
            clear zn qn
            refine wpAnyX_step (k := 4) (by kernel_rfl) rfl rfl (fun K2 hK2 => ?_)
            go_simp
            refine (had_ok 255 xs _ hx (inB_bnd HB.out (by omega)) (by omega) (by omega)).mono ?_; rintro e wc ⟨rfl, qn⟩
            (try replace bn := bn.q qn)
            (try replace bm := bm.q qn)
            have zn := hS.1.trans qn
            refine hK2.out _ _ ⟨zn, ba.q zn⟩ (fun hS => ?_)
            clear hK2 K2; (try simp only [Act.put, List.setIfInBounds_toArray, List.set_cons_zero, List.set_cons_succ])
            clear zn qn
            refine wpAnyX_step (k := 7) (by kernel_rfl) rfl rfl (fun K2 hK2 => ?_)
            refine step_store_arr rfl _ _ rfl _ rfl _ _ rfl hcl bn ?_
            intro w9 b9 g9 s9
            have zn := hS.1.grown g9 (fun k e => by have := Option.some.inj e; omega)
            replace bm := bm.grown g9 (fun e => by have := Option.some.inj e; omega)
            refine hK2.out _ _ ⟨zn, (ba.q hS.1).grown g9 (fun e => by have := Option.some.inj e; omega)⟩ (fun hS => ?_)
            clear hK2 K2; (try simp only [Act.put, List.setIfInBounds_toArray, List.set_cons_zero, List.set_cons_succ])
            refine wpAnyX_step (k := 8) (by kernel_rfl) rfl rfl (fun K2 hK2 => ?_)
            refine step_store_arr rfl _ _ rfl _ rfl _ _ rfl hll bm ?_
            intro w8 b8 g8 s8
            have zn8 := hS.1.grown g8 (fun k e => by have := Option.some.inj e; omega)
            replace b9 := b9.grown g8 (fun e => by have := Option.some.inj e; omega)
            refine hK2.out _ _ ⟨zn8, (ba.q zn).grown g8 (fun e => by have := Option.some.inj e; omega)⟩ (fun hS => ?_)
            clear hK2 K2; (try simp only [Act.put, List.setIfInBounds_toArray, List.set_cons_zero, List.set_cons_succ])
            refine wpAnyX_done (by kernel_rfl) ?_ _
            clear hS
            go_wp2_with fail
            go_meet
            exact ⟨_, _, rfl, rfl, b9, b8, by omega, by omega, by omega, zn8⟩
      case rest =>
      obtain ⟨g, g', rfl, rfl, b1, b2, hgg, hg1, hg2, q1⟩ := hcut
      generalize wc = wx at b1 b2 q1 ⊢
      replace bb := bb.q q1
      replace bc := bc.q q1
      replace QQ := QQ.trans q1
      replace HT := Lib.hid (HT.out.q q1)
      rw [HC.out] at b1
      clear ba q1
      generalize hadL xs = zs at hll hrl b2
      have s3 := arr_size zs
      rw [hll] at s3
      go_wp2_with (first | refine wpList_load_arr rfl _ rfl _ rfl _ (by assumption) ?_ | refine wpList_load_arr_g (by rfl) _ rfl _ rfl _ (by assumption) ?_)
      go_loopw [32] (fun i wr => ∃ k : Nat, k ≤ 16 ∧ i = .int .i64 k ∧ Hid (Bl wr g' (tab (fun j => if j < k then fineC xs (step n) (step f) j else zs[j]?.getD 0) 16) ∧ Bl wr (w.heap.size + 1) zeros ∧ Bl wr (w.heap.size + 1 + 1) zeros ∧ Bl wr g (tab (codeC xs (step n)) 16) ∧ Q w wr ∧ Tb wr)) (fun i _ => 16 - (intOf i).toNat)
      case atStart => exact ⟨0, by omega, rfl, by rw [mix_none _ zs hll]; exact b2, bb, bc, b1, QQ, HT.out⟩
      case round =>
        obtain ⟨k, hk, rfl, hK⟩ := hrel
        obtain ⟨k1, k2, k3, k4, k5, k6⟩ := hK.out
        clear hK b1 b2 bb bc QQ HT
        by_cases hlt : k < 16
        · have hk16 : (k : Int) < 16 := by omega
          have hst := set_mix (fineC xs (step n) (step f)) (fun j => zs[j]?.getD 0) k hlt
          have c2 := k4.at k hlt
          rw [tab_get _ _ _ hlt] at c2
          have he := fun w => run_index_arr zs k hll hlt w
          rw [hrl.out k hlt] at he
          obtain ⟨a1, a2⟩ := HI.out k hlt
          obtain ⟨e1, e2⟩ := HJ.out k hlt
          have T1 := Lib.hid (fun z hz => impl_Dequantize (codeC xs (step n) k) (n : Int) n z hz rfl n16 e1 e2)
          have hjc : fineC xs (step n) (step f) k = quantV (cl (hadF xs k - deqV (codeC xs (step n) k) (step n)) 4080) (step f) := rfl
          obtain ⟨v1, v2⟩ := deqV_in (codeC xs (step n) k) (step n)
          generalize deqV (codeC xs (step n) k) (step n) = d1 at T1 hjc v1 v2
          generalize codeC xs (step n) k = y at c2 T1
          generalize hadF xs k = x at he hjc a1 a2
          obtain ⟨m1, m2⟩ := cl_in (x - d1) (M := 4080) (by omega)
          have T2 := Lib.hid (fun z => clampM (x - d1) z)
          generalize cl (x - d1) 4080 = m at hjc T2 m1 m2
          have T3 := Lib.hid (fun z hz => impl_Quantize m (f : Int) f z hz rfl f16 m1 m2)
          rw [← hjc] at T3
          generalize fineC xs (step n) (step f) k = r at hst T3
          have w1 : IntKind.i64.wrap (x - d1) = x - d1 := IntWalk.i64_in _ ⟨by omega, by omega⟩
          have HST := Lib.hid hst
          have K1 := Lib.hid k1
          have K2 := Lib.hid k2
          have K3 := Lib.hid k3
          have K4 := Lib.hid k4
          have K5 := Lib.hid k5
          have K6 := Lib.hid k6
          clear hst hjc k1 k2 k3 k4 k5 k6
          go_wp2_with fail
          refine (T1.out _ K6.out).mono ?_; rintro e wa ⟨rfl, q1⟩
          go_wp2_with fail
          refine (T2.out _).mono ?_; rintro e wb ⟨rfl, rfl⟩
          go_wp2_with fail
          refine (T3.out _ (K6.out.q q1)).mono ?_; rintro e wb ⟨rfl, q2⟩
          replace q1 := q1.trans q2
          have k1 := K1.out.q q1
          have c3 := k1.at k hlt
          have f3 := k1.free k
          generalize (tab (fun j => if j < k then fineC xs (step n) (step f) j else zs[j]?.getD 0) 16)[k]?.getD 0 = zz at c3
          have n1 := Lib.hid (k1.set k r)
          rw [HST.out] at n1
          have n2 := Lib.hid ((K2.out.q q1).far (p := ⟨g', k, none⟩) (by show w.heap.size + 1 ≠ g'; omega) (.int .i64 r))
          have n3 := Lib.hid ((K3.out.q q1).far (p := ⟨g', k, none⟩) (by show w.heap.size + 1 + 1 ≠ g'; omega) (.int .i64 r))
          have n4 := Lib.hid ((K4.out.q q1).far (p := ⟨g', k, none⟩) (by show g ≠ g'; omega) (.int .i64 r))
          have n5 := Lib.hid ((K5.out.trans q1).set (p := ⟨g', k, none⟩) (by show w.heap.size ≤ g'; omega) (.int .i64 r))
          have n6 := Lib.hid (tb_set (K6.out.q q1) (p := ⟨g', k, none⟩) (by show g' ≠ 0; omega) (.int .i64 r))
          clear k1 q1 q2 c2
          go_wp2_with fail
          go_roundw
          case rel => exact ⟨k + 1, by omega, by go_num, n1.out, n2.out, n3.out, n4.out, n5.out, n6.out⟩
          case measure => simp [intOf]; omega
        · have hk16 : k = 16 := by omega
          subst hk16
          rw [mix_full] at k1
          have hml : (tab (codeC xs (step n)) 16).length = 16 := length_tab _ _
          have hnl : (tab (fineC xs (step n) (step f)) 16).length = 16 := length_tab _ _
          generalize hms : tab (codeC xs (step n)) 16 = ms at k4 hml ⊢
          generalize hns : tab (fineC xs (step n) (step f)) 16 = ns at k1 hnl ⊢
          have HMS := Lib.hid hms
          have HNS := Lib.hid hns
          clear hms hns
          have K5 := Lib.hid k5
          clear k5
          go_wp2_with fail
          refine wp_region_x (fun ww => Bl ww (g) (ms) ∧ Bl ww (g') (ns)) (fun _ => false) (by kernel_rfl) ⟨k4.drew, k1.drew⟩ (fun hS => ?_)
          refine wpAnyX_take (i := 0) (v := .agg (arr ?xv4)) rfl (by kernel_rfl) (by kernel_rfl) (by kernel_rfl) (by kernel_rfl) (fun _ _ _ h => h) (yieldsIf_load_arr (by rfl) _ rfl _ rfl _ (fun ww hSw => ?hz4)) hS ?rest4
          case hz4 => ((try dsimp only at hSw); go_split_ands; assumption)
          try simp only [Act.put, List.setIfInBounds_toArray, List.set_cons_zero, List.set_cons_succ]
          refine wpAnyX_take (i := 1) (v := .agg (arr ?xv5)) rfl (by kernel_rfl) (by kernel_rfl) (by kernel_rfl) (by kernel_rfl) (fun _ _ _ h => h) (yieldsIf_load_arr (by rfl) _ rfl _ rfl _ (fun ww hSw => ?hz5)) hS ?rest5
          case hz5 => ((try dsimp only at hSw); go_split_ands; assumption)
          try simp only [Act.put, List.setIfInBounds_toArray, List.set_cons_zero, List.set_cons_succ]
          have b7 := k2.drew
          have b8 := k3.drew
          have KD := K5.out.drew
          refine wpAnyX_step (k := 2) (by kernel_rfl) rfl rfl (fun K2 hK2 => ?_)
          refine step_store_arr rfl _ _ rfl _ rfl _ _ rfl hml b7 ?_
          intro w9 b9 g9 s9
          replace b8 := b8.grown g9 (fun e => by have := Option.some.inj e; omega)
          refine hK2.out _ _ ⟨hS.1.grown g9 (fun e => by have := Option.some.inj e; omega), hS.2.grown g9 (fun e => by have := Option.some.inj e; omega)⟩ (fun hS => ?_)
          clear hK2 K2; (try simp only [Act.put, List.setIfInBounds_toArray, List.set_cons_zero, List.set_cons_succ])
          refine wpAnyX_step (k := 3) (by kernel_rfl) rfl rfl (fun K2 hK2 => ?_)
          refine step_store_arr rfl _ _ rfl _ rfl _ _ rfl hnl b8 ?_
          intro w8 b6 g8 s8
          replace b9 := b9.grown g8 (fun e => by have := Option.some.inj e; omega)
          refine hK2.out _ _ ⟨hS.1.grown g8 (fun e => by have := Option.some.inj e; omega), hS.2.grown g8 (fun e => by have := Option.some.inj e; omega)⟩ (fun hS => ?_)
          clear hK2 K2; (try simp only [Act.put, List.setIfInBounds_toArray, List.set_cons_zero, List.set_cons_succ])
          refine wpAnyX_done (by kernel_rfl) ?_ _
          clear hS
          go_wp2_with fail
          refine bodyPost_ret (v := .tuple #[.agg (arr _), .agg (arr _)]) (results_two_rows (by rfl) _ _ _ _ _ _ _ _ _ _ _ (by rfl) (Bl.blk b9) (by rfl) (Bl.blk b6) Tryd.underlying22 rfl (by rw [arr_size, hml]; exact info_arr) (by rw [arr_size, hnl]; exact info_arr)) rfl ⟨by rw [HMS.out, HNS.out], (KD.grown g9 (fun k e => by have := Option.some.inj e; omega)).grown g8 (fun k e => by have := Option.some.inj e; omega)⟩
end Go.Proofs.YtkdmhlbmhjolcaaDoor

/-
  FnExactTwoLayers: for all residuals and indices the program's TwoLayers returns what the reference's returns; so the law returns true. Condition: the table of quantization steps reads as the program's text lays it (the card ties that).
-/
import Derived.Test.YtkdmhlbmhjolcaaDoorFrameC
import Derived.Test.YtkdmhlbmhjolcaaDoorArr15
import Derived.Test.YtkdmhlbmhjolcaaDoorTie
import Derived.Test.YtkdmhlbmhjolcaaDoorCards
namespace Go.Proofs.YtkdmhlbmhjolcaaDoor
open Go.ChangeShapes Go.WideShapes Go.ChangeAt Go.RowKit

set_option maxRecDepth 100000 in
set_option maxHeartbeats 8000000 in
theorem walk_FnExactTwoLayers (w : World) (hT : Tb w) (v0 : Value) (xs : List Int) (h0 : ArgArr v0 xs) (v1 : Value) (base : Int) (h1 : ArgInt v1 base) (v2 : Value) (fine : Int) (h2 : ArgInt v2 fine) :
    Calls Tryd.prog 5 #[v0, v1, v2] w fun e w' => e = .returned (.bool true) ∧ Q w w' := by
  obtain ⟨rfl, hx, _⟩ := h0
  obtain ⟨rfl, _, _⟩ := h1
  obtain ⟨rfl, _, _⟩ := h2
  have QQ : Q w (w.alloc (.cells (arr xs) 22)) := (by repeat (first | exact Q.refl _ | assumption | refine Q.drewN ?_ _ | refine Q.drew ?_ | refine Q.alloc ?_ _ | refine Q.trans ?_ (by assumption) | refine Q.set ?_ (by first | exact Nat.le_refl _ | omega | (simp; done) | (simp; omega)) _))
  have ba := Bl.new w xs hx
  have HT := Lib.hid (hT.q QQ)
  have s1 := arr_size xs
  rw [hx] at s1
  have hll := lowL_len xs base fine
  have hhl := highL_len xs base fine
  clear hT
  go_enter Tryd.func5, Tryd.ntmps5
  go_wp2_with (first | refine wpList_load_arr rfl _ rfl _ rfl _ (by assumption) ?_ | refine wpList_load_arr_g (by rfl) _ rfl _ rfl _ (by assumption) ?_)
  refine (toIntA16 xs _ hx).mono ?_; rintro e wv ⟨rfl, q1⟩
  replace ba := ba.q q1
  replace QQ := QQ.trans q1
  replace HT := Lib.hid (HT.out.q q1)
  clear q1
  go_wp2_with (first | refine wpList_load_arr rfl _ rfl _ rfl _ (by assumption) ?_ | refine wpList_load_arr_g (by rfl) _ rfl _ rfl _ (by assumption) ?_)
  refine (spec_TwoLayers xs base fine _ hx).mono ?_; rintro e wv ⟨rfl, q1⟩
  replace ba := ba.q q1
  replace QQ := QQ.trans q1
  replace HT := Lib.hid (HT.out.q q1)
  clear q1
  have hwv : w.heap.size < wv.heap.size := ba.lt
  have qa : Q wv ((wv.alloc (.cells (arr (List.replicate 16 0)) 22)).alloc (.cells (arr (List.replicate 16 0)) 22)) := (by repeat (first | exact Q.refl _ | assumption | refine Q.drewN ?_ _ | refine Q.drew ?_ | refine Q.alloc ?_ _ | refine Q.trans ?_ (by assumption) | refine Q.set ?_ (by first | exact Nat.le_refl _ | omega | (simp; done) | (simp; omega)) _))
  have bb := (Bl.zero wv).alloc (.cells (arr (List.replicate 16 0)) 22)
  have bc := Bl.zero (wv.alloc (.cells (arr (List.replicate 16 0)) 22))
  rw [World.size_alloc] at bc
  generalize hlo : lowL xs base fine = lo at hll ⊢
  generalize hhi : highL xs base fine = hi at hhl ⊢
  have HLO := Lib.hid hlo
  have HHI := Lib.hid hhi
  clear hlo hhi
  replace ba := ba.q qa
  go_wp2_with (first | (first | refine wpList_load_arr rfl _ rfl _ rfl _ (by assumption) ?_ | refine wpList_load_arr_g (by rfl) _ rfl _ rfl _ (by assumption) ?_) | ((refine wpList_store_arr rfl _ _ rfl _ rfl _ _ rfl (by first | assumption | rfl) (by assumption) ?_; intro w5 b5 g5 s5); replace ba := ba.grown g5 (fun e => by have := Option.some.inj e; omega); (try replace bd := bd.grown g5 (fun e => by have := Option.some.inj e; omega)); (try replace be := be.grown g5 (fun e => by have := Option.some.inj e; omega)); replace bc := bc.grown g5 (fun e => by have := Option.some.inj e; omega)) | ((refine wpList_store_arr rfl _ _ rfl _ rfl _ _ rfl (by first | assumption | rfl) (by assumption) ?_; intro w6 b6 g6 s6); replace ba := ba.grown g6 (fun e => by have := Option.some.inj e; omega); (try replace bd := bd.grown g6 (fun e => by have := Option.some.inj e; omega)); (try replace be := be.grown g6 (fun e => by have := Option.some.inj e; omega)); replace b5 := b5.grown g6 (fun e => by have := Option.some.inj e; omega)))
  have QZ := (qa.grown g5 (fun k e => by have := Option.some.inj e; omega)).grown g6 (fun k e => by have := Option.some.inj e; omega)
  replace QQ := QQ.trans QZ
  replace HT := Lib.hid (HT.out.q QZ)
  have bd := b5
  have be := b6
  have k5 := bd.lt
  have k6 := be.lt
  clear QZ qa g5 g6 s5 s6 b5 b6 bb bc
  obtain ⟨wp, rfl⟩ : ∃ wp, wp = wv := ⟨_, rfl⟩
  refine (toIntA16 xs _ hx).mono ?_; rintro e wv ⟨rfl, q1⟩
  replace ba := ba.q q1
  replace bd := bd.q q1
  replace be := be.q q1
  replace QQ := QQ.trans q1
  replace HT := Lib.hid (HT.out.q q1)
  clear q1
  go_wp2_with (first | refine wpList_load_arr rfl _ rfl _ rfl _ (by assumption) ?_ | refine wpList_load_arr_g (by rfl) _ rfl _ rfl _ (by assumption) ?_)
  refine (impl_TwoLayers xs base fine _ HT.out hx).mono ?_; rw [HLO.out, HHI.out]; rintro e wv ⟨rfl, q1⟩
  replace ba := ba.q q1
  replace bd := bd.q q1
  replace be := be.q q1
  replace QQ := QQ.trans q1
  clear q1 HT
  have k7 := bd.lt
  have k8 := be.lt
  have k9 := ba.lt
  have qa : Q wv ((wv.alloc (.cells (arr (List.replicate 16 0)) 22)).alloc (.cells (arr (List.replicate 16 0)) 22)) := (by repeat (first | exact Q.refl _ | assumption | refine Q.drewN ?_ _ | refine Q.drew ?_ | refine Q.alloc ?_ _ | refine Q.trans ?_ (by assumption) | refine Q.set ?_ (by first | exact Nat.le_refl _ | omega | (simp; done) | (simp; omega)) _))
  have bb := (Bl.zero wv).alloc (.cells (arr (List.replicate 16 0)) 22)
  have bc := Bl.zero (wv.alloc (.cells (arr (List.replicate 16 0)) 22))
  rw [World.size_alloc] at bc
  replace ba := ba.q qa
  replace bd := bd.q qa
  replace be := be.q qa
  go_wp2_with (first | (first | refine wpList_load_arr rfl _ rfl _ rfl _ (by assumption) ?_ | refine wpList_load_arr_g (by rfl) _ rfl _ rfl _ (by assumption) ?_) | ((refine wpList_store_arr rfl _ _ rfl _ rfl _ _ rfl (by first | assumption | rfl) (by assumption) ?_; intro w5 b5 g5 s5); replace ba := ba.grown g5 (fun e => by have := Option.some.inj e; omega); (try replace bd := bd.grown g5 (fun e => by have := Option.some.inj e; omega)); (try replace be := be.grown g5 (fun e => by have := Option.some.inj e; omega)); replace bc := bc.grown g5 (fun e => by have := Option.some.inj e; omega)) | ((refine wpList_store_arr rfl _ _ rfl _ rfl _ _ rfl (by first | assumption | rfl) (by assumption) ?_; intro w6 b6 g6 s6); replace ba := ba.grown g6 (fun e => by have := Option.some.inj e; omega); (try replace bd := bd.grown g6 (fun e => by have := Option.some.inj e; omega)); (try replace be := be.grown g6 (fun e => by have := Option.some.inj e; omega)); replace b5 := b5.grown g6 (fun e => by have := Option.some.inj e; omega)))
  have QZ := (qa.grown g5 (fun k e => by have := Option.some.inj e; omega)).grown g6 (fun k e => by have := Option.some.inj e; omega)
  replace QQ := QQ.trans QZ
  clear QZ qa g5 g6 s5 s6 bb bc ba
  refine (eqIntA16 lo lo _ hll hll).mono ?_; rw [beq_self_eq_true]; rintro e wy ⟨rfl, q3⟩
  replace bd := bd.q q3
  replace be := be.q q3
  replace b5 := b5.q q3
  replace b6 := b6.q q3
  replace QQ := QQ.trans q3
  clear q3
  go_wp2_with (first | refine wpList_load_arr rfl _ rfl _ rfl _ (by assumption) ?_ | refine wpList_load_arr_g (by rfl) _ rfl _ rfl _ (by assumption) ?_)
  refine (eqIntA16 hi hi _ hhl hhl).mono ?_; rw [beq_self_eq_true]; rintro e wy ⟨rfl, q3⟩
  have QZ := QQ.trans q3
  go_wp2_with fail
  go_ret
  exact ⟨rfl, QZ⟩

set_option maxRecDepth 100000 in
theorem lifted_FnExactTwoLayers (os : Os) (started : os.Started) (H : Type) (enc : TypeId × Value → H) :
    ReturnsInHanded {} Tryd.checked os 5 .any (fun w args => (Rows.fnExactTwoLayersSpec.pre enc Tryd.prog Tryd.f5 [] false w args ∧ laidMetH Tryd.prog laidQ w) ∧ sizedMet enc Tryd.prog Tryd.f5 (OpenSpec.ofChange Rows.fnExactTwoLayersSpec) false w args) (Rows.fnExactTwoLayersSpec.post enc Tryd.prog Tryd.f5 false true false false) := by
  refine returnsInHanded_of_change_and (C := Tryd.checked) (X := fun w _ => laidMetH Tryd.prog laidQ w) (fun _ _ _ hh h => h.of_heap hh) own_knob started (by kernel_rfl) Tryd.func5
    (ChangeSpec.witness_shaped (enc := enc) (C := Tryd.checked) (os := os) (X := fun w _ => laidMetH Tryd.prog laidQ w) false (World.doorLaid Tryd.prog 400 os) #[.agg (arr (List.replicate 16 0)), .int .i64 0, .int .i64 0] 8 rfl (World.shaped_of_RefB (by kernel_rfl) (by kernel_rfl)) (by kernel_rfl) (by kernel_rfl) (by kernel_rfl) (door_met os _)) ?_
  intro W base args ds gs before hval0 hW _ _ hL _
  have hval : ∀ (j : Nat) t v, Tryd.f5.params[j]? = some t → args[j]? = some v → Value.okWide Tryd.prog W .any base t v := hval0
  have hW' := hW
  obtain ⟨p, q, hA0, hV0, rfl, hfz, hnd⟩ := hW
  have hA : DataW.TrodAll enc Tryd.prog W 0 (fun _ => true) true Tryd.f5.params.toList args.toList ds p := hA0
  have hV : DataW.TrodVars enc Tryd.prog W (fun _ => true) [quantName] gs q := hV0
  rw [Tryd.params5] at hA hval
  obtain ⟨v0, vs0, d0, ds0, p0, q0, hargs, rfl, rfl, h0, r0⟩ := trodAll_cons hA
  obtain ⟨v1, vs1, d1, ds1, p1, q1, rfl, rfl, rfl, h1, r1⟩ := trodAll_cons r0
  obtain ⟨v2, vs2, d2, ds2, p2, q2, rfl, rfl, rfl, h2, r2⟩ := trodAll_cons r1
  obtain ⟨rfl, rfl, rfl⟩ := trodAll_nil r2
  obtain rfl : args = #[v0, v1, v2] := by cases args; simp_all
  have hVB : ∀ W2, Below W.heap.size W W2 → DataW.TrodVars enc Tryd.prog W2 (fun b => decide (b < W.heap.size)) [quantName] gs q := fun W2 hb => Below.trodVars laid_out hb (by kernel_rfl) hV
  obtain ⟨gv, tv, csv, fuelv, dv, pv, rfl, _, _, _, _, _⟩ := trodVars_one hV
  have k0 := h0
  have lt0 : ∀ x ∈ p0, x.block < W.heap.size := by obtain ⟨m, hm⟩ := k0; exact DataW.trod_lt m _ _ _ hm
  obtain ⟨x0, o0⟩ := open_arr (hval 0 22 v0 rfl rfl) h0
  have k1 := h1
  have lt1 : ∀ x ∈ p1, x.block < W.heap.size := by obtain ⟨m, hm⟩ := k1; exact DataW.trod_lt m _ _ _ hm
  obtain ⟨x1, o1⟩ := open_int (hval 1 3 v1 rfl rfl) h1
  have k2 := h2
  have lt2 : ∀ x ∈ p2, x.block < W.heap.size := by obtain ⟨m, hm⟩ := k2; exact DataW.trod_lt m _ _ _ hm
  obtain ⟨x2, o2⟩ := open_int (hval 2 3 v2 rfl rfl) h2
  clear hA0 hval0 hV0
  refine (walk_FnExactTwoLayers W (tb_of_laid hL) v0 x0 o0 v1 x1 o1 v2 x2 o2).mono fun e W' ⟨he, bel⟩ => ?_
  subst he
  exact ⟨_, rfl, _, _, _, [], _, _, hW', trodAll_mk1 (shut_bool Tryd.underlying4 _), (trodAll_cons_mk (Below.trod laid_out (by kernel_rfl) (of_decide_eq_true (by kernel_rfl)) k0 bel lt0) (trodAll_cons_mk (Below.trod laid_out (by kernel_rfl) (of_decide_eq_true (by kernel_rfl)) k1 bel lt1) (trodAll_cons_mk (Below.trod laid_out (by kernel_rfl) (of_decide_eq_true (by kernel_rfl)) k2 bel lt2) trodAll_mk0))), hVB _ bel, bel.frame _, fun h => by cases h⟩

theorem FnExactTwoLayers_row : Rows.FnExactTwoLayersSaid :=
  OpenClaim.holds_of_wide 5 Tryd.f5 rfl rfl rfl rfl rfl rfl rfl ⟨rfl, rfl, rfl, rfl, rfl⟩ rfl rfl rfl rfl rfl (by kernel_rfl) Tryd.func5 (by kernel_rfl)
    (of_decide_eq_true (by kernel_rfl)) (by unfold Func.isWrapper; first | (rw [if_pos (by decide +kernel)]; kernel_rfl) | (rw [if_neg (by decide +kernel)]; exact ⟨rfl, rfl⟩))
    (fun os started H enc _ => lifted_FnExactTwoLayers os started H enc)

/-- The statement. -/
theorem FnExactTwoLayers_holds : Rows.FnExactTwoLayersCardSaid :=
  Claim7.holds_tied_plain_at .later [] [.data] true (true, "0fd288b46d60ce385de9de263cac55858d689a7fd72835178befc519f3b9e924") false FnExactTwoLayers_row (fun _ h => by cases h) (by kernel_rfl) (fun _ h => by cases h) fnExactTwoLayers_row_tie rfl ⟨rfl, rfl⟩ (by kernel_rfl) rfl
    (fun f fn hf hfn => by
      obtain rfl : f = 5 := Option.some.inj ((show Tryd.prog.funcNamed "loop.example/videocodec/laws.FnExactTwoLayers" = some 5 by kernel_rfl).symm.trans hf) |>.symm
      obtain rfl : fn = Tryd.f5 := (Option.some.inj (Tryd.func5.symm.trans hfn)).symm
      exact ⟨by kernel_rfl, fun j t ht => by
        rw [Tryd.params5] at ht
        have hm : t ∈ [22, 3, 3] := by simpa using Array.mem_of_getElem? ht
        have hall : ([22, 3, 3].all fun u => !Tryd.prog.wantsStandIn u) = true := by kernel_rfl
        exact (show Tryd.prog.wantsStandIn t = false by simpa using List.all_eq_true.1 hall t hm)⟩)
    (by kernel_rfl)
#print axioms FnExactTwoLayers_holds
end Go.Proofs.YtkdmhlbmhjolcaaDoor

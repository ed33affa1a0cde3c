/-
  FnExactJoinLayers: for all levels and indices the program's JoinLayers returns what the reference's returns; so the law returns true. Condition: the table of quantization steps reads as the program's text lays it (the card ties that).
-/
import Derived.Test.YtkdmhlbmhjolcaaDoorFrameC
import Derived.Test.YtkdmhlbmhjolcaaDoorTakesM
import Derived.Test.YtkdmhlbmhjolcaaDoorTie
import Derived.Test.YtkdmhlbmhjolcaaDoorCards
import Derived.Deep.DeepCutAuto
import Derived.Deep.RegionWith
namespace Go.Proofs.YtkdmhlbmhjolcaaDoor
open Go.ChangeShapes Go.WideShapes Go.ChangeAt Go.RowKit

set_option maxRecDepth 100000 in
set_option maxHeartbeats 8000000 in
theorem walk_FnExactJoinLayers (w : World) (hT : Tb w) (v0 : Value) (lo : List Int) (h0 : ArgArr v0 lo) (v1 : Value) (hi : List Int) (h1 : ArgArr v1 hi) (v2 : Value) (base : Int) (h2 : ArgInt v2 base) (v3 : Value) (fine : Int) (h3 : ArgInt v3 fine) :
    Calls Tryd.prog 4 #[v0, v1, v2, v3] w fun e w' => e = .returned (.bool true) ∧ Q w w' := by
  obtain ⟨rfl, hx, _⟩ := h0
  obtain ⟨rfl, hl, _⟩ := h1
  obtain ⟨rfl, _, _⟩ := h2
  obtain ⟨rfl, _, _⟩ := h3
  have QQ : Q w ((w.alloc (.cells (arr lo) 22)).alloc (.cells (arr hi) 22)) := (by repeat (first | exact Q.refl _ | assumption | refine Q.drewN ?_ _ | refine Q.drew ?_ | refine Q.alloc ?_ _ | refine Q.trans ?_ (by assumption) | refine Q.set ?_ (by first | exact Nat.le_refl _ | omega | (simp; done) | (simp; omega)) _))
  have ba := (Bl.new w lo hx).alloc (.cells (arr hi) 22)
  have bb := Bl.new (w.alloc (.cells (arr lo) 22)) hi hl
  rw [World.size_alloc] at bb
  have HT := Lib.hid (hT.q QQ)
  have s1 := arr_size lo
  have s2 := arr_size hi
  rw [hx] at s1
  rw [hl] at s2
  have hjl := joinL_len lo hi base fine
  clear hT
  go_enter Tryd.func4, Tryd.ntmps4
  go_upto_region 1 with (first | refine wpList_load_arr rfl _ rfl _ rfl _ (by assumption) ?_ | refine wpList_load_arr_g (by rfl) _ rfl _ rfl _ (by assumption) ?_)
  generalize (w.alloc (.cells (arr lo) 22)).alloc (.cells (arr hi) 22) = wv at QQ ba bb HT ⊢
  have hwv : w.heap.size + 1 < wv.heap.size := bb.lt
  go_cut [9] (fun p wx => ∃ g, p = .pointer (some ⟨g, 0, none⟩) ∧ Bl wx g (joinL lo hi base fine) ∧ Q wv wx)
  case first =>
    refine wp_region_x (fun ww => Q wv ww ∧ Bl ww w.heap.size lo ∧ Bl ww (w.heap.size + 1) hi) (fun _ => false) (by kernel_rfl) ⟨(Q.refl _).drew, ba.drew, bb.drew⟩ (fun hS => ?_)
    refine wpAnyX_take (i := 0) (v := .agg (arr ?xv5)) rfl (by kernel_rfl) (by kernel_rfl) (by kernel_rfl) (by kernel_rfl) (fun _ _ _ h => h) (yieldsIf_load_arr (by rfl) _ rfl _ rfl _ (fun ww hSw => ?hz5)) hS ?rest5
    case hz5 => ((try dsimp only at hSw); go_split_ands; assumption)
    try simp only [Act.put, List.setIfInBounds_toArray, List.set_cons_zero, List.set_cons_succ]
    refine wpAnyX_take (i := 2) (v := .agg (arr ?xv6)) rfl (by kernel_rfl) (by kernel_rfl) (by kernel_rfl) (by kernel_rfl) (fun _ _ _ h => h) (yieldsIf_load_arr (by rfl) _ rfl _ rfl _ (fun ww hSw => ?hz6)) hS ?rest6
    case hz6 => ((try dsimp only at hSw); go_split_ands; assumption)
    try simp only [Act.put, List.setIfInBounds_toArray, List.set_cons_zero, List.set_cons_succ]
    refine wpAnyX_take (i := 4) (v := ?vv1) rfl (by kernel_rfl) (by kernel_rfl) (by kernel_rfl) (by kernel_rfl) (fun _ _ _ h => h) (Or.inl ⟨by rfl, ?hy1⟩) hS ?rest1
    case hy1 => (intro ww hSw; (try dsimp only at hSw); go_split_ands; go_simp; try with_reducible rfl)
    try simp only [Act.put, List.setIfInBounds_toArray, List.set_cons_zero, List.set_cons_succ]
    refine wpAnyX_take (i := 5) (v := ?vv2) rfl (by kernel_rfl) (by kernel_rfl) (by kernel_rfl) (by kernel_rfl) (fun _ _ _ h => h) (Or.inl ⟨by rfl, ?hy2⟩) hS ?rest2
    case hy2 => (intro ww hSw; (try dsimp only at hSw); go_split_ands; go_simp; try with_reducible rfl)
    try simp only [Act.put, List.setIfInBounds_toArray, List.set_cons_zero, List.set_cons_succ]
    generalize wv.drew = wc at hS ⊢
    refine wpAnyX_two (i := 1) (j := 7) (by kernel_rfl) rfl rfl rfl rfl (fun K2 hK2 => ?_) (fun K2 hK2 => ?_)
    · go_simp
      refine (toIntA16 lo _ hx).mono ?_; rintro e wc ⟨rfl, qn⟩
      (try replace bn := bn.q qn)
      have zn := hS.1.trans qn
      refine hK2.out _ _ ⟨zn, ba.q zn, bb.q zn⟩ (fun hS => ?_)
      clear hK2 K2; (try simp only [Act.put, List.setIfInBounds_toArray, List.set_cons_zero, List.set_cons_succ])
      clear zn qn
      refine wpAnyX_two (i := 3) (j := 7) (by kernel_rfl) rfl rfl rfl rfl (fun K2 hK2 => ?_) (fun K2 hK2 => ?_)
      · go_simp
        refine (toIntA16 hi _ hl).mono ?_; rintro e wc ⟨rfl, qn⟩
        (try replace bn := bn.q qn)
        have zn := hS.1.trans qn
        refine hK2.out _ _ ⟨zn, ba.q zn, bb.q zn⟩ (fun hS => ?_)
        clear hK2 K2; (try simp only [Act.put, List.setIfInBounds_toArray, List.set_cons_zero, List.set_cons_succ])
        clear zn qn
        refine wpAnyX_two (i := 6) (j := 7) (by kernel_rfl) rfl rfl rfl rfl (fun K2 hK2 => ?_) (fun K2 hK2 => ?_)
        · go_simp
          refine (spec_JoinLayers lo hi base fine _ hx hl).mono ?_; rintro e wc ⟨rfl, qn⟩
          (try replace bn := bn.q qn)
          have zn := hS.1.trans qn
          refine hK2.out _ _ ⟨zn, ba.q zn, bb.q zn⟩ (fun hS => ?_)
          clear hK2 K2; (try simp only [Act.put, List.setIfInBounds_toArray, List.set_cons_zero, List.set_cons_succ])
          clear zn qn
          refine wpAnyX_step (k := 7) (by kernel_rfl) rfl rfl (fun K2 hK2 => ?_)
          go_simp
          have bn := Bl.zero wc
          have hgn : wv.heap.size ≤ wc.heap.size := hS.1.size
          have qn : Q wc (wc.alloc (.cells (arr (List.replicate 16 0)) 22)) := (Q.refl _).alloc _
          have zn := hS.1.trans qn
          refine hK2.out _ _ ⟨zn, ba.q zn, bb.q zn⟩ (fun hS => ?_)
          clear hK2 K2; (try simp only [Act.put, List.setIfInBounds_toArray, List.set_cons_zero, List.set_cons_succ])
          clear zn qn
          change wpAnyX _ _ _ _ _ _ _ _ _ (wc.alloc (.cells (arr (List.replicate 16 0)) 22))
          change Q wv (wc.alloc (.cells (arr (List.replicate 16 0)) 22)) ∧ Bl (wc.alloc (.cells (arr (List.replicate 16 0)) 22)) _ lo ∧ Bl (wc.alloc (.cells (arr (List.replicate 16 0)) 22)) _ hi at hS
          generalize wc.heap.size = gn at bn hgn ⊢
          generalize wc.alloc (.cells (arr (List.replicate 16 0)) 22) = wc at bn hS ⊢
          refine wpAnyX_step (k := 8) (by kernel_rfl) rfl rfl (fun K2 hK2 => ?_)
          refine step_store_arr rfl _ _ rfl _ rfl _ _ rfl hjl bn ?_
          intro w9 b9 g9 s9
          have zn := hS.1.grown g9 (fun k e => by have := Option.some.inj e; omega)
          refine hK2.out _ _ ⟨zn, (ba.q hS.1).grown g9 (fun e => by have := Option.some.inj e; omega), (bb.q hS.1).grown g9 (fun e => by have := Option.some.inj e; omega)⟩ (fun hS => ?_)
          clear hK2 K2; (try simp only [Act.put, List.setIfInBounds_toArray, List.set_cons_zero, List.set_cons_succ])
          refine wpAnyX_done (by kernel_rfl) ?_ _
          clear hS
          go_wp2_with fail
          go_meet
          exact ⟨_, rfl, b9, zn⟩
        · go_simp
          have bn := Bl.zero wc
          have hgn : wv.heap.size ≤ wc.heap.size := hS.1.size
          have qn : Q wc (wc.alloc (.cells (arr (List.replicate 16 0)) 22)) := (Q.refl _).alloc _
          have zn := hS.1.trans qn
          refine hK2.out _ _ ⟨zn, ba.q zn, bb.q zn⟩ (fun hS => ?_)
          clear hK2 K2; (try simp only [Act.put, List.setIfInBounds_toArray, List.set_cons_zero, List.set_cons_succ])
          clear zn qn
          change wpAnyX _ _ _ _ _ _ _ _ _ (wc.alloc (.cells (arr (List.replicate 16 0)) 22))
          change Q wv (wc.alloc (.cells (arr (List.replicate 16 0)) 22)) ∧ Bl (wc.alloc (.cells (arr (List.replicate 16 0)) 22)) _ lo ∧ Bl (wc.alloc (.cells (arr (List.replicate 16 0)) 22)) _ hi at hS
          generalize wc.heap.size = gn at bn hgn ⊢
          generalize wc.alloc (.cells (arr (List.replicate 16 0)) 22) = wc at bn hS ⊢
          refine wpAnyX_step (k := 6) (by kernel_rfl) rfl rfl (fun K2 hK2 => ?_)
          go_simp
          refine (spec_JoinLayers lo hi base fine _ hx hl).mono ?_; rintro e wc ⟨rfl, qn⟩
          (try replace bn := bn.q qn)
          have zn := hS.1.trans qn
          refine hK2.out _ _ ⟨zn, ba.q zn, bb.q zn⟩ (fun hS => ?_)
          clear hK2 K2; (try simp only [Act.put, List.setIfInBounds_toArray, List.set_cons_zero, List.set_cons_succ])
          clear zn qn
          refine wpAnyX_step (k := 8) (by kernel_rfl) rfl rfl (fun K2 hK2 => ?_)
          refine step_store_arr rfl _ _ rfl _ rfl _ _ rfl hjl bn ?_
          intro w9 b9 g9 s9
          have zn := hS.1.grown g9 (fun k e => by have := Option.some.inj e; omega)
          refine hK2.out _ _ ⟨zn, (ba.q hS.1).grown g9 (fun e => by have := Option.some.inj e; omega), (bb.q hS.1).grown g9 (fun e => by have := Option.some.inj e; omega)⟩ (fun hS => ?_)
          clear hK2 K2; (try simp only [Act.put, List.setIfInBounds_toArray, List.set_cons_zero, List.set_cons_succ])
          refine wpAnyX_done (by kernel_rfl) ?_ _
          clear hS
          go_wp2_with fail
          go_meet
          exact ⟨_, rfl, b9, zn⟩
      · go_simp
        have bn := Bl.zero wc
        have hgn : wv.heap.size ≤ wc.heap.size := hS.1.size
        have qn : Q wc (wc.alloc (.cells (arr (List.replicate 16 0)) 22)) := (Q.refl _).alloc _
        have zn := hS.1.trans qn
        refine hK2.out _ _ ⟨zn, ba.q zn, bb.q zn⟩ (fun hS => ?_)
        clear hK2 K2; (try simp only [Act.put, List.setIfInBounds_toArray, List.set_cons_zero, List.set_cons_succ])
        clear zn qn
        change wpAnyX _ _ _ _ _ _ _ _ _ (wc.alloc (.cells (arr (List.replicate 16 0)) 22))
        change Q wv (wc.alloc (.cells (arr (List.replicate 16 0)) 22)) ∧ Bl (wc.alloc (.cells (arr (List.replicate 16 0)) 22)) _ lo ∧ Bl (wc.alloc (.cells (arr (List.replicate 16 0)) 22)) _ hi at hS
        generalize wc.heap.size = gn at bn hgn ⊢
        generalize wc.alloc (.cells (arr (List.replicate 16 0)) 22) = wc at bn hS ⊢
        refine wpAnyX_step (k := 3) (by kernel_rfl) rfl rfl (fun K2 hK2 => ?_)
        go_simp
        refine (toIntA16 hi _ hl).mono ?_; rintro e wc ⟨rfl, qn⟩
        (try replace bn := bn.q qn)
        have zn := hS.1.trans qn
        refine hK2.out _ _ ⟨zn, ba.q zn, bb.q zn⟩ (fun hS => ?_)
        clear hK2 K2; (try simp only [Act.put, List.setIfInBounds_toArray, List.set_cons_zero, List.set_cons_succ])
        clear zn qn
        refine wpAnyX_step (k := 6) (by kernel_rfl) rfl rfl (fun K2 hK2 => ?_)
        go_simp
        refine (spec_JoinLayers lo hi base fine _ hx hl).mono ?_; rintro e wc ⟨rfl, qn⟩
        (try replace bn := bn.q qn)
        have zn := hS.1.trans qn
        refine hK2.out _ _ ⟨zn, ba.q zn, bb.q zn⟩ (fun hS => ?_)
        clear hK2 K2; (try simp only [Act.put, List.setIfInBounds_toArray, List.set_cons_zero, List.set_cons_succ])
        clear zn qn
        refine wpAnyX_step (k := 8) (by kernel_rfl) rfl rfl (fun K2 hK2 => ?_)
        refine step_store_arr rfl _ _ rfl _ rfl _ _ rfl hjl bn ?_
        intro w9 b9 g9 s9
        have zn := hS.1.grown g9 (fun k e => by have := Option.some.inj e; omega)
        refine hK2.out _ _ ⟨zn, (ba.q hS.1).grown g9 (fun e => by have := Option.some.inj e; omega), (bb.q hS.1).grown g9 (fun e => by have := Option.some.inj e; omega)⟩ (fun hS => ?_)
        clear hK2 K2; (try simp only [Act.put, List.setIfInBounds_toArray, List.set_cons_zero, List.set_cons_succ])
        refine wpAnyX_done (by kernel_rfl) ?_ _
        clear hS
        go_wp2_with fail
        go_meet
        exact ⟨_, rfl, b9, zn⟩
    · go_simp
      have bn := Bl.zero wc
      have hgn : wv.heap.size ≤ wc.heap.size := hS.1.size
      have qn : Q wc (wc.alloc (.cells (arr (List.replicate 16 0)) 22)) := (Q.refl _).alloc _
      have zn := hS.1.trans qn
      refine hK2.out _ _ ⟨zn, ba.q zn, bb.q zn⟩ (fun hS => ?_)
      clear hK2 K2; (try simp only [Act.put, List.setIfInBounds_toArray, List.set_cons_zero, List.set_cons_succ])
      clear zn qn
      change wpAnyX _ _ _ _ _ _ _ _ _ (wc.alloc (.cells (arr (List.replicate 16 0)) 22))
      change Q wv (wc.alloc (.cells (arr (List.replicate 16 0)) 22)) ∧ Bl (wc.alloc (.cells (arr (List.replicate 16 0)) 22)) _ lo ∧ Bl (wc.alloc (.cells (arr (List.replicate 16 0)) 22)) _ hi at hS
      generalize wc.heap.size = gn at bn hgn ⊢
      generalize wc.alloc (.cells (arr (List.replicate 16 0)) 22) = wc at bn hS ⊢
      refine wpAnyX_step (k := 1) (by kernel_rfl) rfl rfl (fun K2 hK2 => ?_)
      go_simp
      refine (toIntA16 lo _ hx).mono ?_; rintro e wc ⟨rfl, qn⟩
      (try replace bn := bn.q qn)
      have zn := hS.1.trans qn
      refine hK2.out _ _ ⟨zn, ba.q zn, bb.q zn⟩ (fun hS => ?_)
      clear hK2 K2; (try simp only [Act.put, List.setIfInBounds_toArray, List.set_cons_zero, List.set_cons_succ])
      clear zn qn
      refine wpAnyX_step (k := 3) (by kernel_rfl) rfl rfl (fun K2 hK2 => ?_)
      go_simp
      refine (toIntA16 hi _ hl).mono ?_; rintro e wc ⟨rfl, qn⟩
      (try replace bn := bn.q qn)
      have zn := hS.1.trans qn
      refine hK2.out _ _ ⟨zn, ba.q zn, bb.q zn⟩ (fun hS => ?_)
      clear hK2 K2; (try simp only [Act.put, List.setIfInBounds_toArray, List.set_cons_zero, List.set_cons_succ])
      clear zn qn
      refine wpAnyX_step (k := 6) (by kernel_rfl) rfl rfl (fun K2 hK2 => ?_)
      go_simp
      refine (spec_JoinLayers lo hi base fine _ hx hl).mono ?_; rintro e wc ⟨rfl, qn⟩
      (try replace bn := bn.q qn)
      have zn := hS.1.trans qn
      refine hK2.out _ _ ⟨zn, ba.q zn, bb.q zn⟩ (fun hS => ?_)
      clear hK2 K2; (try simp only [Act.put, List.setIfInBounds_toArray, List.set_cons_zero, List.set_cons_succ])
      clear zn qn
      refine wpAnyX_step (k := 8) (by kernel_rfl) rfl rfl (fun K2 hK2 => ?_)
      refine step_store_arr rfl _ _ rfl _ rfl _ _ rfl hjl bn ?_
      intro w9 b9 g9 s9
      have zn := hS.1.grown g9 (fun k e => by have := Option.some.inj e; omega)
      refine hK2.out _ _ ⟨zn, (ba.q hS.1).grown g9 (fun e => by have := Option.some.inj e; omega), (bb.q hS.1).grown g9 (fun e => by have := Option.some.inj e; omega)⟩ (fun hS => ?_)
      clear hK2 K2; (try simp only [Act.put, List.setIfInBounds_toArray, List.set_cons_zero, List.set_cons_succ])
      refine wpAnyX_done (by kernel_rfl) ?_ _
      clear hS
      go_wp2_with fail
      go_meet
      exact ⟨_, rfl, b9, zn⟩
  case rest =>
  obtain ⟨g1, rfl, b1, q1⟩ := hcut
  generalize wc = wx at b1 q1 ⊢
  replace ba := ba.q q1
  replace bb := bb.q q1
  replace QQ := QQ.trans q1
  replace HT := Lib.hid (HT.out.q q1)
  replace hwv : w.heap.size + 1 < wx.heap.size := bb.lt
  obtain ⟨wv, rfl⟩ : ∃ wv, wv = wx := ⟨_, rfl⟩
  go_upto_region 2 with (first | refine wpList_load_arr rfl _ rfl _ rfl _ (by assumption) ?_ | refine wpList_load_arr_g (by rfl) _ rfl _ rfl _ (by assumption) ?_)
  go_cut [10] (fun p wx => ∃ g, p = .pointer (some ⟨g, 0, none⟩) ∧ Bl wx g (joinL lo hi base fine) ∧ Q wv wx)
  case first =>
    refine wp_region_x (fun ww => Q wv ww ∧ Bl ww w.heap.size lo ∧ Bl ww (w.heap.size + 1) hi) (fun _ => false) (by kernel_rfl) ⟨(Q.refl _).drew, ba.drew, bb.drew⟩ (fun hS => ?_)
    refine wpAnyX_take (i := 0) (v := .agg (arr ?xv7)) rfl (by kernel_rfl) (by kernel_rfl) (by kernel_rfl) (by kernel_rfl) (fun _ _ _ h => h) (yieldsIf_load_arr (by rfl) _ rfl _ rfl _ (fun ww hSw => ?hz7)) hS ?rest7
    case hz7 => ((try dsimp only at hSw); go_split_ands; assumption)
    try simp only [Act.put, List.setIfInBounds_toArray, List.set_cons_zero, List.set_cons_succ]
    refine wpAnyX_take (i := 2) (v := .agg (arr ?xv8)) rfl (by kernel_rfl) (by kernel_rfl) (by kernel_rfl) (by kernel_rfl) (fun _ _ _ h => h) (yieldsIf_load_arr (by rfl) _ rfl _ rfl _ (fun ww hSw => ?hz8)) hS ?rest8
    case hz8 => ((try dsimp only at hSw); go_split_ands; assumption)
    try simp only [Act.put, List.setIfInBounds_toArray, List.set_cons_zero, List.set_cons_succ]
    refine wpAnyX_take (i := 4) (v := ?vv3) rfl (by kernel_rfl) (by kernel_rfl) (by kernel_rfl) (by kernel_rfl) (fun _ _ _ h => h) (Or.inl ⟨by rfl, ?hy3⟩) hS ?rest3
    case hy3 => (intro ww hSw; (try dsimp only at hSw); go_split_ands; go_simp; try with_reducible rfl)
    try simp only [Act.put, List.setIfInBounds_toArray, List.set_cons_zero, List.set_cons_succ]
    refine wpAnyX_take (i := 5) (v := ?vv4) rfl (by kernel_rfl) (by kernel_rfl) (by kernel_rfl) (by kernel_rfl) (fun _ _ _ h => h) (Or.inl ⟨by rfl, ?hy4⟩) hS ?rest4
    case hy4 => (intro ww hSw; (try dsimp only at hSw); go_split_ands; go_simp; try with_reducible rfl)
    try simp only [Act.put, List.setIfInBounds_toArray, List.set_cons_zero, List.set_cons_succ]
    generalize wv.drew = wc at hS ⊢
    refine wpAnyX_two (i := 1) (j := 7) (by kernel_rfl) rfl rfl rfl rfl (fun K2 hK2 => ?_) (fun K2 hK2 => ?_)
    · go_simp
      refine (toIntA16 lo _ hx).mono ?_; rintro e wc ⟨rfl, qn⟩
      (try replace bn := bn.q qn)
      have zn := hS.1.trans qn
      refine hK2.out _ _ ⟨zn, ba.q zn, bb.q zn⟩ (fun hS => ?_)
      clear hK2 K2; (try simp only [Act.put, List.setIfInBounds_toArray, List.set_cons_zero, List.set_cons_succ])
      clear zn qn
      refine wpAnyX_two (i := 3) (j := 7) (by kernel_rfl) rfl rfl rfl rfl (fun K2 hK2 => ?_) (fun K2 hK2 => ?_)
      · go_simp
        refine (toIntA16 hi _ hl).mono ?_; rintro e wc ⟨rfl, qn⟩
        (try replace bn := bn.q qn)
        have zn := hS.1.trans qn
        refine hK2.out _ _ ⟨zn, ba.q zn, bb.q zn⟩ (fun hS => ?_)
        clear hK2 K2; (try simp only [Act.put, List.setIfInBounds_toArray, List.set_cons_zero, List.set_cons_succ])
        clear zn qn
        refine wpAnyX_two (i := 6) (j := 7) (by kernel_rfl) rfl rfl rfl rfl (fun K2 hK2 => ?_) (fun K2 hK2 => ?_)
        · go_simp
          refine (impl_JoinLayers lo hi base fine _ (HT.out.q hS.1) hx hl).mono ?_; rintro e wc ⟨rfl, qn⟩
          (try replace bn := bn.q qn)
          have zn := hS.1.trans qn
          refine hK2.out _ _ ⟨zn, ba.q zn, bb.q zn⟩ (fun hS => ?_)
          clear hK2 K2; (try simp only [Act.put, List.setIfInBounds_toArray, List.set_cons_zero, List.set_cons_succ])
          clear zn qn
          refine wpAnyX_step (k := 7) (by kernel_rfl) rfl rfl (fun K2 hK2 => ?_)
          go_simp
          have bn := Bl.zero wc
          have hgn : wv.heap.size ≤ wc.heap.size := hS.1.size
          have qn : Q wc (wc.alloc (.cells (arr (List.replicate 16 0)) 22)) := (Q.refl _).alloc _
          have zn := hS.1.trans qn
          refine hK2.out _ _ ⟨zn, ba.q zn, bb.q zn⟩ (fun hS => ?_)
          clear hK2 K2; (try simp only [Act.put, List.setIfInBounds_toArray, List.set_cons_zero, List.set_cons_succ])
          clear zn qn
          change wpAnyX _ _ _ _ _ _ _ _ _ (wc.alloc (.cells (arr (List.replicate 16 0)) 22))
          change Q wv (wc.alloc (.cells (arr (List.replicate 16 0)) 22)) ∧ Bl (wc.alloc (.cells (arr (List.replicate 16 0)) 22)) _ lo ∧ Bl (wc.alloc (.cells (arr (List.replicate 16 0)) 22)) _ hi at hS
          generalize wc.heap.size = gn at bn hgn ⊢
          generalize wc.alloc (.cells (arr (List.replicate 16 0)) 22) = wc at bn hS ⊢
          refine wpAnyX_step (k := 8) (by kernel_rfl) rfl rfl (fun K2 hK2 => ?_)
          refine step_store_arr rfl _ _ rfl _ rfl _ _ rfl hjl bn ?_
          intro w9 b9 g9 s9
          have zn := hS.1.grown g9 (fun k e => by have := Option.some.inj e; omega)
          refine hK2.out _ _ ⟨zn, (ba.q hS.1).grown g9 (fun e => by have := Option.some.inj e; omega), (bb.q hS.1).grown g9 (fun e => by have := Option.some.inj e; omega)⟩ (fun hS => ?_)
          clear hK2 K2; (try simp only [Act.put, List.setIfInBounds_toArray, List.set_cons_zero, List.set_cons_succ])
          refine wpAnyX_done (by kernel_rfl) ?_ _
          clear hS
          go_wp2_with fail
          go_meet
          exact ⟨_, rfl, b9, zn⟩
        · go_simp
          have bn := Bl.zero wc
          have hgn : wv.heap.size ≤ wc.heap.size := hS.1.size
          have qn : Q wc (wc.alloc (.cells (arr (List.replicate 16 0)) 22)) := (Q.refl _).alloc _
          have zn := hS.1.trans qn
          refine hK2.out _ _ ⟨zn, ba.q zn, bb.q zn⟩ (fun hS => ?_)
          clear hK2 K2; (try simp only [Act.put, List.setIfInBounds_toArray, List.set_cons_zero, List.set_cons_succ])
          clear zn qn
          change wpAnyX _ _ _ _ _ _ _ _ _ (wc.alloc (.cells (arr (List.replicate 16 0)) 22))
          change Q wv (wc.alloc (.cells (arr (List.replicate 16 0)) 22)) ∧ Bl (wc.alloc (.cells (arr (List.replicate 16 0)) 22)) _ lo ∧ Bl (wc.alloc (.cells (arr (List.replicate 16 0)) 22)) _ hi at hS
          generalize wc.heap.size = gn at bn hgn ⊢
          generalize wc.alloc (.cells (arr (List.replicate 16 0)) 22) = wc at bn hS ⊢
          refine wpAnyX_step (k := 6) (by kernel_rfl) rfl rfl (fun K2 hK2 => ?_)
          go_simp
          refine (impl_JoinLayers lo hi base fine _ (HT.out.q hS.1) hx hl).mono ?_; rintro e wc ⟨rfl, qn⟩
          (try replace bn := bn.q qn)
          have zn := hS.1.trans qn
          refine hK2.out _ _ ⟨zn, ba.q zn, bb.q zn⟩ (fun hS => ?_)
          clear hK2 K2; (try simp only [Act.put, List.setIfInBounds_toArray, List.set_cons_zero, List.set_cons_succ])
          clear zn qn
          refine wpAnyX_step (k := 8) (by kernel_rfl) rfl rfl (fun K2 hK2 => ?_)
          refine step_store_arr rfl _ _ rfl _ rfl _ _ rfl hjl bn ?_
          intro w9 b9 g9 s9
          have zn := hS.1.grown g9 (fun k e => by have := Option.some.inj e; omega)
          refine hK2.out _ _ ⟨zn, (ba.q hS.1).grown g9 (fun e => by have := Option.some.inj e; omega), (bb.q hS.1).grown g9 (fun e => by have := Option.some.inj e; omega)⟩ (fun hS => ?_)
          clear hK2 K2; (try simp only [Act.put, List.setIfInBounds_toArray, List.set_cons_zero, List.set_cons_succ])
          refine wpAnyX_done (by kernel_rfl) ?_ _
          clear hS
          go_wp2_with fail
          go_meet
          exact ⟨_, rfl, b9, zn⟩
      · go_simp
        have bn := Bl.zero wc
        have hgn : wv.heap.size ≤ wc.heap.size := hS.1.size
        have qn : Q wc (wc.alloc (.cells (arr (List.replicate 16 0)) 22)) := (Q.refl _).alloc _
        have zn := hS.1.trans qn
        refine hK2.out _ _ ⟨zn, ba.q zn, bb.q zn⟩ (fun hS => ?_)
        clear hK2 K2; (try simp only [Act.put, List.setIfInBounds_toArray, List.set_cons_zero, List.set_cons_succ])
        clear zn qn
        change wpAnyX _ _ _ _ _ _ _ _ _ (wc.alloc (.cells (arr (List.replicate 16 0)) 22))
        change Q wv (wc.alloc (.cells (arr (List.replicate 16 0)) 22)) ∧ Bl (wc.alloc (.cells (arr (List.replicate 16 0)) 22)) _ lo ∧ Bl (wc.alloc (.cells (arr (List.replicate 16 0)) 22)) _ hi at hS
        generalize wc.heap.size = gn at bn hgn ⊢
        generalize wc.alloc (.cells (arr (List.replicate 16 0)) 22) = wc at bn hS ⊢
        refine wpAnyX_step (k := 3) (by kernel_rfl) rfl rfl (fun K2 hK2 => ?_)
        go_simp
        refine (toIntA16 hi _ hl).mono ?_; rintro e wc ⟨rfl, qn⟩
        (try replace bn := bn.q qn)
        have zn := hS.1.trans qn
        refine hK2.out _ _ ⟨zn, ba.q zn, bb.q zn⟩ (fun hS => ?_)
        clear hK2 K2; (try simp only [Act.put, List.setIfInBounds_toArray, List.set_cons_zero, List.set_cons_succ])
        clear zn qn
        refine wpAnyX_step (k := 6) (by kernel_rfl) rfl rfl (fun K2 hK2 => ?_)
        go_simp
        refine (impl_JoinLayers lo hi base fine _ (HT.out.q hS.1) hx hl).mono ?_; rintro e wc ⟨rfl, qn⟩
        (try replace bn := bn.q qn)
        have zn := hS.1.trans qn
        refine hK2.out _ _ ⟨zn, ba.q zn, bb.q zn⟩ (fun hS => ?_)
        clear hK2 K2; (try simp only [Act.put, List.setIfInBounds_toArray, List.set_cons_zero, List.set_cons_succ])
        clear zn qn
        refine wpAnyX_step (k := 8) (by kernel_rfl) rfl rfl (fun K2 hK2 => ?_)
        refine step_store_arr rfl _ _ rfl _ rfl _ _ rfl hjl bn ?_
        intro w9 b9 g9 s9
        have zn := hS.1.grown g9 (fun k e => by have := Option.some.inj e; omega)
        refine hK2.out _ _ ⟨zn, (ba.q hS.1).grown g9 (fun e => by have := Option.some.inj e; omega), (bb.q hS.1).grown g9 (fun e => by have := Option.some.inj e; omega)⟩ (fun hS => ?_)
        clear hK2 K2; (try simp only [Act.put, List.setIfInBounds_toArray, List.set_cons_zero, List.set_cons_succ])
        refine wpAnyX_done (by kernel_rfl) ?_ _
        clear hS
        go_wp2_with fail
        go_meet
        exact ⟨_, rfl, b9, zn⟩
    · go_simp
      have bn := Bl.zero wc
      have hgn : wv.heap.size ≤ wc.heap.size := hS.1.size
      have qn : Q wc (wc.alloc (.cells (arr (List.replicate 16 0)) 22)) := (Q.refl _).alloc _
      have zn := hS.1.trans qn
      refine hK2.out _ _ ⟨zn, ba.q zn, bb.q zn⟩ (fun hS => ?_)
      clear hK2 K2; (try simp only [Act.put, List.setIfInBounds_toArray, List.set_cons_zero, List.set_cons_succ])
      clear zn qn
      change wpAnyX _ _ _ _ _ _ _ _ _ (wc.alloc (.cells (arr (List.replicate 16 0)) 22))
      change Q wv (wc.alloc (.cells (arr (List.replicate 16 0)) 22)) ∧ Bl (wc.alloc (.cells (arr (List.replicate 16 0)) 22)) _ lo ∧ Bl (wc.alloc (.cells (arr (List.replicate 16 0)) 22)) _ hi at hS
      generalize wc.heap.size = gn at bn hgn ⊢
      generalize wc.alloc (.cells (arr (List.replicate 16 0)) 22) = wc at bn hS ⊢
      refine wpAnyX_step (k := 1) (by kernel_rfl) rfl rfl (fun K2 hK2 => ?_)
      go_simp
      refine (toIntA16 lo _ hx).mono ?_; rintro e wc ⟨rfl, qn⟩
      (try replace bn := bn.q qn)
      have zn := hS.1.trans qn
      refine hK2.out _ _ ⟨zn, ba.q zn, bb.q zn⟩ (fun hS => ?_)
      clear hK2 K2; (try simp only [Act.put, List.setIfInBounds_toArray, List.set_cons_zero, List.set_cons_succ])
      clear zn qn
      refine wpAnyX_step (k := 3) (by kernel_rfl) rfl rfl (fun K2 hK2 => ?_)
      go_simp
      refine (toIntA16 hi _ hl).mono ?_; rintro e wc ⟨rfl, qn⟩
      (try replace bn := bn.q qn)
      have zn := hS.1.trans qn
      refine hK2.out _ _ ⟨zn, ba.q zn, bb.q zn⟩ (fun hS => ?_)
      clear hK2 K2; (try simp only [Act.put, List.setIfInBounds_toArray, List.set_cons_zero, List.set_cons_succ])
      clear zn qn
      refine wpAnyX_step (k := 6) (by kernel_rfl) rfl rfl (fun K2 hK2 => ?_)
      go_simp
      refine (impl_JoinLayers lo hi base fine _ (HT.out.q hS.1) hx hl).mono ?_; rintro e wc ⟨rfl, qn⟩
      (try replace bn := bn.q qn)
      have zn := hS.1.trans qn
      refine hK2.out _ _ ⟨zn, ba.q zn, bb.q zn⟩ (fun hS => ?_)
      clear hK2 K2; (try simp only [Act.put, List.setIfInBounds_toArray, List.set_cons_zero, List.set_cons_succ])
      clear zn qn
      refine wpAnyX_step (k := 8) (by kernel_rfl) rfl rfl (fun K2 hK2 => ?_)
      refine step_store_arr rfl _ _ rfl _ rfl _ _ rfl hjl bn ?_
      intro w9 b9 g9 s9
      have zn := hS.1.grown g9 (fun k e => by have := Option.some.inj e; omega)
      refine hK2.out _ _ ⟨zn, (ba.q hS.1).grown g9 (fun e => by have := Option.some.inj e; omega), (bb.q hS.1).grown g9 (fun e => by have := Option.some.inj e; omega)⟩ (fun hS => ?_)
      clear hK2 K2; (try simp only [Act.put, List.setIfInBounds_toArray, List.set_cons_zero, List.set_cons_succ])
      refine wpAnyX_done (by kernel_rfl) ?_ _
      clear hS
      go_wp2_with fail
      go_meet
      exact ⟨_, rfl, b9, zn⟩
  case rest =>
  obtain ⟨g2, rfl, b2, q2⟩ := hcut
  generalize wc = wx at b2 q2 ⊢
  replace b1 := b1.q q2
  replace ba := ba.q q2
  replace bb := bb.q q2
  replace QQ := QQ.trans q2
  replace HT := Lib.hid (HT.out.q q2)
  replace hwv : w.heap.size + 1 < wx.heap.size := bb.lt
  go_wp2_with (first | refine wpList_load_arr rfl _ rfl _ rfl _ (by assumption) ?_ | refine wpList_load_arr_g (by rfl) _ rfl _ rfl _ (by assumption) ?_)
  refine (eqIntA16 (joinL lo hi base fine) (joinL lo hi base fine) _ hjl hjl).mono ?_; rw [beq_self_eq_true]; rintro e wy ⟨rfl, q3⟩
  have QZ := QQ.trans q3
  go_wp2_with fail
  go_ret
  exact ⟨rfl, QZ⟩

set_option maxRecDepth 100000 in
theorem lifted_FnExactJoinLayers (os : Os) (started : os.Started) (H : Type) (enc : TypeId × Value → H) :
    ReturnsInHanded {} Tryd.checked os 4 .any (fun w args => (Rows.fnExactJoinLayersSpec.pre enc Tryd.prog Tryd.f4 [] false w args ∧ laidMetH Tryd.prog laidQ w) ∧ sizedMet enc Tryd.prog Tryd.f4 (OpenSpec.ofChange Rows.fnExactJoinLayersSpec) false w args) (Rows.fnExactJoinLayersSpec.post enc Tryd.prog Tryd.f4 false true false false) := by
  refine returnsInHanded_of_change_and (C := Tryd.checked) (X := fun w _ => laidMetH Tryd.prog laidQ w) (fun _ _ _ hh h => h.of_heap hh) own_knob started (by kernel_rfl) Tryd.func4
    (ChangeSpec.witness_shaped (enc := enc) (C := Tryd.checked) (os := os) (X := fun w _ => laidMetH Tryd.prog laidQ w) false (World.doorLaid Tryd.prog 400 os) #[.agg (arr (List.replicate 16 0)), .agg (arr (List.replicate 16 0)), .int .i64 0, .int .i64 0] 8 rfl (World.shaped_of_RefB (by kernel_rfl) (by kernel_rfl)) (by kernel_rfl) (by kernel_rfl) (by kernel_rfl) (door_met os _)) ?_
  intro W base args ds gs before hval0 hW _ _ hL _
  have hval : ∀ (j : Nat) t v, Tryd.f4.params[j]? = some t → args[j]? = some v → Value.okWide Tryd.prog W .any base t v := hval0
  have hW' := hW
  obtain ⟨p, q, hA0, hV0, rfl, hfz, hnd⟩ := hW
  have hA : DataW.TrodAll enc Tryd.prog W 0 (fun _ => true) true Tryd.f4.params.toList args.toList ds p := hA0
  have hV : DataW.TrodVars enc Tryd.prog W (fun _ => true) [quantName] gs q := hV0
  rw [Tryd.params4] at hA hval
  obtain ⟨v0, vs0, d0, ds0, p0, q0, hargs, rfl, rfl, h0, r0⟩ := trodAll_cons hA
  obtain ⟨v1, vs1, d1, ds1, p1, q1, rfl, rfl, rfl, h1, r1⟩ := trodAll_cons r0
  obtain ⟨v2, vs2, d2, ds2, p2, q2, rfl, rfl, rfl, h2, r2⟩ := trodAll_cons r1
  obtain ⟨v3, vs3, d3, ds3, p3, q3, rfl, rfl, rfl, h3, r3⟩ := trodAll_cons r2
  obtain ⟨rfl, rfl, rfl⟩ := trodAll_nil r3
  obtain rfl : args = #[v0, v1, v2, v3] := by cases args; simp_all
  have hVB : ∀ W2, Below W.heap.size W W2 → DataW.TrodVars enc Tryd.prog W2 (fun b => decide (b < W.heap.size)) [quantName] gs q := fun W2 hb => Below.trodVars laid_out hb (by kernel_rfl) hV
  obtain ⟨gv, tv, csv, fuelv, dv, pv, rfl, _, _, _, _, _⟩ := trodVars_one hV
  have k0 := h0
  have lt0 : ∀ x ∈ p0, x.block < W.heap.size := by obtain ⟨m, hm⟩ := k0; exact DataW.trod_lt m _ _ _ hm
  obtain ⟨x0, o0⟩ := open_arr (hval 0 22 v0 rfl rfl) h0
  have k1 := h1
  have lt1 : ∀ x ∈ p1, x.block < W.heap.size := by obtain ⟨m, hm⟩ := k1; exact DataW.trod_lt m _ _ _ hm
  obtain ⟨x1, o1⟩ := open_arr (hval 1 22 v1 rfl rfl) h1
  have k2 := h2
  have lt2 : ∀ x ∈ p2, x.block < W.heap.size := by obtain ⟨m, hm⟩ := k2; exact DataW.trod_lt m _ _ _ hm
  obtain ⟨x2, o2⟩ := open_int (hval 2 3 v2 rfl rfl) h2
  have k3 := h3
  have lt3 : ∀ x ∈ p3, x.block < W.heap.size := by obtain ⟨m, hm⟩ := k3; exact DataW.trod_lt m _ _ _ hm
  obtain ⟨x3, o3⟩ := open_int (hval 3 3 v3 rfl rfl) h3
  clear hA0 hval0 hV0
  refine (walk_FnExactJoinLayers W (tb_of_laid hL) v0 x0 o0 v1 x1 o1 v2 x2 o2 v3 x3 o3).mono fun e W' ⟨he, bel⟩ => ?_
  subst he
  exact ⟨_, rfl, _, _, _, [], _, _, hW', trodAll_mk1 (shut_bool Tryd.underlying4 _), (trodAll_cons_mk (Below.trod laid_out (by kernel_rfl) (of_decide_eq_true (by kernel_rfl)) k0 bel lt0) (trodAll_cons_mk (Below.trod laid_out (by kernel_rfl) (of_decide_eq_true (by kernel_rfl)) k1 bel lt1) (trodAll_cons_mk (Below.trod laid_out (by kernel_rfl) (of_decide_eq_true (by kernel_rfl)) k2 bel lt2) (trodAll_cons_mk (Below.trod laid_out (by kernel_rfl) (of_decide_eq_true (by kernel_rfl)) k3 bel lt3) trodAll_mk0)))), hVB _ bel, bel.frame _, fun h => by cases h⟩

theorem FnExactJoinLayers_row : Rows.FnExactJoinLayersSaid :=
  OpenClaim.holds_of_wide 4 Tryd.f4 rfl rfl rfl rfl rfl rfl rfl ⟨rfl, rfl, rfl, rfl, rfl⟩ rfl rfl rfl rfl rfl (by kernel_rfl) Tryd.func4 (by kernel_rfl)
    (of_decide_eq_true (by kernel_rfl)) (by unfold Func.isWrapper; first | (rw [if_pos (by decide +kernel)]; kernel_rfl) | (rw [if_neg (by decide +kernel)]; exact ⟨rfl, rfl⟩))
    (fun os started H enc _ => lifted_FnExactJoinLayers os started H enc)

/-- The statement. -/
theorem FnExactJoinLayers_holds : Rows.FnExactJoinLayersCardSaid :=
  Claim7.holds_tied_plain_at .later [] [.data] true (true, "0fd288b46d60ce385de9de263cac55858d689a7fd72835178befc519f3b9e924") false FnExactJoinLayers_row (fun _ h => by cases h) (by kernel_rfl) (fun _ h => by cases h) fnExactJoinLayers_row_tie rfl ⟨rfl, rfl⟩ (by kernel_rfl) rfl
    (fun f fn hf hfn => by
      obtain rfl : f = 4 := Option.some.inj ((show Tryd.prog.funcNamed "loop.example/videocodec/laws.FnExactJoinLayers" = some 4 by kernel_rfl).symm.trans hf) |>.symm
      obtain rfl : fn = Tryd.f4 := (Option.some.inj (Tryd.func4.symm.trans hfn)).symm
      exact ⟨by kernel_rfl, fun j t ht => by
        rw [Tryd.params4] at ht
        have hm : t ∈ [22, 22, 3, 3] := by simpa using Array.mem_of_getElem? ht
        have hall : ([22, 22, 3, 3].all fun u => !Tryd.prog.wantsStandIn u) = true := by kernel_rfl
        exact (show Tryd.prog.wantsStandIn t = false by simpa using List.all_eq_true.1 hall t hm)⟩)
    (by kernel_rfl)
#print axioms FnExactJoinLayers_holds
end Go.Proofs.YtkdmhlbmhjolcaaDoor

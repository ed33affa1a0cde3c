/-
  FnOrderValid: whatever order the code draws, OrderValid returns what the reference's returns; a valid order without its last element, or reversed if it has more than one, is invalid; so the law returns true. No condition.
-/
import Derived.Test.YtnmegieibcmhcaaDrawO
import Derived.Test.YtnmegieibcmhcaaOrder2
import Derived.Test.YtnmegieibcmhcaaPict
namespace Go.Proofs.Ytnmegieibcmhcaa
open Go.ChangeShapes Go.WideShapes Go.ChangeAt Go.RowKit

theorem doneAt_set (d : List Bool) (n : Nat) (x : Int) (h : doneAt d x = true) : doneAt (d.set n true) x = true := by
  unfold doneAt at h ⊢
  rw [List.getElem?_set]
  split
  · split
    · rfl
    · rename_i h1 h2
      subst h1
      rw [List.getElem?_eq_none (by omega)] at h
      cases h
  · exact h
theorem ordRun_not (c : Int) (t : List Int) : ∀ d : List Bool, ordRun c t d = true → ∀ x, doneAt d x = true → x ∉ t := by
  induction t with
  | nil => intro d _ x _; simp
  | cons n t ih =>
    intro d h x hx
    rw [ordRun, Bool.and_eq_true] at h
    have h1 := h.1
    unfold okAt at h1
    simp only [Bool.and_eq_true, Bool.not_eq_true'] at h1
    intro hm
    rcases List.mem_cons.1 hm with rfl | hm
    · rw [hx] at h1; exact Bool.noConfusion h1.2.1
    · exact ih _ h.2 x (doneAt_set d _ x hx) hm
theorem allDone_none (N : Nat) (ks : List Int) (h : allDone (List.replicate N false) ks = true) : ks = [] := by
  cases ks with
  | nil => rfl
  | cons k ks =>
    unfold allDone at h
    rw [List.all_cons, Bool.and_eq_true] at h
    have := h.1
    unfold doneAt at this
    rw [List.getElem?_replicate] at this
    split at this <;> cases this
theorem needs_none {c n : Int} (h1 : 1 ≤ c) (h0 : 0 ≤ n) (h : needsV c n = []) : n = 0 := by
  unfold needsV needs1 needs2 at h
  by_cases hc : c ≤ n
  · rw [if_pos hc] at h; split at h <;> simp at h
  · by_cases hx : 0 < n % c
    · rw [if_pos hx] at h; simp at h
    · have := Int.emod_eq_of_lt h0 (show n < c by omega); omega
theorem order_head {c r : Int} {x : Int} {t : List Int} (h : orderValid c r (x :: t) = true) : x = 0 := by
  have hs : sizeOk c r ∧ (((x :: t).length : Nat) : Int) = c * r := by
    unfold orderValid at h
    rw [Bool.and_eq_true] at h
    exact of_decide_eq_true h.1
  rw [order_go hs, ordRun, Bool.and_eq_true] at h
  have h1 := h.1
  unfold okAt at h1
  simp only [Bool.and_eq_true, decide_eq_true_eq] at h1
  exact needs_none hs.1.1 h1.1.1 (allDone_none _ _ h1.2.2)
theorem order_rev {c r : Int} {xs : List Int} (h : orderValid c r xs = true) (hn : 2 ≤ xs.length) : orderValid c r xs.reverse = false := by
  cases hr : orderValid c r xs.reverse with
  | false => rfl
  | true =>
    exfalso
    match xs, hn with
    | x :: y :: t, _ =>
      have hx := order_head h
      subst hx
      have hne : (y :: t) ≠ [] := by simp
      have hl := List.dropLast_concat_getLast hne
      have hrv : (y :: t).reverse = (y :: t).getLast hne :: (y :: t).dropLast.reverse := by
        have e := congrArg List.reverse hl
        rw [List.reverse_append] at e
        simpa using e.symm
      rw [List.reverse_cons, hrv, List.cons_append] at hr
      have h0 := order_head hr
      have hmem : (0 : Int) ∈ (y :: t) := by rw [← h0]; exact List.getLast_mem hne
      have hs : sizeOk c r ∧ ((((0 : Int) :: y :: t).length : Nat) : Int) = c * r := by
        unfold orderValid at h
        rw [Bool.and_eq_true] at h
        exact of_decide_eq_true h.1
      rw [order_go hs, ordRun, Bool.and_eq_true] at h
      exact ordRun_not c _ _ h.2 0 (by unfold doneAt; simp) hmem
theorem order_short {c r : Int} {xs : List Int} (k : Nat) (h : orderValid c r xs = true) (hk : k < xs.length) : orderValid c r (xs.take k) = false := by
  have hs : sizeOk c r ∧ ((xs.length : Nat) : Int) = c * r := by
    unfold orderValid at h
    rw [Bool.and_eq_true] at h
    exact of_decide_eq_true h.1
  exact order_no (fun h' => by have := h'.2; rw [List.length_take] at this; omega)
theorem order_pos {c r : Int} {xs : List Int} (h : orderValid c r xs = true) : 1 ≤ xs.length := by
  unfold orderValid at h
  rw [Bool.and_eq_true] at h
  have hs := of_decide_eq_true h.1
  have := size_le hs.1
  omega

theorem Rd.take {w : World} {B : Nat} {A : Option Addr} {xs : List Int} (h : Rd w B A xs) (k : Nat) : Rd w B A (xs.take k) := fun hn => by
  simp only [List.length_take] at hn
  obtain ⟨b, o, rfl, hb, hc⟩ := h (by omega)
  refine ⟨b, o, rfl, hb, fun i hi => ?_⟩
  simp only [List.length_take] at hi
  rw [hc i (by omega), List.getElem?_take_of_lt (by omega)]
theorem drop_rev (xs : List Int) (p : Nat) (h : p < xs.length) : (xs.drop (p + 1)).reverse ++ [xs[p]?.getD 0] = (xs.drop p).reverse := by
  rw [drop_getD xs p h, List.reverse_cons]

set_option maxRecDepth 100000 in
set_option maxHeartbeats 4000000 in
theorem walk_FnOrderValid (w : World) (v0 : Value) (x0 : Option Addr × Nat × List Int) (h0 : ArgBytes w v0 x0) :
    Calls Try.prog 10 #[v0] w fun e w' => e = .returned (.bool true) ∧ Q w w' := by
  have hv := h0.1; have hm := h0.2.2.1; unfold maxLen at hm; generalize hn : x0.2.2.length = nn at hv hm; have HN := Lib.hid hn; clear hn; by_cases hbig : 1048576 < nn; (subst hv; go_enter Try.func10, Try.ntmps10; go_wp2_with fail; go_ret; exact ⟨rfl, Q.refl _⟩); have H0 : ArgBytes w (.slice x0.1 nn x0.2.1) x0 := (by rw [hv] at h0; exact h0); subst hv; clear h0; go_enter Try.func10, Try.ntmps10; go_wp2_with fail
  refine (DrawOrderValid _ _ _ H0).mono ?_; rintro e w1 ⟨A, n, c, xs, a, b, rfl, hr, hn, hn16, hnc, q1⟩
  have HR := Lib.hid hr
  have HN2 := Lib.hid hn
  clear hr hn
  generalize ht : orderValid a b xs = t
  have HT := Lib.hid ht
  clear ht
  go_wp2_with fail
  refine (impl_OrderValid _ _ A n c _ xs _ HR.out (Nat.le_refl _) HN2.out (by omega)).mono ?_; rw [HT.out]; rintro e w2 ⟨rfl, q2⟩
  have s2 := q2.size
  go_wp2_with fail
  refine (spec_OrderValid _ _ A n c _ xs _ (HR.out.q q2 (Nat.le_refl _)) s2 HN2.out (by omega)).mono ?_; rw [HT.out]; rintro e w3 ⟨rfl, q3⟩
  have Q3 : Q w w3 := (q1.trans q2).trans q3
  have R3 := Lib.hid (HR.out.q (q2.trans q3) (Nat.le_refl _))
  have s3 := (q2.trans q3).size
  clear q1 q2 q3 s2
  cases t
  · go_wp2_with fail
    refine (alive _).mono ?_; rintro e w4 ⟨rfl, q4⟩
    go_wp2_with fail
    go_ret
    exact ⟨rfl, Q3.trans q4⟩
  · have hp := order_pos HT.out
    rw [HN2.out] at hp
    obtain ⟨l, hl⟩ : ∃ l, n = l + 1 := ⟨n - 1, by omega⟩
    have HSH : Hid (orderValid a b (xs.take l) = false) := order_short l HT.out (by rw [HN2.out]; omega)
    have HRV : Hid (2 ≤ n → orderValid a b xs.reverse = false) := fun h => order_rev HT.out (by rw [HN2.out]; exact h)
    have HLE := Lib.hid hl
    have hln : l < n := by omega
    have hlz : (l : Int) < (n : Int) := by omega
    have hnl : ((n : Int) - 1) = (l : Int) := by omega
    have HNL := Lib.hid hnl
    obtain ⟨g, o, rfl, hb, hc⟩ := R3.out (by rw [HN2.out]; omega)
    have HC := Lib.hid hc
    have HO : Hid (Own (w3.alloc (.cells #[] 3)) w3.heap.size (.slice (some ⟨w3.heap.size, 0, none⟩) 0 0) 0 (xs.drop n).reverse) := by
      rw [List.drop_of_length_le (Nat.le_of_eq HN2.out)]; exact Own.lit0 w3 _ (Nat.le_refl _)
    have HQ : Hid (Q w3 (w3.alloc (.cells #[] 3))) := (Q.refl _).alloc _
    have hgl : g < w3.heap.size := by omega
    clear hl hc hnl
    go_wp2_with fail
    go_loopw [7, 8] (fun v i wr => ∃ m j : Nat, m + j = n ∧ i = .int .i64 ((m : Int) - 1) ∧ Own wr w3.heap.size v j (xs.drop m).reverse ∧ Q w3 wr) (fun _ i _ => (intOf i + 1).toNat)
    case atStart => exact ⟨n, 0, by omega, rfl, HO.out, HQ.out⟩
    case round =>
      obtain ⟨m, j, hmj, rfl, ho, hq⟩ := hrel
      clear HO HQ
      have hsz := hq.size
      cases m with
      | zero =>
        rw [show ((0 : Nat) : Int) - 1 = -1 from rfl]
        have hj : j = n := by omega
        subst hj
        obtain ⟨A7, c7, rfl⟩ := ho.form
        have R7 := Lib.hid ho.rd
        have HLR : Hid ((xs.drop 0).reverse.length = j) := ho.len
        have HTL : Hid ((xs.take l).length = l) := by rw [Hid, List.length_take, HN2.out]; omega
        have RT := Lib.hid ((R3.out.q hq (by omega)).take l)
        have HQ := Lib.hid hq
        have HRV2 : Hid (2 ≤ j → orderValid a b (xs.drop 0).reverse = false) := HRV.out
        have lc : (l : Int) ≤ (c : Int) := by omega
        have hnl2 : IntKind.i64.wrap ((j : Int) - 1) = (l : Int) := (IntWalk.i64_in _ ⟨by omega, by omega⟩).trans HNL.out
        have hmm : l ≤ 9223372036854775807 := by omega
        have hmj' : j ≤ 9223372036854775807 := by omega
        clear ho hq
        go_wp2_with fail
        refine (impl_OrderValid _ _ _ l c _ (xs.take l) _ RT.out (by omega) HTL.out hmm).mono ?_; rw [HSH.out]; rintro e w4 ⟨rfl, q4⟩
        by_cases hj1 : j = 1
        · have hj1' : ((j : Int) == 1) = true := by rw [beq_iff_eq]; omega
          clear hj1
          go_wp2_with fail
          go_ret
          exact ⟨rfl, (Q3.trans HQ.out).trans q4⟩
        · have hj1' : ((j : Int) == 1) = false := by rw [beq_eq_false_iff_ne]; omega
          have hj2 : 2 ≤ j := by omega
          clear hj1
          go_wp2_with fail
          refine (impl_OrderValid _ _ A7 j c7 _ _ _ (R7.out.q q4 (Nat.le_refl _)) q4.size HLR.out hmj').mono ?_; rw [HRV2.out hj2]; rintro e w5 ⟨rfl, q5⟩
          go_wp2_with fail
          go_ret
          exact ⟨rfl, ((Q3.trans HQ.out).trans q4).trans q5⟩
      | succ p =>
        rw [show ((p + 1 : Nat) : Int) - 1 = (p : Int) by omega]
        have hcp := (hq.cell g _ hgl).trans (HC.out p (by rw [HN2.out]; omega))
        have hdr := drop_rev xs p (by rw [HN2.out]; omega)
        have HDR := Lib.hid hdr
        clear hdr
        generalize xs[p]?.getD 0 = x at hcp HDR
        have pn : (p : Int) < (n : Int) := by omega
        go_wp2_with (at_builtin; refine wpList_append_int rfl _ _ rfl w3 w3.heap.size _ _ _ rfl (ho.alloc _) ⟨_, 0, none⟩ _ _ rfl (by omega) (Nat.le_refl _) (by rw [World.size_alloc]; omega) (hq.alloc _) (World.cell?_alloc_new _ _ _ _) ?_; intro v5 w5 o5 q5 s5 _)
        rw [HDR.out] at o5
        go_roundw
        case rel => exact ⟨p, j + 1, by omega, rfl, o5, q5⟩
        case measure => first | (simp [intOf]; done) | (simp [intOf]; omega)

set_option maxRecDepth 100000 in
theorem lifted_FnOrderValid (os : Os) (started : os.Started) (H : Type) (enc : TypeId × Value → H) :
    ReturnsInHanded {} Try.checked os 10 .any (Rows.fnOrderValidSpec.pre6 enc Try.prog Try.f10 Rows.fnOrderValidRow.domain false) (Rows.fnOrderValidSpec.post enc Try.prog Try.f10 false true false false) := by
  refine returnsInHanded_of_change (C := Try.checked) own_knob started (by kernel_rfl) Try.func10
    (ChangeSpec.witness6 (enc := enc) (C := Try.checked) false ⟨#[], #[.slice none 0 0], []⟩ 8 (by kernel_rfl) (by kernel_rfl) (by kernel_rfl) (by kernel_rfl)) ?_
  intro W base args ds gs before hval0 hW hcnd _
  have hval : ∀ (j : Nat) t v, Try.f10.params[j]? = some t → args[j]? = some v → Value.okWide Try.prog W .any base t v := hval0
  have hW' := hW
  obtain ⟨p, q, hA0, hV, rfl, hfz, hnd⟩ := hW
  have hA : DataW.TrodAll enc Try.prog W 0 (fun _ => true) true Try.f10.params.toList args.toList ds p := hA0
  rw [Try.params10] at hA hval
  obtain ⟨v0, vs0, d0, ds0, p0, q0, hargs, rfl, rfl, h0, r0⟩ := trodAll_cons hA
  obtain ⟨rfl, rfl, rfl⟩ := trodAll_nil r0
  obtain rfl : args = #[v0] := by cases args; simp_all
  obtain ⟨rfl, rfl⟩ := trodVars_none hV
  have k0 := h0
  have lt0 : ∀ x ∈ p0, x.block < W.heap.size := by obtain ⟨m, hm⟩ := k0; exact DataW.trod_lt m _ _ _ hm
  obtain ⟨x0, o0⟩ := open_bytes (hval 0 22 v0 rfl rfl) h0
  clear hA0 hval0
  refine (walk_FnOrderValid W v0 x0 o0).mono fun e W' ⟨he, bel⟩ => ?_
  subst he
  exact ⟨_, rfl, _, _, _, [], _, [], hW', trodAll_mk1 (shut_bool Try.underlying4 _), (trodAll_cons_mk (Below.trod laid_out (by kernel_rfl) (of_decide_eq_true (by kernel_rfl)) k0 bel lt0) trodAll_mk0), rfl, bel.frame _, fun h => by cases h⟩

/-- The statement. -/
theorem FnOrderValid_holds : Rows.FnOrderValidSaid :=
  OpenClaim.holds_of_wide 10 Try.f10 rfl rfl rfl rfl rfl rfl rfl ⟨rfl, rfl, rfl, rfl, rfl⟩ rfl rfl rfl rfl rfl (by kernel_rfl) Try.func10 (by kernel_rfl)
    (of_decide_eq_true (by kernel_rfl)) (by unfold Func.isWrapper; first | (rw [if_pos (by decide +kernel)]; kernel_rfl) | (rw [if_neg (by decide +kernel)]; exact ⟨rfl, rfl⟩))
    (fun os started H enc _ => lifted_FnOrderValid os started H enc)
#print axioms FnOrderValid_holds
end Go.Proofs.Ytnmegieibcmhcaa

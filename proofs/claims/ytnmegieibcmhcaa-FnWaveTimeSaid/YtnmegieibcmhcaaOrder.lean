/-
  OrderValid, of the program and of the reference: whether a list is an order in which all macroblocks can be decoded.
-/
import Derived.Test.YtnmegieibcmhcaaBools
import Derived.Test.YtnmegieibcmhcaaNeeds2
namespace Go.Proofs.Ytnmegieibcmhcaa
open Go.RowKit

def doneAt (d : List Bool) (k : Int) : Bool := d[k.toNat]?.getD false
def allDone (d : List Bool) (ks : List Int) : Bool := ks.all (doneAt d)
/-- macroblock n may be decoded next, those of d being done -/
def okAt (c : Int) (d : List Bool) (n : Int) : Bool := decide (0 ≤ n ∧ n < d.length) && (!doneAt d n && allDone d (needsV c n))
def ordRun (c : Int) : List Int → List Bool → Bool
  | [], _ => true
  | n :: t, d => okAt c d n && ordRun c t (d.set n.toNat true)
def orderValid (c r : Int) (xs : List Int) : Bool := decide (sizeOk c r ∧ (xs.length : Int) = c * r) && ordRun c xs (List.replicate xs.length false)

theorem drop_getD (xs : List Int) (k : Nat) (h : k < xs.length) : xs.drop k = xs[k]?.getD 0 :: xs.drop (k + 1) := by
  rw [List.drop_eq_getElem_cons h]; simp [h]
theorem allDone_drop (d : List Bool) (ks : List Int) (k : Nat) (h : k < ks.length) : allDone d (ks.drop k) = (doneAt d (ks[k]?.getD 0) && allDone d (ks.drop (k + 1))) := by
  rw [drop_getD _ _ h]; rfl
theorem ordRun_drop (c : Int) (xs : List Int) (d : List Bool) (k : Nat) (h : k < xs.length) : ordRun c (xs.drop k) d = (okAt c d (xs[k]?.getD 0) && ordRun c (xs.drop (k + 1)) (d.set (xs[k]?.getD 0).toNat true)) := by
  rw [drop_getD _ _ h]; rfl
theorem needs_mem {c n : Int} (h1 : 1 ≤ c) (h3 : 0 ≤ n) : ∀ x ∈ needsV c n, 0 ≤ x ∧ x < n := by
  have hm : n % c < c := Int.emod_lt_of_pos _ (by omega)
  have hm0 : 0 ≤ n % c := Int.emod_nonneg _ (by omega)
  have hp : 0 < n % c → 1 ≤ n := fun h => by
    rcases Int.lt_or_le 0 n with h' | h'
    · omega
    · have : n = 0 := by omega
      subst this
      simp at h
  intro x hx
  unfold needsV needs1 needs2 at hx
  split at hx
  · split at hx
    · split at hx
      · have := hp (by assumption); simp at hx; omega
      · simp at hx; omega
    · split at hx
      · have := hp (by assumption); simp at hx; omega
      · simp at hx; omega
  · split at hx
    · have := hp (by assumption); simp at hx; omega
    · simp at hx
theorem needs_in {c n : Int} (h1 : 1 ≤ c) (h3 : 0 ≤ n) (k : Nat) (hk : k < (needsV c n).length) : 0 ≤ (needsV c n)[k]?.getD 0 ∧ (needsV c n)[k]?.getD 0 < n := by
  refine needs_mem h1 h3 _ ?_
  rw [List.getElem?_eq_getElem hk]
  exact List.getElem_mem hk

theorem wave_ready (t : Bool) (c r n : Int) (N g cp B : Nat) (ds : List Bool) (w : World) (h1 : 1 ≤ c) (h2 : c ≤ 4) (h3 : 0 ≤ n) (h4 : n < N) (h5 : N ≤ 16) (hd : OwnB w B (.slice (some ⟨g, 0, none⟩) N cp) N ds) (ht : Hid (allDone ds (needsV c n) = t)) :
    Calls Try.prog 60 #[.agg #[.int .i64 c, .int .i64 r], .int .i64 n, .slice (some ⟨g, 0, none⟩) N cp] w fun e w' => e = .returned (.bool t) ∧ Q w w' := by
  have HI := Lib.hid (needs_in (c := c) (n := n) h1 h3)
  have hle := needs_le c n
  have HNE := fun w => wave_needs c r n w h1 h2 h3 (by omega)
  have hNE := Lib.hid HNE
  clear HNE
  generalize needsV c n = xs at HI hle ht hNE
  generalize hln : xs.length = ln at HI hle hNE
  have HL := Lib.hid hln
  have HD := Lib.hid hd
  clear hln hd
  have q0 : Q w (w.alloc (.cells #[.int .i64 c, .int .i64 r] 61)) := (by repeat (first | exact Q.refl _ | assumption | refine Q.drewN ?_ _ | refine Q.drew ?_ | refine Q.alloc ?_ _ | refine Q.trans ?_ (by assumption) | refine Q.set ?_ (by first | exact Nat.le_refl _ | omega | (simp; done) | (simp; omega)) _))
  go_enter Try.func60, Try.ntmps60
  go_wp2_with fail
  refine (hNE.out _).mono ?_; rintro e w2 ⟨v, rfl, o2, q2⟩
  obtain ⟨A, cc, rfl⟩ := o2.form
  have Q2 := q0.trans q2
  have R2 := Lib.hid o2.rd
  have D2 := HD.out.q Q2
  have D2' := Lib.hid D2
  clear o2 D2 q0 q2 hNE
  go_wp2_with fail
  go_loop [13] (fun i => ∃ k : Nat, k ≤ ln ∧ i = .int .i64 k ∧ Hid (allDone ds xs = allDone ds (xs.drop k))) (fun i => ln - (intOf i).toNat)
  case atStart => exact ⟨0, Nat.zero_le _, rfl, rfl⟩
  case round =>
    obtain ⟨k, hk, rfl, hr⟩ := hrel
    by_cases hlt : k < ln
    · obtain ⟨b, o, rfl, hb, hc⟩ := R2.out (by rw [HL.out]; omega)
      have hc1 := hc k (by rw [HL.out]; exact hlt)
      obtain ⟨x0, x1⟩ := HI.out k hlt
      have hs := allDone_drop ds xs k (by rw [HL.out]; exact hlt)
      have hd1 := D2'.out.at (xs[k]?.getD 0).toNat (by omega)
      have x2 : xs[k]?.getD 0 < (N : Int) := by omega
      have hdn : ds[(xs[k]?.getD 0).toNat]?.getD false = doneAt ds (xs[k]?.getD 0) := rfl
      rw [hdn] at hd1
      generalize xs[k]?.getD 0 = x at hc1 x0 x1 x2 hs hd1
      clear hdn hc
      cases hdx : doneAt ds x
      · rw [hdx] at hs hd1
        have HS := Lib.hid hs
        clear hs hdx
        go_wp2_with fail
        go_ret
        exact ⟨by rw [← ht.out, hr.out, HS.out]; rfl, Q2⟩
      · rw [hdx] at hs hd1
        have HS := Lib.hid hs
        clear hs hdx
        go_wp2_with fail
        go_round
        case rel => exact ⟨k + 1, by omega, by go_num, by rw [Hid, hr.out, HS.out]; rfl⟩
        case measure => simp [intOf]; omega
    · have : k = ln := by omega
      subst this
      go_wp2_with fail
      go_ret
      exact ⟨by rw [← ht.out, hr.out, List.drop_of_length_le (Nat.le_of_eq HL.out)]; rfl, Q2⟩

theorem order_no {c r : Int} {xs : List Int} (h : ¬ (sizeOk c r ∧ (xs.length : Int) = c * r)) : orderValid c r xs = false := by
  unfold orderValid; rw [decide_eq_false h]; rfl
theorem order_go {c r : Int} {xs : List Int} (h : sizeOk c r ∧ (xs.length : Int) = c * r) : orderValid c r xs = ordRun c xs (List.replicate xs.length false) := by
  unfold orderValid; rw [decide_eq_true h]; rfl

set_option maxHeartbeats 2000000 in
theorem impl_OrderValid (c r : Int) (A : Option Addr) (n cp B : Nat) (xs : List Int) (w : World) (hx : Rd w B A xs) (hB : B ≤ w.heap.size) (hn : xs.length = n) (hm : n ≤ 9223372036854775807) :
    Calls Try.prog 23 #[.int .i64 c, .int .i64 r, .slice A n cp] w fun e w' => e = .returned (.bool (orderValid c r xs)) ∧ Q w w' := by
  have HN := Lib.hid hn
  clear hn
  by_cases hs : sizeOk c r
  · have hcr := size_le hs
    have hs' := hs
    obtain ⟨h1, h2, h3, h4⟩ := hs'
    have HD := Lib.hid (decide_eq_true hs)
    have HS := Lib.hid hs
    clear hs
    by_cases hl : (n : Int) = c * r
    · have hv := order_go (xs := xs) ⟨HS.out, by rw [HN.out]; exact hl⟩
      rw [hv, HN.out]
      have hne : ((n : Int) != c * r) = false := by rw [bne_eq_false_iff_eq]; exact hl
      have hn16 : n ≤ 16 := by omega
      have HL := Lib.hid hl
      have HX := Lib.hid hx
      clear hl hv hx
      have b0 := Blk.new w 61 #[.int .i64 c, .int .i64 r]
      have q0 : Q w (w.alloc (.cells #[.int .i64 c, .int .i64 r] 61)) := (by repeat (first | exact Q.refl _ | assumption | refine Q.drewN ?_ _ | refine Q.drew ?_ | refine Q.alloc ?_ _ | refine Q.trans ?_ (by assumption) | refine Q.set ?_ (by first | exact Nat.le_refl _ | omega | (simp; done) | (simp; omega)) _))
      go_enter Try.func23, Try.ntmps23
      go_wp2_with fail
      (refine (wave_valid _ _ _ _ HD.out).mono ?_; rintro e w1 ⟨rfl, q1⟩; have hqc := q1.cell)
      have b1 := b0.q q1
      have Q1 := q0.trans q1
      clear b0 q0 q1
      go_wp2_with (at_make; (refine wpList_make_bool rfl _ _ rfl w1 n _ _ rfl rfl rfl rfl (by omega) (Q.refl _) ?_); intro w2 o2 q2 s2)
      have b2 := b1.q q2
      have Q2 := Q1.trans q2
      have hB1 := Q1.size
      generalize hg : w1.heap.size = g at o2 s2 hB1
      have O2 := Lib.hid o2
      have G := Lib.hid hg
      have b2l := b1.lt
      rw [G.out] at b2l
      have QQ := Lib.hid Q2
      clear hg hqc q2 Q2 b1 Q1 o2 hcr
      go_loopw [30] (fun i wr => ∃ (k : Nat) (ds : List Bool), k ≤ n ∧ i = .int .i64 k ∧ Hid (ordRun c xs (List.replicate n false) = ordRun c (xs.drop k) ds) ∧ OwnB wr g (.slice (some ⟨g, 0, none⟩) n n) n ds ∧ Q w wr ∧ Blk wr w.heap.size 61 #[.int .i64 c, .int .i64 r]) (fun i _ => n - (intOf i).toNat)
      case atStart => exact ⟨0, _, Nat.zero_le _, rfl, rfl, O2.out, QQ.out, b2⟩
      case round =>
        obtain ⟨k, ds, hk, rfl, hr, hd, hq, hb⟩ := hrel
        clear b2 hne
        by_cases hlt : k < n
        · obtain ⟨b, o, rfl, hbB, hc⟩ := HX.out (by rw [HN.out]; omega)
          have hc1 := (hq.cell b _ (by omega)).trans (hc k (by rw [HN.out]; exact hlt))
          have hst := ordRun_drop c xs ds k (by rw [HN.out]; exact hlt)
          generalize xs[k]?.getD 0 = x at hc1 hst
          have hdl := hd.len
          have hbc := hb.cell
          by_cases x0 : 0 ≤ x
          · by_cases x1 : x < n
            · have hd1 := hd.at x.toNat (by omega)
              have hdn : ds[x.toNat]?.getD false = doneAt ds x := rfl
              rw [hdn] at hd1
              have hok : okAt c ds x = (!doneAt ds x && allDone ds (needsV c x)) := by unfold okAt; rw [decide_eq_true ⟨x0, by omega⟩]; rfl
              rw [hok] at hst
              cases hdx : doneAt ds x
              · rw [hdx] at hst hd1
                cases har : allDone ds (needsV c x)
                · rw [har] at hst
                  have HA := Lib.hid har
                  have HST := Lib.hid hst
                  have HDL := Lib.hid hdl
                  have HC := Lib.hid hc
                  clear hok hdn har hst hdl hc hdx
                  go_wp2_with fail
                  refine (wave_ready false _ _ _ _ _ _ _ _ _ h1 h2 x0 x1 hn16 hd HA.out).mono ?_; rintro e w3 ⟨rfl, q3⟩
                  go_wp2_with fail
                  go_ret
                  exact ⟨by rw [hr.out, HST.out]; rfl, hq.trans q3⟩
                · rw [har] at hst
                  have HA := Lib.hid har
                  have HST := Lib.hid hst
                  have HDL := Lib.hid hdl
                  have HC := Lib.hid hc
                  clear hok hdn har hst hdl hc hdx
                  go_wp2_with fail
                  refine (wave_ready true _ _ _ _ _ _ _ _ _ h1 h2 x0 x1 hn16 hd HA.out).mono ?_; rintro e w3 ⟨rfl, q3⟩
                  have d3 := hd.q q3
                  have d3f := d3.free x.toNat
                  have d3c := d3.at x.toNat (by omega)
                  have d4 := d3.set x.toNat true
                  have q4 := (hq.trans q3).set (p := ⟨g, x.toNat, none⟩) hB1 (.bool true)
                  have b4 := (hb.q q3).far (p := ⟨g, x.toNat, none⟩) (by show w.heap.size ≠ g; omega) (.bool true)
                  have D4 := Lib.hid d4
                  have Q4 := Lib.hid q4
                  have B4 := Lib.hid b4
                  clear d3 d4 q4 b4 hd hb hq hbc hd1 hc1
                  go_wp2_with fail
                  go_roundw
                  case rel => exact ⟨k + 1, _, by omega, by go_num, by rw [Hid, hr.out, HST.out]; rfl, D4.out, Q4.out, B4.out⟩
                  case measure => simp [intOf]; omega
              · rw [hdx] at hst hd1
                have HST := Lib.hid hst
                have HDL := Lib.hid hdl
                have HC := Lib.hid hc
                clear hok hdn hst hdl hc hdx
                go_wp2_with fail
                go_ret
                exact ⟨by rw [hr.out, HST.out]; rfl, hq⟩
            · have hok : okAt c ds x = false := by unfold okAt; rw [decide_eq_false (by omega)]; rfl
              rw [hok] at hst
              have HST := Lib.hid hst
              have HDL := Lib.hid hdl
              have HC := Lib.hid hc
              have x1' : decide ((n : Int) ≤ x) = true := by simp; omega
              clear hok hst hdl hc x1
              go_wp2_with fail
              go_ret
              exact ⟨by rw [hr.out, HST.out]; rfl, hq⟩
          · have hok : okAt c ds x = false := by unfold okAt; rw [decide_eq_false (by omega)]; rfl
            rw [hok] at hst
            have HST := Lib.hid hst
            have HDL := Lib.hid hdl
            have HC := Lib.hid hc
            have x0' : x < 0 := by omega
            clear hok hst hdl hc x0
            go_wp2_with fail
            go_ret
            exact ⟨by rw [hr.out, HST.out]; rfl, hq⟩
        · have : k = n := by omega
          subst this
          go_wp2_with fail
          go_ret
          exact ⟨by rw [hr.out, List.drop_of_length_le (Nat.le_of_eq HN.out)]; rfl, hq⟩
    · have hv := order_no (xs := xs) (c := c) (r := r) (fun h => hl (by rw [← HN.out]; exact h.2))
      rw [hv]
      have hne : ((n : Int) != c * r) = true := by rw [bne_iff_ne]; exact hl
      clear hl hv hx
      go_enter Try.func23, Try.ntmps23
      go_wp2_with fail
      (refine (wave_valid _ _ _ _ HD.out).mono ?_; rintro e w1 ⟨rfl, q1⟩; have hqc := q1.cell)
      go_wp2_with fail
      go_ret
      exact ⟨rfl, (by repeat (first | exact Q.refl _ | assumption | refine Q.drewN ?_ _ | refine Q.drew ?_ | refine Q.alloc ?_ _ | refine Q.trans ?_ (by assumption) | refine Q.set ?_ (by first | exact Nat.le_refl _ | omega | (simp; done) | (simp; omega)) _))⟩
  · have hv := order_no (xs := xs) (c := c) (r := r) (fun h => hs h.1)
    rw [hv]
    have HD := Lib.hid (decide_eq_false hs)
    clear hs hv hx
    go_enter Try.func23, Try.ntmps23
    go_wp2_with fail
    (refine (wave_valid _ _ _ _ HD.out).mono ?_; rintro e w1 ⟨rfl, q1⟩; have hqc := q1.cell)
    go_wp2_with fail
    go_ret
    exact ⟨rfl, (by repeat (first | exact Q.refl _ | assumption | refine Q.drewN ?_ _ | refine Q.drew ?_ | refine Q.alloc ?_ _ | refine Q.trans ?_ (by assumption) | refine Q.set ?_ (by first | exact Nat.le_refl _ | omega | (simp; done) | (simp; omega)) _))⟩
end Go.Proofs.Ytnmegieibcmhcaa

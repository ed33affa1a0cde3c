/-
  The reference's OrderValid.
-/
import Derived.Test.YtnmegieibcmhcaaOrder
namespace Go.Proofs.Ytnmegieibcmhcaa
open Go.RowKit

set_option maxHeartbeats 2000000 in
theorem spec_OrderValid (c r : Int) (A : Option Addr) (n cp B : Nat) (xs : List Int) (w : World) (hx : Rd w B A xs) (hB : B ≤ w.heap.size) (hn : xs.length = n) (hm : n ≤ 9223372036854775807) :
    Calls Try.prog 21 #[.int .i64 c, .int .i64 r, .slice A n cp] w fun e w' => e = .returned (.bool (orderValid c r xs)) ∧ Q w w' := by
  have HN := Lib.hid hn
  clear hn
  by_cases hs : sizeOk c r
  · have hcr := size_le hs
    have hs' := hs
    obtain ⟨h1, h2, h3, h4⟩ := hs'
    have HS := Lib.hid hs
    clear hs
    by_cases hl : (n : Int) = c * r
    · have hv := order_go (xs := xs) ⟨HS.out, by rw [HN.out]; exact hl⟩
      rw [hv, HN.out]
      have hne : ((n : Int) != c * r) = false := by rw [bne_eq_false_iff_eq]; exact hl
      have hn16 : n ≤ 16 := by omega
      have HL := Lib.hid hl
      have HX := Lib.hid hx
      clear hl hv hx
      go_enter Try.func21, Try.ntmps21
      go_wp2_with fail
      (refine (l23Ok_tt _ _ _ HS.out).mono ?_; rintro e w' ⟨rfl, rfl⟩)
      go_wp2_with (at_make; refine wpList_make_bool rfl _ _ rfl w n _ _ rfl rfl HL.out.symm HL.out.symm (by omega) (Q.refl _) ?_; intro w2 o2 q2 s2)
      generalize hg : w.heap.size = g at o2 s2
      have O2 := Lib.hid o2
      have G := Lib.hid hg
      have hBg : B ≤ g := by rw [← G.out]; exact hB
      have QQ := Lib.hid q2
      clear hg q2 o2 hB
      go_wp2_with fail
      go_loopw [8] (fun i wr => ∃ (k : Nat) (ds : List Bool), k ≤ n ∧ i = .int .i64 k ∧ Hid (ordRun c xs (List.replicate n false) = ordRun c (xs.drop k) ds) ∧ OwnB wr g (.slice (some ⟨g, 0, none⟩) n n) n ds ∧ Q w wr) (fun i _ => n - (intOf i).toNat)
      case atStart => exact ⟨0, _, Nat.zero_le _, rfl, rfl, O2.out, QQ.out⟩
      case round =>
        obtain ⟨k, ds, hk, rfl, hr, hd, hq⟩ := hrel
        clear hne s2
        obtain ⟨wo, rfl⟩ : ∃ wo : World, wo = wr := ⟨_, rfl⟩
        by_cases hlt : k < n
        · obtain ⟨b, o, rfl, hbB, hc⟩ := HX.out (by rw [HN.out]; omega)
          have hbw : b < w.heap.size := by rw [G.out]; omega
          have hc1 := (hq.cell b _ hbw).trans (hc k (by rw [HN.out]; exact hlt))
          have hst := ordRun_drop c xs ds k (by rw [HN.out]; exact hlt)
          generalize hxv : xs[k]?.getD 0 = x at hc1 hst
          have hdl := hd.len
          have HC := Lib.hid hc
          have HXV := Lib.hid hxv
          have HDL := Lib.hid hdl
          have HG := Lib.hid hbw
          clear hc hxv hdl hbw
          by_cases hxx : 0 ≤ x ∧ x < n
          · obtain ⟨x0, x1⟩ := hxx
            have hd1 := hd.at x.toNat (by omega)
            have hdn : ds[x.toNat]?.getD false = doneAt ds x := rfl
            rw [hdn] at hd1
            have hok : okAt c ds x = (!doneAt ds x && allDone ds (needsV c x)) := by unfold okAt; rw [decide_eq_true ⟨x0, by rw [HDL.out]; omega⟩]; rfl
            rw [hok] at hst
            have x2 : x ≤ c * r - 1 := by rw [← HL.out]; omega
            cases hdx : doneAt ds x
            · rw [hdx] at hst hd1
              have HST := Lib.hid hst
              have HI := Lib.hid (needs_in (c := c) (n := x) h1 x0)
              have hle := needs_le c x
              have hnv : needs c r x = needsV c x := if_pos ⟨HS.out, x0, by omega⟩
              have HNV := Lib.hid hnv
              clear hok hdn hst hdx hnv
              generalize needsV c x = ys at HI hle HST HNV
              generalize hln : ys.length = ln at HI hle
              have HL2 := Lib.hid hln
              clear hln
              go_wp2_with fail
              refine (l1In_tt _ _ _ _ x0 x2).mono ?_; rintro e w' ⟨rfl, rfl⟩
              go_wp2_with fail
              refine (spec_WaveNeeds _ _ _ _).mono ?_; rw [HNV.out, HL2.out]; rintro e w3 ⟨v3, rfl, o3, q3⟩
              obtain ⟨A3, c3, rfl⟩ := o3.form
              have d3 := hd.q q3
              have Q3 := hq.trans q3
              have R3 := Lib.hid o3.rd
              have D3 := Lib.hid d3
              have hc3 := (q3.cell b (o + k) (by have := hq.size; have := HG.out; omega)).trans hc1
              have QQ3 := Lib.hid Q3
              clear o3 d3 hc1 hd1 hd hq q3 Q3
              go_wp2_with fail
              go_loop [10] (fun i => ∃ j : Nat, j ≤ ln ∧ i = .int .i64 j ∧ Hid (allDone ds ys = allDone ds (ys.drop j))) (fun i => ln - (intOf i).toNat)
              case atStart => exact ⟨0, Nat.zero_le _, rfl, rfl⟩
              case round =>
                obtain ⟨j, hj, rfl, hrj⟩ := hrel
                by_cases hltj : j < ln
                · obtain ⟨b3, o3, rfl, hb3, hc3'⟩ := R3.out (by rw [HL2.out]; omega)
                  have hcj := hc3' j (by rw [HL2.out]; exact hltj)
                  obtain ⟨y0, y1⟩ := HI.out j hltj
                  have hs := allDone_drop ds ys j (by rw [HL2.out]; exact hltj)
                  have hdj := D3.out.at (ys[j]?.getD 0).toNat (by omega)
                  have y2 : ys[j]?.getD 0 < (n : Int) := by omega
                  have hdn : ds[(ys[j]?.getD 0).toNat]?.getD false = doneAt ds (ys[j]?.getD 0) := rfl
                  rw [hdn] at hdj
                  generalize ys[j]?.getD 0 = y at hcj y0 y1 y2 hs hdj
                  clear hdn hc3' hc3
                  cases hdy : doneAt ds y
                  · rw [hdy] at hs hdj
                    have HS3 := Lib.hid hs
                    clear hs hdy
                    go_wp2_with fail
                    go_ret
                    exact ⟨by rw [hr.out, HST.out, hrj.out, HS3.out]; rfl, QQ3.out⟩
                  · rw [hdy] at hs hdj
                    have HS3 := Lib.hid hs
                    clear hs hdy
                    go_wp2_with fail
                    go_round
                    case rel => exact ⟨j + 1, by omega, by go_num, by rw [Hid, hrj.out, HS3.out]; rfl⟩
                    case measure => simp [intOf]; omega
                · have : j = ln := by omega
                  subst this
                  have hall : allDone ds ys = true := by rw [hrj.out, List.drop_of_length_le (Nat.le_of_eq HL2.out)]; rfl
                  have HALL := Lib.hid hall
                  have d3f := D3.out.free x.toNat
                  have d3c := D3.out.at x.toNat (by omega)
                  have d4 := D3.out.set x.toNat true
                  have q4 := QQ3.out.set (p := ⟨g, x.toNat, none⟩) (by show w.heap.size ≤ g; rw [G.out]; exact Nat.le_refl _) (.bool true)
                  have D4 := Lib.hid d4
                  have Q4 := Lib.hid q4
                  clear d4 q4 hall
                  go_wp2_with fail
                  go_roundw
                  case rel => exact ⟨k + 1, _, by omega, by go_num, by rw [Hid, hr.out, HST.out, HALL.out]; rfl, D4.out, Q4.out⟩
                  case measure => simp [intOf]; omega
            · rw [hdx] at hst hd1
              have HST := Lib.hid hst
              clear hok hdn hst hdx
              go_wp2_with fail
              refine (l1In_tt _ _ _ _ x0 x2).mono ?_; rintro e w' ⟨rfl, rfl⟩
              go_wp2_with fail
              go_ret
              exact ⟨by rw [hr.out, HST.out]; rfl, hq⟩
          · have hok : okAt c ds x = false := by unfold okAt; rw [decide_eq_false (by rw [HDL.out]; exact hxx)]; rfl
            rw [hok] at hst
            have HST := Lib.hid hst
            have hxo : x < 0 ∨ c * r - 1 < x := by rw [← HL.out]; omega
            clear hok hst hxx
            go_wp2_with fail
            refine (l1In_ff _ _ _ _ hxo).mono ?_; rintro e w' ⟨rfl, rfl⟩
            go_wp2_with fail
            go_ret
            exact ⟨by rw [hr.out, HST.out]; rfl, hq⟩
        · have : k = n := by omega
          subst this
          go_wp2_with fail
          go_ret
          exact ⟨by rw [hr.out, List.drop_of_length_le (Nat.le_of_eq HN.out)]; rfl, hq⟩
    · have hv := order_no (xs := xs) (c := c) (r := r) (fun h => hl (by rw [← HN.out]; exact h.2))
      rw [hv]
      have hne : ((n : Int) != c * r) = true := by rw [bne_iff_ne]; exact hl
      clear hl hv hx
      go_enter Try.func21, Try.ntmps21
      go_wp2_with fail
      (refine (l23Ok_tt _ _ _ HS.out).mono ?_; rintro e w' ⟨rfl, rfl⟩)
      go_wp2_with fail
      go_ret
      exact ⟨rfl, Q.refl _⟩
  · have hv := order_no (xs := xs) (c := c) (r := r) (fun h => hs h.1)
    rw [hv]
    have HS := Lib.hid hs
    clear hs hv hx
    go_enter Try.func21, Try.ntmps21
    go_wp2_with fail
    refine (l23Ok_ff _ _ _ HS.out).mono ?_; rintro e w' ⟨rfl, rfl⟩
    go_wp2_with fail
    go_ret
    exact ⟨rfl, Q.refl _⟩
end Go.Proofs.Ytnmegieibcmhcaa

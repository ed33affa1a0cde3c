/-
  WaveTime of the program.
-/
import Derived.Test.YtnmegieibcmhcaaTime
import Derived.Deep.RegionLaw
import Derived.Deep.RegionWith
import Derived.Deep.DeepCutAuto
namespace Go.Proofs.Ytnmegieibcmhcaa
open Go.RowKit

theorem inR_get {N : Nat} {xs : List Int} (h : inR N xs) : ∀ x ∈ xs, 0 ≤ x ∧ x < N := fun x hx => by
  obtain ⟨i, hi, rfl⟩ := List.getElem_of_mem hx
  have := h i hi
  rw [List.getElem?_eq_getElem hi] at this
  exact this
theorem inR_of {N : Nat} {xs : List Int} (h : ∀ x ∈ xs, 0 ≤ x ∧ x < N) : inR N xs := fun k hk => by
  rw [List.getElem?_eq_getElem hk]
  exact h _ (List.getElem_mem hk)
theorem inR_snoc {N : Nat} {xs : List Int} {x : Int} (h : inR N xs) (h0 : 0 ≤ x) (h1 : x < N) : inR N (xs ++ [x]) := inR_of fun y hy => by
  rcases List.mem_append.1 hy with h' | h'
  · exact inR_get h y h'
  · simp at h'; subst h'; exact ⟨h0, h1⟩
theorem splitT_drop (c : Int) (W : Nat) (d : List Bool) (xs now later : List Int) (k : Nat) (h : k < xs.length) :
    splitT c W d (xs.drop k) now later = if now.length < W ∧ allDone d (needsV c (xs[k]?.getD 0)) = true then splitT c W d (xs.drop (k + 1)) (now ++ [xs[k]?.getD 0]) later else splitT c W d (xs.drop (k + 1)) now (later ++ [xs[k]?.getD 0]) := by
  rw [drop_getD _ _ h, splitT]
theorem markT_drop (d : List Bool) (xs : List Int) (k : Nat) (h : k < xs.length) : markT d (xs.drop k) = markT (d.set (xs[k]?.getD 0).toNat true) (xs.drop (k + 1)) := by
  rw [drop_getD _ _ h]; rfl
theorem order_in_fin : ∀ c : Fin 5, ∀ r : Fin 5, 1 ≤ c.1 → 1 ≤ r.1 → (waveOrder c.1 r.1).length = c.1 * r.1 ∧ ∀ k : Fin 16, k.1 < (waveOrder c.1 r.1).length → 0 ≤ (waveOrder c.1 r.1)[k.1]?.getD 0 ∧ (waveOrder c.1 r.1)[k.1]?.getD 0 < (c.1 * r.1 : Nat) := by decide +kernel
theorem order_in {c r : Nat} (h : sizeOk c r) : (waveOrder c r).length = c * r ∧ inR (c * r) (waveOrder c r) := by
  obtain ⟨h1, h2, h3, h4⟩ := h
  obtain ⟨a, b⟩ := order_in_fin ⟨c, by omega⟩ ⟨r, by omega⟩ (by show 1 ≤ c; omega) (by show 1 ≤ r; omega)
  refine ⟨a, fun k hk => b ⟨k, ?_⟩ hk⟩
  have := order_le c r
  omega
theorem time_facts {c r W : Nat} (h : sizeOk c r) (h1 : 1 ≤ W) (h2 : W ≤ 16) :
    runT c W 17 (waveOrder c r) (List.replicate (c * r) false) = some (timeT c r W) ∧ runS c W (waveOrder c r) 17 (c * r) 0 (List.replicate (c * r) 0) = some (timeT c r W) ∧
    timeT c r W ≤ c * r ∧ timeT c r 1 = c * r ∧ (timeT c r 16 : Int) = waveStep c r (c * r - 1) + 1 ∧ (W = 16 ∨ timeT c r (W + 1) ≤ timeT c r W) := by
  obtain ⟨a, b, d, e⟩ := h
  exact time_fin ⟨c, by omega⟩ ⟨r, by omega⟩ ⟨W, by omega⟩ (by show 1 ≤ c; omega) (by show 1 ≤ r; omega) h1


theorem run_make_bool (n : Nat) (hn : n ≤ 1000000000000) : ∃ f : World → World, (∀ w, (Instr.makeSlice 59 (.int .i64 n) (.int .i64 n)).run Try.prog w = .ok (.slice (some ⟨w.heap.size, 0, none⟩) n n) (f w)) ∧
    ∀ w, OwnB (f w) w.heap.size (.slice (some ⟨w.heap.size, 0, none⟩) n n) n (List.replicate n false) ∧ Q w (f w) := by
  obtain ⟨i0, hi, hz0, hz1, hz2⟩ := info_parts info_bool
  have h : ∀ w : World, ∃ w', (Instr.makeSlice 59 (.int .i64 n) (.int .i64 n)).run Try.prog w = .ok (.slice (some ⟨w.heap.size, 0, none⟩) n n) w' ∧ (OwnB w' w.heap.size (.slice (some ⟨w.heap.size, 0, none⟩) n n) n (List.replicate n false) ∧ Q w w') := fun w => by
    obtain ⟨w', hrun, r1, r2⟩ := run_make_full (P := Try.prog) w w.heap.size 59 4 i0 (.bool false) 1 Try.underlying59 hi hz0 hz1 .i64 .i64 n (by rw [hz2]; omega) (by unfold maxLen; omega) (Nat.le_refl _)
    exact ⟨w', hrun, ⟨by simp, by simpa [Value.cells, toList_madeCells_one] using r1⟩, Q.of_none r2⟩
  exact ⟨fun w => Classical.choose (h w), fun w => (Classical.choose_spec (h w)).1, fun w => (Classical.choose_spec (h w)).2⟩

/-- 'out = append(out, y)', and where the new row lies -/
theorem wpList_append_apart {w : World} {ops : Array Oper} {rest : List Oper} {o : Oper} {a : Act} {Q' : Exit → Act → World → Prop} (hgd : o.guard = none) (s x : Operand)
    (ho : o.op = .call { callee := .builtin .append, args := #[s, x], argTypes := #[32, 32] })
    (B n : Nat) (v : Value) (xs : List Int) (hs : a.eval s = v) (hown : Own w B v n xs) (ad : Addr) (y : Int) (c : Nat) (hx : a.eval x = .slice (some ad) 1 c)
    (hn : n ≤ 1000000000000) (hBw : B ≤ w.heap.size) (hc : w.cell? ad = some (.int .i64 y))
    (h : ∀ g cap w', Own w' B (.slice (some ⟨g, 0, none⟩) (n + 1) cap) (n + 1) (xs ++ [y]) → w.grownBy w' v.ownBlock → (v.ownBlock = some g ∨ g = w.heap.size) → wpList Try.prog ops Q' rest (a.put o.dst (.slice (some ⟨g, 0, none⟩) (n + 1) cap)) w') : wpList Try.prog ops Q' (o :: rest) a w := by
  obtain ⟨i0, hi, hz0, hz1, hz2⟩ := info_parts info_int
  refine wpList_append_lies _ hgd s x 32 ho B 3 i0 (.int .i64 0) 1 8 Try.underlying32 hi hz0 hz1 hz2 rfl (by decide) v n _ hs hown.2 ad 1 c [.int .i64 y] hx rfl ?_ ?_ (by decide) ?_ ?_ hBw _ rfl ?_
  · intro j u hj
    match j, hj with
    | 0, hj => simp at hj; subst hj; simpa [Addr.add] using hc
  · intro u hu; simp at hu; subst hu; rfl
  · unfold maxLen; omega
  · omega
  · intro g cap w' h1 h2 h3 _
    exact h g cap w' ⟨by simp [hown.1], by simpa using h1⟩ h2 h3
theorem Own.ltB {w : World} {B n : Nat} {v : Value} {xs : List Int} (h : Own w B v n xs) : ∀ k, v.ownBlock = some k → k < w.heap.size := fun k hk => (h.2.lt k hk).2
theorem OwnB.drawnQ {w w' : World} {B n : Nat} {v : Value} {ds : List Bool} (h : OwnB w B v n ds) {row : Option Nat} (hg : w.grownBy w' row) (hne : v.ownBlock = none ∨ v.ownBlock ≠ row) : OwnB w' B v n ds := ⟨h.1, h.2.kept hg hne⟩
theorem OwnB.mono {w : World} {B B' n : Nat} {v : Value} {ds : List Bool} (h : OwnB w B v n ds) (hB : B' ≤ B) : OwnB w B' v n ds := by
  obtain ⟨h0, h1, h2⟩ := h
  refine ⟨h0, h1, ?_⟩
  rcases h2 with h2 | ⟨g, cap, cur, hv, hg, r⟩
  · exact .inl h2
  · exact .inr ⟨g, cap, cur, hv, by omega, r⟩
theorem Own.sameLen {w : World} {B n : Nat} {v : Value} {xs : List Int} (h : Own w B v n xs) : Own w B v xs.length xs := by rw [h.1]; exact h
theorem runT_end (c : Int) (W gk s T : Nat) (d : List Bool) (h : (runT c W gk [] d).map (· + s) = some T) : T = s := by
  cases gk with
  | zero => simp [runT] at h
  | succ f => simp [runT] at h; omega
theorem runT_go (c : Int) (W gk s T : Nat) (xs : List Int) (d : List Bool) (hx : xs ≠ []) (h : (runT c W gk xs d).map (· + s) = some T) :
    ∃ f, gk = f + 1 ∧ (runT c W f (splitT c W d xs [] []).2 (markT d (splitT c W d xs [] []).1)).map (· + (s + 1)) = some T := by
  cases gk with
  | zero => simp [runT] at h
  | succ f =>
    refine ⟨f, rfl, ?_⟩
    rw [runT, if_neg hx] at h
    rw [← h, Option.map_map]
    congr 1
    funext x
    simp; omega
/-- two rows do not share a block -/
def Far (v v' : Value) : Prop := v.ownBlock = none ∨ v.ownBlock ≠ v'.ownBlock
theorem Far.symm {v v' : Value} (h : Far v v') : Far v' v := by
  unfold Far at *
  rcases h with h | h
  · cases hv : v'.ownBlock with
    | none => exact .inl rfl
    | some k => exact .inr (by rw [h]; simp)
  · exact .inr (fun e => h e.symm)
theorem far_nil (v : Value) : Far (.slice none 0 0) v := .inl rfl
/-- behind an append to v, v2 beside it -/
theorem far_next {w : World} {v v2 : Value} {g n cap : Nat} (hf : Far v v2) (hat : v.ownBlock = some g ∨ g = w.heap.size) (hlt : ∀ k, v2.ownBlock = some k → k < w.heap.size) : Far (.slice (some ⟨g, 0, none⟩) n cap) v2 := by
  refine .inr (fun e => ?_)
  have e' : v2.ownBlock = some g := e.symm
  rcases hat with h | h
  · rcases hf with h' | h'
    · rw [h'] at h; cases h
    · exact h' (h.trans e'.symm)
  · have := hlt g e'; omega

/-- what the program's step has so far: those taken, those left -/
def StepRel (w0 wr : World) (vn vl : Value) (nows laters : List Int) : Prop :=
  Own wr w0.heap.size vn nows.length nows ∧ Own wr w0.heap.size vl laters.length laters ∧ Far vn vl ∧ Q w0 wr

set_option maxRecDepth 100000 in
set_option maxHeartbeats 4000000 in
theorem impl_WaveTime_ok (c r W N T : Nat) (w : World) (hs : sizeOk c r) (hW1 : 1 ≤ W) (hW2 : W ≤ 16) (hN : c * r = N) (hrun : Hid (runT c W 17 (waveOrder c r) (List.replicate N false) = some T)) :
    Calls Try.prog 46 #[.int .i64 c, .int .i64 r, .int .i64 W] w fun e w' => e = .returned (.int .i64 T) ∧ Q w w' := by
  have hcr := size_le hs
  have hNi : (c : Int) * (r : Int) = N := by rw [← hN]; simp
  rw [hNi] at hcr
  have hN16 : N ≤ 16 := by omega
  obtain ⟨hol, hoi⟩ := order_in hs
  rw [hN] at hol hoi
  have HOL := Lib.hid hol
  have HOI := Lib.hid hoi
  have hov : waveOrder c r = insSort (stepVal c) (upFrom 0 N) := by
    unfold waveOrder
    rw [if_pos hs, hNi, Int.toNat_natCast]
  have HOV := Lib.hid hov
  have HD := Lib.hid (decide_eq_true hs)
  obtain ⟨h1, h2, h3, h4⟩ := hs
  have HWO : Hid (∀ w : World, Calls Try.prog 65 #[.agg #[.int .i64 c, .int .i64 r]] w fun e w' => ∃ v, e = .returned v ∧ Own w' w.heap.size v N (waveOrder c r) ∧ Q w w') := fun w => by
    rw [HOV.out]
    exact wave_order c r N w h1 h2 hNi hN16
  have HNI := Lib.hid hNi
  clear hN hol hoi hov hNi
  generalize waveOrder c r = ord at hrun HOL HOI HWO
  clear HOV
  obtain ⟨mk, hmk, hmk2⟩ := run_make_bool N (by omega)
  have HMK2 := Lib.hid hmk2
  clear hmk2
  have b0 := Blk.new w 61 #[.int .i64 c, .int .i64 r]
  have q0 : Q w (w.alloc (.cells #[.int .i64 c, .int .i64 r] 61)) := (by repeat (first | exact Q.refl _ | assumption | refine Q.drewN ?_ _ | refine Q.drew ?_ | refine Q.alloc ?_ _ | refine Q.trans ?_ (by assumption) | refine Q.set ?_ (by first | exact Nat.le_refl _ | omega | (simp; done) | (simp; omega)) _))
  have hw1 : decide ((W : Int) < 1) = false := by simp; omega
  have hw2 : decide ((16 : Int) < (W : Int)) = false := by simp; omega
  go_enter Try.func46, Try.ntmps46
  go_wp2_with fail
  refine (wave_valid _ _ _ _ HD.out).mono ?_; rintro e w1 ⟨rfl, q1⟩
  have b1 := b0.q q1
  have Q1 := q0.trans q1
  have hc1 := b1.cell
  have hb1 := b1.lt
  clear b0 q0 q1
  have t1 : IntKind.i64.wrap ((c : Int) * (r : Int)) = (N : Int) := by rw [HNI.out]; exact IntWalk.i64_in _ ⟨by omega, by omega⟩
  have hcA : ∀ i : Nat, w1.drew.cell? ⟨w.heap.size, i, none⟩ = _ := fun i => hc1 i
  have hcB := (b1.q ((Q.refl w1).drew.trans (HMK2.out w1.drew).2)).cell
  go_upto_region 4 with fail
  go_cut [8, 9] (fun l d wx => ∃ (A : Option Addr) (cp gd : Nat), l = .slice A N cp ∧ d = .slice (some ⟨gd, 0, none⟩) N N ∧ Own wx w1.heap.size (.slice A N cp) N ord ∧ OwnB wx w1.heap.size (.slice (some ⟨gd, 0, none⟩) N N) N (List.replicate N false) ∧ Q w1 wx)
  case first =>
    go_region_with (go_at_call 65; refine (HWO.out _).mono ?_; rintro e wz ⟨vz, rfl, oz, qz⟩; obtain ⟨Az, cz, rfl⟩ := oz.form)
    all_goals
      go_wp2_with fail
      go_meet
      first
        | exact ⟨_, _, _, rfl, rfl, (oz.q (HMK2.out wz).2).mono (Nat.le_refl _), (HMK2.out wz).1.mono (show w1.heap.size ≤ _ from ((Q.refl w1).drew.trans qz).size), ((Q.refl w1).drew.trans qz).trans (HMK2.out wz).2⟩
        | exact ⟨_, _, _, rfl, rfl, oz.mono (show w1.heap.size ≤ _ from ((Q.refl w1).drew.trans (HMK2.out w1.drew).2).size), ((HMK2.out w1.drew).1.q qz).mono (Nat.le_refl _), ((Q.refl w1).drew.trans (HMK2.out w1.drew).2).trans qz⟩
  case rest =>
  obtain ⟨A, cp, gd, rfl, rfl, ho, hd, hq⟩ := hcut
  have hgd : w1.heap.size ≤ gd ∧ gd < wc.heap.size ∨ N = 0 := by
    rcases Nat.eq_zero_or_pos N with h | h
    · exact .inr h
    · exact .inl (hd.block h)
  have hN1 : 1 ≤ N := by omega
  have hgd1 : w1.heap.size ≤ gd := by omega
  have hgd2 : gd < wc.heap.size := by omega
  have b2 := b1.q hq
  have Q2 := Q1.trans hq
  have HR := Lib.hid ho.rd
  have HDD := Lib.hid hd
  have HQ2 := Lib.hid Q2
  have HHQ := Lib.hid hq
  clear hgd ho hd hq Q2 hmk t1 hc1 b1 Q1 hcr
  go_wp2_with fail
  go_loopg [8, 10] 17 (fun gk left st wr => ∃ (n s : Nat) (xs : List Int) (d : List Bool) (A : Option Addr) (cp : Nat), left = .slice A n cp ∧ st = .int .i64 s ∧ n ≤ 16 ∧ Rd wr wr.heap.size A xs ∧ Hid (xs.length = n) ∧ Hid (inR N xs) ∧
    OwnB wr w1.heap.size (.slice (some ⟨gd, 0, none⟩) N N) N d ∧ Q w wr ∧ Q w1 wr ∧ Blk wr w.heap.size 61 #[.int .i64 c, .int .i64 r] ∧ Hid ((runT c W gk xs d).map (· + s) = some T) ∧ s + gk = 17)
  case atStart => exact ⟨N, 0, ord, _, A, cp, rfl, rfl, hN16, HR.out, HOL.out, HOI.out, HDD.out, HQ2.out, HHQ.out, b2, by rw [Hid, hrun.out]; rfl, rfl⟩
  case round =>
    obtain ⟨n, s, xs, d, A, cp, rfl, rfl, hn16, hrd, hxl, hin, hd, hqw, hq1, hb, hrn, hsg⟩ := hrel
    obtain ⟨wo, rfl⟩ : ∃ wo : World, wo = wr := ⟨_, rfl⟩
    clear b2
    by_cases hn0 : n = 0
    · subst hn0
      have hx0 : xs = [] := List.length_eq_zero_iff.1 hxl.out
      subst hx0
      have hTs := runT_end _ _ _ _ _ _ hrn.out
      subst hTs
      have HQW := Lib.hid hqw
      clear hrn hd hb hq1 hqw hrd
      go_wp2_with fail
      go_ret
      exact ⟨rfl, HQW.out⟩
    · have hxne : xs ≠ [] := fun h => by rw [h] at hxl; exact hn0 hxl.out.symm
      obtain ⟨f, hf, hrn2⟩ := runT_go _ _ _ _ _ _ _ hxne hrn.out
      have HF := Lib.hid hf
      have hs17 : s + 1 + f = 17 := by omega
      have HRN := Lib.hid hrn2
      have hn1 : 0 < n := by omega
      have hn2 : decide (0 < n) = true := decide_eq_true hn1
      have hbc := hb.cell
      have hbl := hb.lt
      have HB := Lib.hid hb
      have hdl := hd.len
      have HDL := Lib.hid hdl
      have HD2 := Lib.hid hd
      have HRD := Lib.hid hrd
      have HQW := Lib.hid hqw
      have HQ1 := Lib.hid hq1
      have hs1 := hq1.size
      clear hf hrn2 hrn hb hd hdl hrd hqw hq1 hxne hn0
      obtain ⟨g, o, rfl, hgb, hc⟩ := HRD.out (by rw [hxl.out]; omega)
      have HC := Lib.hid hc
      clear hc
      go_wp2_with fail
      go_loopw [11, 12, 44] (fun vn vl i wx => ∃ (k : Nat) (nows laters : List Int), k ≤ n ∧ i = .int .i64 k ∧ StepRel wo wx vn vl nows laters ∧ Hid (nows.length + laters.length = k) ∧ Hid (inR N nows ∧ inR N laters) ∧ Hid (splitT c W d xs [] [] = splitT c W d (xs.drop k) nows laters)) (fun _ _ i _ => n - (intOf i).toNat)
      case atStart => exact ⟨0, [], [], Nat.zero_le _, rfl, ⟨Own.nil _ _, Own.nil _ _, far_nil _, Q.refl _⟩, rfl, ⟨fun _ h => absurd h (by simp), fun _ h => absurd h (by simp)⟩, rfl⟩
      case round =>
        obtain ⟨k, nows, laters, hk, rfl, ⟨z1, z2, z3, z4⟩, hlen, hnl, hsp⟩ := hrel
        obtain ⟨wy, rfl⟩ : ∃ wy : World, wy = wr := ⟨_, rfl⟩
        have hzs := z4.size
        by_cases hlt : k < n
        · have hcx := (z4.cell g _ hgb).trans (HC.out k (by rw [hxl.out]; exact hlt))
          obtain ⟨x1, x2⟩ := hin.out k (by rw [hxl.out]; exact hlt)
          have hst := splitT_drop c W d xs nows laters k (by rw [hxl.out]; exact hlt)
          rw [← hsp.out] at hst
          generalize xs[k]?.getD 0 = x at hcx x1 x2 hst
          have hbz := (HB.out.q z4).cell
          have hnn : nows.length ≤ 16 := by have := hlen.out; omega
          have hll : laters.length ≤ 16 := by have := hlen.out; omega
          have hfl := z2.ltB
          have hfn := z1.ltB
          obtain ⟨An, cn, rfl⟩ := z1.form
          obtain ⟨Al, cl, rfl⟩ := z2.form
          generalize hnv : nows.length = jn at z1 z3 hnn hfn
          generalize hlv : laters.length = jl at z2 z3 hll hfl
          have HNV := Lib.hid hnv
          have HLV := Lib.hid hlv
          rw [hnv] at hst
          clear hnv hlv
          have kn : (k : Int) < (n : Int) := by omega
          have HST := Lib.hid hst
          have Z1 := Lib.hid z1
          have Z2 := Lib.hid z2
          have Z3 := Lib.hid z3
          have Z4 := Lib.hid z4
          have HFL := Lib.hid hfl
          have HFN := Lib.hid hfn
          clear hst z1 z2 z3 z4 hfl hfn
          by_cases hjw : jn < W
          · have hjw' : (jn : Int) < (W : Int) := by omega
            cases hrdy : allDone d (needsV c x)
            · have HRDY := Lib.hid hrdy
              clear hrdy
              go_wp2_with fail
              refine (wave_ready false _ _ _ _ _ _ _ _ _ h1 h2 x1 x2 hN16 (HD2.out.q Z4.out) HRDY.out).mono ?_; rintro e w5 ⟨rfl, q5⟩
              have hs5 := q5.size
              go_wp2_with (at_builtin; refine wpList_append_apart rfl _ _ rfl wo.heap.size jl _ laters rfl ((Z2.out.q q5).alloc _) ⟨_, 0, none⟩ _ _ rfl (by omega) (by rw [World.size_alloc]; omega) (World.cell?_alloc_new _ _ _ _) ?_; intro g7 c7 w7 o7 g7' a7)
              rw [World.size_alloc] at a7
              go_roundw
              case rel =>
                have q57 := q5.alloc (.cells #[.int .i64 x] 3)
                have hne : Far (.slice (some ⟨g7, 0, none⟩) (jl + 1) c7) (.slice An jn cn) := far_next (w := w5.alloc (.cells #[.int .i64 x] 3)) Z3.out.symm (by rw [World.size_alloc]; exact a7) (fun j e => by rw [World.size_alloc]; have := HFN.out j e; omega)
                refine ⟨k + 1, nows, laters ++ [x], by omega, by go_num, ⟨?_, ?_, hne.symm, ?_⟩, ?_, ⟨hnl.out.1, inR_snoc hnl.out.2 x1 x2⟩, ?_⟩
                · rw [HNV.out]; exact (Z1.out.q q57).other g7' Z3.out
                · exact o7.sameLen
                · exact (Z4.out.trans q57).grown g7' (fun j e => ((Z2.out.q q57).2.lt j e).1)
                · rw [Hid, List.length_append, ← hlen.out]; simp; omega
                · rw [Hid, HST.out, if_neg (fun h => by rw [HRDY.out] at h; exact Bool.noConfusion h.2)]
              case measure => simp [intOf]; omega
            · have HRDY := Lib.hid hrdy
              clear hrdy
              go_wp2_with fail
              refine (wave_ready true _ _ _ _ _ _ _ _ _ h1 h2 x1 x2 hN16 (HD2.out.q Z4.out) HRDY.out).mono ?_; rintro e w5 ⟨rfl, q5⟩
              have hs5 := q5.size
              go_wp2_with (at_builtin; refine wpList_append_apart rfl _ _ rfl wo.heap.size jn _ nows rfl ((Z1.out.q q5).alloc _) ⟨_, 0, none⟩ _ _ rfl (by omega) (by rw [World.size_alloc]; omega) (World.cell?_alloc_new _ _ _ _) ?_; intro g7 c7 w7 o7 g7' a7)
              rw [World.size_alloc] at a7
              go_roundw
              case rel =>
                have q57 := q5.alloc (.cells #[.int .i64 x] 3)
                have hne : Far (.slice (some ⟨g7, 0, none⟩) (jn + 1) c7) (.slice Al jl cl) := far_next (w := w5.alloc (.cells #[.int .i64 x] 3)) Z3.out (by rw [World.size_alloc]; exact a7) (fun j e => by rw [World.size_alloc]; have := HFL.out j e; omega)
                refine ⟨k + 1, nows ++ [x], laters, by omega, by go_num, ⟨?_, ?_, hne, ?_⟩, ?_, ⟨inR_snoc hnl.out.1 x1 x2, hnl.out.2⟩, ?_⟩
                · exact o7.sameLen
                · rw [HLV.out]; exact (Z2.out.q q57).other g7' Z3.out.symm
                · exact (Z4.out.trans q57).grown g7' (fun j e => ((Z1.out.q q57).2.lt j e).1)
                · rw [Hid, List.length_append, ← hlen.out]; simp; omega
                · rw [Hid, HST.out, if_pos ⟨hjw, HRDY.out⟩]
              case measure => simp [intOf]; omega
          · have hjw' : decide ((jn : Int) < (W : Int)) = false := by simp; omega
            go_wp2_with (at_builtin; refine wpList_append_apart rfl _ _ rfl wo.heap.size jl _ laters rfl (Z2.out.alloc _) ⟨_, 0, none⟩ _ _ rfl (by omega) (by rw [World.size_alloc]; omega) (World.cell?_alloc_new _ _ _ _) ?_; intro g7 c7 w7 o7 g7' a7)
            rw [World.size_alloc] at a7
            go_roundw
            case rel =>
              have q57 := (Q.refl wy).alloc (.cells #[.int .i64 x] 3)
              have hne : Far (.slice (some ⟨g7, 0, none⟩) (jl + 1) c7) (.slice An jn cn) := far_next (w := wy.alloc (.cells #[.int .i64 x] 3)) Z3.out.symm (by rw [World.size_alloc]; exact a7) (fun j e => by rw [World.size_alloc]; have := HFN.out j e; omega)
              refine ⟨k + 1, nows, laters ++ [x], by omega, by go_num, ⟨?_, ?_, hne.symm, ?_⟩, ?_, ⟨hnl.out.1, inR_snoc hnl.out.2 x1 x2⟩, ?_⟩
              · rw [HNV.out]; exact (Z1.out.q q57).other g7' Z3.out
              · exact o7.sameLen
              · exact (Z4.out.trans q57).grown g7' (fun j e => ((Z2.out.q q57).2.lt j e).1)
              · rw [Hid, List.length_append, ← hlen.out]; simp; omega
              · rw [Hid, HST.out, if_neg (fun h => hjw h.1)]
            case measure => simp [intOf]; omega
        · have hkn : k = n := by omega
          subst hkn
          have hspl : splitT c W d xs [] [] = (nows, laters) := by rw [hsp.out, List.drop_of_length_le (Nat.le_of_eq hxl.out), splitT]
          have HRN2 : Hid ((runT c W f laters (markT d nows)).map (· + (s + 1)) = some T) := by have h := HRN.out; rw [hspl] at h; exact h
          have hnn : nows.length ≤ 16 := by have := hlen.out; omega
          have hll : laters.length ≤ 16 := by have := hlen.out; omega
          obtain ⟨An, cn, rfl⟩ := z1.form
          obtain ⟨Al, cl, rfl⟩ := z2.form
          generalize hnv : nows.length = jn at z1 hnn
          generalize hlv : laters.length = jl at z2 hll
          have HNV := Lib.hid hnv
          have HLV := Lib.hid hlv
          clear hnv hlv hspl
          have Z1 := Lib.hid z1
          have RL := Lib.hid z2
          have Z4 := Lib.hid z4
          have RN := Lib.hid z1.rd
          clear z1 z2 z3 z4
          go_wp2_with fail
          go_loopw [69] (fun i wx => ∃ (j : Nat) (dd : List Bool), j ≤ jn ∧ i = .int .i64 j ∧ OwnB wx w1.heap.size (.slice (some ⟨gd, 0, none⟩) N N) N dd ∧ Hid (markT d nows = markT dd (nows.drop j)) ∧ wy.grownBy wx (some gd)) (fun i _ => jn - (intOf i).toNat)
          case atStart => exact ⟨0, d, Nat.zero_le _, rfl, HD2.out.q Z4.out, rfl, World.grownBy.refl _ _⟩
          case round =>
            obtain ⟨j, dd, hj, rfl, hd, hmk, hg⟩ := hrel
            have hgdlt : gd < wo.heap.size := (HD2.out.block (by omega)).2
            by_cases hltj : j < jn
            · obtain ⟨gn, on, rfl, hgn, hcn⟩ := RN.out (by rw [HNV.out]; omega)
              have hgne : gn ≠ gd := by
                rcases Z1.out.form' with ⟨h', _⟩ | ⟨_, _, h', hB, _⟩
                · cases h'
                · cases h'; omega
              have hcj := (World.cell?_of_block (a := ⟨gn, on + j, none⟩) (hg.block gn hgn (fun e => hgne (by cases e; rfl)))).trans (hcn j (by rw [HNV.out]; exact hltj))
              obtain ⟨y1, y2⟩ := hnl.out.1 j (by rw [HNV.out]; exact hltj)
              have hmd := markT_drop dd nows j (by rw [HNV.out]; exact hltj)
              generalize nows[j]?.getD 0 = y at hcj y1 y2 hmd
              have hdc := hd.at y.toNat (by omega)
              have hdf := hd.free y.toNat
              have o8 := hd.set y.toNat true
              have g8 := grownBy_set hg y.toNat (.bool true)
              have O8 := Lib.hid o8
              have G8 := Lib.hid g8
              have HMD := Lib.hid hmd
              have HCN := Lib.hid hcn
              clear hd hg o8 g8 hmd hcn
              go_wp2_with fail
              go_roundw
              case rel => exact ⟨j + 1, _, by omega, by go_num, O8.out, by rw [Hid, hmk.out, HMD.out], G8.out⟩
              case measure => simp [intOf]; omega
            · have hjn : j = jn := by omega
              subst hjn
              have hmk2 : markT d nows = dd := by rw [hmk.out, List.drop_of_length_le (Nat.le_of_eq HNV.out)]; rfl
              have HMK3 := Lib.hid hmk2
              have HDX := Lib.hid hd
              have HG := Lib.hid hg
              clear hd hg hmk2
              go_wp2_with fail
              go_roundg f
              case rel =>
                have ol : Own wr wo.heap.size (.slice Al jl cl) jl laters := RL.out.other HG.out (by
                  cases hv : (Value.slice Al jl cl).ownBlock with
                  | none => exact .inl rfl
                  | some q => exact .inr (fun e => by cases e; have := (RL.out.2.lt gd hv).1; omega))
                refine ⟨jl, s + 1, laters, dd, Al, cl, rfl, by go_num, hll, ol.rd, HLV.out, hnl.out.2, HDX.out, (HQW.out.trans Z4.out).grown HG.out (fun q e => by cases e; have := HQW.out.size; omega), (HQ1.out.trans Z4.out).grown HG.out (fun q e => by cases e; omega), (HB.out.q Z4.out).grown HG.out (fun e => by cases e; omega), by rw [HMK3.out] at HRN2; exact HRN2.out, hs17⟩
              case measure => rw [HF.out]; omega
end Go.Proofs.Ytnmegieibcmhcaa

/-
  The drawing of a table of numbers and its width.
-/
import Derived.Test.YtnmegieibcmhcaaDraw2
import Derived.Test.YtnmegieibcmhcaaAppend
namespace Go.Proofs.Ytnmegieibcmhcaa
open Go.RowKit

theorem Rdr.grown' {w w' : World} {g P : Nat} (h : Rdr w g P) {row : Option Nat} (hg : w.grownBy w' row) (hk : ∀ k, row = some k → g < k) : Rdr w' g P := by
  obtain ⟨A, n, c, xs, p, h1, h2, h3, h4, h5⟩ := h
  have hl := h1.lt
  refine ⟨A, n, c, xs, p, h1.grown hg (fun e => ?_), h2, h3, h4.keep (fun b o hb => ?_), h5⟩
  · have := hk g e.symm; omega
  · exact World.cell?_of_block (a := ⟨b, o, none⟩) (hg.block b (by omega) (fun e => by have := hk b e.symm; omega))
theorem grownBy_next {a b c : World} {g : Nat} {row : Option Nat} (h : a.grownBy b (some g)) (k : b.grownBy c row) (hr : ∀ j, row = some j → a.heap.size ≤ j) : a.grownBy c (some g) :=
  h.andThen k (fun j e => .inl (hr j e))
theorem grownBy_alloc' {a w : World} {row : Option Nat} (h : a.grownBy w row) (o : Obj) : a.grownBy (w.alloc o) row :=
  h.andThen (row' := none) ⟨rfl, rfl, rfl, by rw [World.size_alloc]; exact Nat.le_succ _, fun i hi _ => (Below.block (Below.alloc (Below.refl _ _) (Nat.le_refl _) o) i hi)⟩ (fun _ e => by cases e)
theorem grownBy_both {a b c : World} {g : Nat} (h : a.grownBy b (some g)) (k : b.grownBy c (some g)) : a.grownBy c (some g) := h.andThen k (fun _ e => .inr e)

/-- 'out = append(out, y)', and what has turned. -/
theorem wpList_append_row {w : World} {ops : Array Oper} {rest : List Oper} {o : Oper} {a : Act} {Q' : Exit → Act → World → Prop} (hgd : o.guard = none) (s x : Operand)
    (ho : o.op = .call { callee := .builtin .append, args := #[s, x], argTypes := #[32, 32] })
    (B n : Nat) (v : Value) (xs : List Int) (hs : a.eval s = v) (hown : Own w B v n xs) (ad : Addr) (y : Int) (c : Nat) (hx : a.eval x = .slice (some ad) 1 c)
    (hn : n ≤ 1000000000000) (hBw : B ≤ w.heap.size) (hc : w.cell? ad = some (.int .i64 y))
    (h : ∀ v' w', Own w' B v' (n + 1) (xs ++ [y]) → w.grownBy w' v.ownBlock → wpList Try.prog ops Q' rest (a.put o.dst v') w') : wpList Try.prog ops Q' (o :: rest) a w := by
  obtain ⟨i0, hi, hz0, hz1, hz2⟩ := info_parts info_int
  refine wpList_append_own _ hgd s x 32 ho B 3 i0 (.int .i64 0) 1 8 Try.underlying32 hi hz0 hz1 hz2 rfl (by decide) v n _ hs hown.2 ad 1 c [.int .i64 y] hx rfl ?_ ?_ ?_ ?_ hBw ?_
  · intro j u hj
    match j, hj with
    | 0, hj => simp at hj; subst hj; simpa [Addr.add] using hc
  · intro u hu; simp at hu; subst hu; rfl
  · unfold maxLen; omega
  · omega
  · intro v' w' h1 h2 _
    exact h v' w' ⟨by simp [hown.1], by simpa using h1⟩ h2
theorem Own.rowLe {w : World} {B n : Nat} {v : Value} {xs : List Int} (h : Own w B v n xs) : ∀ k, v.ownBlock = some k → B ≤ k := fun k hk => (h.2.lt k hk).1
/-- behind a draw -/
theorem Own.drawn {w w' : World} {B n g : Nat} {v : Value} {xs : List Int} (h : Own w B v n xs) (hg : w.grownBy w' (some g)) (hB : g < B) : Own w' B v n xs := by
  refine h.other hg ?_
  cases hv : v.ownBlock with
  | none => exact .inl rfl
  | some k => exact .inr (fun e => by have := h.rowLe k hv; cases e; omega)

def Tbl (w0 : World) (g P : Nat) (e : Ending) (w' : World) : Prop :=
  ∃ A n c xs, ∃ v : Int, e = .returned (.tuple #[.slice A n c, .int .i64 v]) ∧ Rd w' w'.heap.size A xs ∧ xs.length = n ∧ n ≤ 64 ∧ 0 ≤ v ∧ v ≤ 40 ∧ Rdr w' g P ∧ w0.grownBy w' (some g)

set_option maxHeartbeats 4000000 in
theorem l20Table (g P : Nat) (w : World) (h : Rdr w g P) (hP : P ≤ 900000) :
    Calls Try.prog 61 #[.pointer (some ⟨g, 0, none⟩), .int .i64 6] w (Tbl w g (P + 300)) := by
  have hl := h.lt
  go_enter Try.func61, Try.ntmps61
  go_wp2_with fail
  refine (pick _ _ _ _ h (by omega) (by omega) (by omega)).mono ?_; rintro e w1 ⟨a, rfl, a1, a2, r1, g1⟩
  have r2 := r1.alloc (.cells #[] 3)
  have g2 := grownBy_alloc' g1 (.cells #[] 3)
  have o2 := Own.lit0 w1 w1.heap.size (Nat.le_refl _)
  have hl1 := r1.lt
  have hs1 := g1.size
  have hs2 : w1.heap.size < (w1.alloc (.cells #[] 3)).heap.size := by rw [World.size_alloc]; omega
  go_wp2_with fail
  generalize w1.alloc (.cells #[] 3) = w2 at r2 g2 o2 hs2 ⊢
  generalize hB : w1.heap.size = B at o2 hl1 hs1 hs2 ⊢
  clear hB r1 g1 h
  refine (pick _ _ _ _ r2 (by omega) (by omega) (by omega)).mono ?_; rintro e w3 ⟨b, rfl, b1, b2, r3, g3⟩
  have o3 := o2.drawn g3 hl1
  have G3 := grownBy_both g2 g3
  have hs3 := g3.size
  obtain ⟨K, hK, hK2, hK4⟩ : ∃ K : Nat, 2 * (2 * (1 + a)) * (1 + b) = (K : Int) ∧ K ≤ 48 ∧ 4 ≤ K := by
    obtain ⟨a, rfl⟩ := Int.eq_ofNat_of_zero_le a1
    obtain ⟨b, rfl⟩ := Int.eq_ofNat_of_zero_le b1
    refine ⟨2 * (2 * (1 + a)) * (1 + b), by simp, ?_, ?_⟩
    · exact Nat.le_trans (Nat.mul_le_mul (show 2 * (2 * (1 + a)) ≤ 16 by omega) (show 1 + b ≤ 3 by omega)) (by omega)
    · exact Nat.le_trans (show 4 ≤ 4 * 1 by omega) (Nat.mul_le_mul (show 4 ≤ 2 * (2 * (1 + a)) by omega) (show 1 ≤ 1 + b by omega))
  have HK := Lib.hid hK
  have kk1 : 0 ≤ 2 * (2 * (1 + a)) * (1 + b) := by omega
  have kk2 : 2 * (2 * (1 + a)) * (1 + b) ≤ 48 := by omega
  have O3 := Lib.hid o3
  have R3 := Lib.hid r3
  have GG3 := Lib.hid G3
  clear hK o2 o3 r2 r3 g2 g3 G3
  go_wp2_with fail
  generalize 2 * (2 * (1 + a)) * (1 + b) = KK at kk1 kk2 HK ⊢
  have hke := HK.out
  subst hke
  clear kk1 kk2 HK
  go_loopw [7, 8] (fun v i wr => ∃ (k j : Nat) (xs : List Int), j + k = K ∧ i = .int .i64 k ∧ Own wr B v j xs ∧ Rdr wr g (P + 2 + 3 * j) ∧ w.grownBy wr (some g) ∧ B < wr.heap.size) (fun _ i _ => (intOf i).toNat)
  case atStart => exact ⟨K, 0, [], by omega, rfl, O3.out, R3.out, GG3.out, by omega⟩
  case round =>
    obtain ⟨k, j, xs, hjk, rfl, ho, hr, hg, hs⟩ := hrel
    clear O3 R3 GG3 hs3 hs2
    obtain ⟨w5, rfl⟩ : ∃ w5, wr = w5 := ⟨_, rfl⟩
    by_cases hk : 0 < k
    · go_wp2_with fail
      refine (pick _ _ _ _ hr (by omega) (by omega) (by omega)).mono ?_; rintro e w6 ⟨p, rfl, p1, p2, r6, g6⟩
      have o6 := ho.drawn g6 hl1
      have G6 := grownBy_both hg g6
      have s6 := g6.size
      clear hr g6 ho hg
      go_wp2_with fail
      refine (pick _ _ _ _ r6 (by omega) (by omega) (by omega)).mono ?_; rintro e w7 ⟨q, rfl, q1, q2, r7, g7⟩
      have o7 := o6.drawn g7 hl1
      have G7 := grownBy_both G6 g7
      have s7 := g7.size
      clear r6 g7 o6 G6
      go_wp2_with fail
      have o8 := o7.alloc (.cells #[.int .i64 p, .int .i64 (-q)] 3)
      have r8 := r7.alloc (.cells #[.int .i64 p, .int .i64 (-q)] 3)
      have G8 := grownBy_alloc' G7 (.cells #[.int .i64 p, .int .i64 (-q)] 3)
      have l8 := Blk.new w7 3 #[.int .i64 p, .int .i64 (-q)]
      have hm7 : B < w7.heap.size := by omega
      have s8 : w7.heap.size < (w7.alloc (.cells #[.int .i64 p, .int .i64 (-q)] 3)).heap.size := by rw [World.size_alloc]; omega
      generalize w7.heap.size = m at hm7 l8 s8 ⊢
      generalize w7.alloc (.cells #[.int .i64 p, .int .i64 (-q)] 3) = w8 at o8 r8 G8 l8 s8 ⊢
      clear o7 r7 G7 s7 s6 hs
      refine (pick _ _ _ _ r8 (by omega) (by omega) (by omega)).mono ?_; rintro e w9 ⟨z, rfl, z1, z2, r9, g9⟩
      have o9 := o8.drawn g9 hl1
      have G9 := grownBy_both G8 g9
      have l9 := l8.draw g9 (by omega)
      have i9 := l9.cell
      have s9 := g9.size
      clear o8 r8 G8 l8 g9
      obtain rfl | rfl : z = 0 ∨ z = 1 := by omega
      · go_wp2_with (at_builtin; refine wpList_append_row rfl _ _ rfl B j _ xs rfl (o9.alloc _) ⟨_, 0, none⟩ p _ rfl (by omega) (by rw [World.size_alloc]; omega) (World.cell?_alloc_new _ _ _ _) ?_; intro v' w10 o10 g10)
        have s10 := g10.size
        rw [World.size_alloc] at s10
        have r10 := (r9.alloc (.cells #[.int .i64 p] 3)).grown' g10 (fun k hk => by have := o9.rowLe k hk; omega)
        have G10 := grownBy_next (grownBy_alloc' G9 (.cells #[.int .i64 p] 3)) g10 (fun k hk => by have := o9.rowLe k hk; omega)
        clear o9 r9 G9 g10 l9 i9
        go_roundw
        case rel => exact ⟨k - 1, j + 1, _, by omega, by first | go_num | (congr 1; omega), o10, r10.more (by omega), G10, by omega⟩
        case measure => simp [intOf]; omega
      · go_wp2_with (at_builtin; refine wpList_append_row rfl _ _ rfl B j _ xs rfl (o9.alloc _) ⟨_, 0, none⟩ (-q) _ rfl (by omega) (by rw [World.size_alloc]; omega) (World.cell?_alloc_new _ _ _ _) ?_; intro v' w10 o10 g10)
        have s10 := g10.size
        rw [World.size_alloc] at s10
        have r10 := (r9.alloc (.cells #[.int .i64 (-q)] 3)).grown' g10 (fun k hk => by have := o9.rowLe k hk; omega)
        have G10 := grownBy_next (grownBy_alloc' G9 (.cells #[.int .i64 (-q)] 3)) g10 (fun k hk => by have := o9.rowLe k hk; omega)
        clear o9 r9 G9 g10 l9 i9
        go_roundw
        case rel => exact ⟨k - 1, j + 1, _, by omega, by first | go_num | (congr 1; omega), o10, r10.more (by omega), G10, by omega⟩
        case measure => simp [intOf]; omega
    · have hk0 : k = 0 := by omega
      subst hk0
      have hj : j = K := by omega
      subst hj
      obtain ⟨_, h0⟩ | ⟨gg, c, rfl, hgB, _, hjc, hcm⟩ := ho.form'
      · omega
      go_wp2_with fail
      refine (odd _ _ _ _ hr (by omega) (by omega) (by omega)).mono ?_; rintro e w6 ⟨t, rfl, r6, g6⟩
      have o6 := ho.drawn g6 hl1
      have G6 := grownBy_both hg g6
      have s6 := g6.size
      have hxl := o6.len
      clear hr g6 ho hg
      cases t
      · have R6 := o6.rd
        have HX := Lib.hid hxl
        clear hxl o6
        go_wp2_with fail
        exact bodyPost_ret (v := .tuple #[.slice (some ⟨gg, 0, none⟩) j c, .int .i64 (2 * (1 + a))]) (by simp [results, Try.results61, go_sem]) rfl ⟨_, _, _, _, _, rfl, R6, HX.out, by omega, by omega, by omega, r6.more (by omega), G6⟩
      · go_wp2_with fail
        refine (pick _ _ _ _ r6 (by omega) (by omega) (by omega)).mono ?_; rintro e w7 ⟨z, rfl, z1, z2, r7, g7⟩
        have o7 := o6.drawn g7 hl1
        have G7 := grownBy_both G6 g7
        have s7 := g7.size
        clear r6 g7 o6 G6
        obtain rfl | rfl | rfl : z = 0 ∨ z = 1 ∨ z = 2 := by omega
        · have hx := o7.at
          have HX := Lib.hid hxl
          have HXX := Lib.hid hx
          have hc1 : ¬ c = 1 := by omega
          have hmm := hcm
          unfold maxLen at hmm
          have ogg := (o7.block).2
          clear hxl hx o7
          go_wp2_with fail
          exact bodyPost_ret (v := .tuple #[.slice (some ⟨gg, 1, none⟩) (j - 1) (c - 1), .int .i64 (2 * (1 + a))]) (by simp [results, Try.results61, go_sem]) rfl ⟨_, _, _, xs.drop 1, _, rfl, (fun _ => ⟨gg, 1, rfl, ogg, fun i hi => by have hi' := hi; simp at hi'; have hj' := HX.out; rw [HXX.out (1 + i) (by omega)]; simp [Nat.add_comm]⟩), by have := HX.out; simp; omega, by omega, by omega, by omega, r7.more (by omega), G7⟩
        · have f7 := o7.free 0
          have c7 := o7.at 0 (by omega)
          have o8 := o7.set 0 256
          have r8 := r7.set (q := ⟨gg, 0, none⟩) (by show g < gg; omega) (.int .i64 256)
          have G8 : w.grownBy (w7.setCell ⟨gg, 0, none⟩ (.int .i64 256)) (some g) := grownBy_next G7 (grownBy_set (World.grownBy.refl w7 (some gg)) 0 _) (fun k hk => by cases hk; omega)
          have R8 := o8.rd
          have HX := Lib.hid o8.len
          have HXX := Lib.hid hxl
          clear o7 o8 hxl
          go_wp2_with fail
          exact bodyPost_ret (v := .tuple #[.slice (some ⟨gg, 0, none⟩) j c, .int .i64 (2 * (1 + a))]) (by simp [results, Try.results61, go_sem]) rfl ⟨_, _, _, _, _, rfl, R8, HX.out, by omega, by omega, by omega, r8.more (by omega), G8⟩
        · go_wp2_with fail
          have o8 := o7.alloc (.cells #[.int .i64 0, .int .i64 1, .int .i64 40] 3)
          have r8 := r7.alloc (.cells #[.int .i64 0, .int .i64 1, .int .i64 40] 3)
          have G8 := grownBy_alloc' G7 (.cells #[.int .i64 0, .int .i64 1, .int .i64 40] 3)
          have l8 := Blk.new w7 3 #[.int .i64 0, .int .i64 1, .int .i64 40]
          have hm7 : B < w7.heap.size := by omega
          generalize w7.heap.size = m at hm7 l8 ⊢
          generalize w7.alloc (.cells #[.int .i64 0, .int .i64 1, .int .i64 40] 3) = w8 at o8 r8 G8 l8 ⊢
          clear o7 r7 G7
          refine (pick _ _ _ _ r8 (by omega) (by omega) (by omega)).mono ?_; rintro e w9 ⟨q, rfl, q1, q2, r9, g9⟩
          have o9 := o8.drawn g9 hl1
          have G9 := grownBy_both G8 g9
          have l9 := (l8.draw g9 (by omega)).cell
          have R9 := o9.rd
          have HX := Lib.hid o9.len
          have HXX := Lib.hid hxl
          clear o8 o9 hxl
          obtain rfl | rfl | rfl : q = 0 ∨ q = 1 ∨ q = 2 := by omega
          · go_wp2_with fail
            exact bodyPost_ret (v := .tuple #[.slice (some ⟨gg, 0, none⟩) j c, .int .i64 0]) (by simp [results, Try.results61, go_sem]) rfl ⟨_, _, _, _, _, rfl, R9, HX.out, by omega, by omega, by omega, r9.more (by omega), G9⟩
          · go_wp2_with fail
            exact bodyPost_ret (v := .tuple #[.slice (some ⟨gg, 0, none⟩) j c, .int .i64 1]) (by simp [results, Try.results61, go_sem]) rfl ⟨_, _, _, _, _, rfl, R9, HX.out, by omega, by omega, by omega, r9.more (by omega), G9⟩
          · go_wp2_with fail
            exact bodyPost_ret (v := .tuple #[.slice (some ⟨gg, 0, none⟩) j c, .int .i64 40]) (by simp [results, Try.results61, go_sem]) rfl ⟨_, _, _, _, _, rfl, R9, HX.out, by omega, by omega, by omega, r9.more (by omega), G9⟩

theorem DrawDoubleChroma (v : Value) (x : Option Addr × Nat × List Int) (w : World) (h : ArgBytes w v x) : Calls Try.prog 25 #[v] w fun e w' => ∃ A n c xs, ∃ u : Int, e = .returned (.tuple #[.slice A n c, .int .i64 u]) ∧ Rd w' w'.heap.size A xs ∧ xs.length = n ∧ n ≤ 64 ∧ 0 ≤ u ∧ u ≤ 40 ∧ Q w w' := by
  go_enter Try.func25, Try.ntmps25
  go_wp2_with fail
  refine (openCode _ _ _ h).mono ?_; rintro e w1 ⟨g, rfl, hg, r1, q1⟩
  go_wp2_with fail
  refine (l20Table _ _ _ r1 (by omega)).mono ?_; rintro e w2 ⟨A, n, c, xs, u, rfl, hr, hn, hm, u1, u2, r2, g2⟩
  have HR := Lib.hid hr
  have HN := Lib.hid hn
  clear hr hn
  go_wp2_with fail
  exact bodyPost_ret (v := .tuple #[.slice A n c, .int .i64 u]) (by simp [results, Try.results25, go_sem]) rfl ⟨_, _, _, _, _, rfl, HR.out, HN.out, hm, u1, u2, q1.draw g2 hg⟩
theorem DrawHalveChroma (v : Value) (x : Option Addr × Nat × List Int) (w : World) (h : ArgBytes w v x) : Calls Try.prog 37 #[v] w fun e w' => ∃ A n c xs, ∃ u : Int, e = .returned (.tuple #[.slice A n c, .int .i64 u]) ∧ Rd w' w'.heap.size A xs ∧ xs.length = n ∧ n ≤ 64 ∧ 0 ≤ u ∧ u ≤ 40 ∧ Q w w' := by
  go_enter Try.func37, Try.ntmps37
  go_wp2_with fail
  refine (openCode _ _ _ h).mono ?_; rintro e w1 ⟨g, rfl, hg, r1, q1⟩
  go_wp2_with fail
  refine (l20Table _ _ _ r1 (by omega)).mono ?_; rintro e w2 ⟨A, n, c, xs, u, rfl, hr, hn, hm, u1, u2, r2, g2⟩
  have HR := Lib.hid hr
  have HN := Lib.hid hn
  clear hr hn
  go_wp2_with fail
  exact bodyPost_ret (v := .tuple #[.slice A n c, .int .i64 u]) (by simp [results, Try.results37, go_sem]) rfl ⟨_, _, _, _, _, rfl, HR.out, HN.out, hm, u1, u2, q1.draw g2 hg⟩
end Go.Proofs.Ytnmegieibcmhcaa

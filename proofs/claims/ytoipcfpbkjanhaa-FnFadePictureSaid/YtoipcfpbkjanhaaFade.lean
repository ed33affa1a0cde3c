/-
  FadePicture: the clone of a picture; the program's.
-/
import Derived.Test.YtoipcfpbkjanhaaScene
import Derived.Deep.RegionLawGrows
import Derived.StillTailTactics
namespace Go.Proofs.Ytoipcfpbkjanhaa
open Go.RowKit

theorem news_of {w : World} {g o : Nat} {xs : List Int} (hc : ∀ i, i < xs.length → w.cell? ⟨g, o + i, none⟩ = some (.int .i64 (xs[i]?.getD 0))) :
    ∀ j u, (xs.map (Value.int .i64))[j]? = some u → w.cell? ((⟨g, o, none⟩ : Addr).add j) = some u := fun j u hj => by
  rw [List.getElem?_map] at hj
  obtain ⟨y, hy, rfl⟩ := Option.map_eq_some_iff.1 hj
  have h := hc j (List.getElem?_eq_some_iff.1 hy).1
  rw [hy] at h
  by_cases h0 : j = 0
  · subst h0; simpa [Addr.add] using h
  · simpa [Addr.add, h0] using h

set_option maxRecDepth 100000 in
set_option maxHeartbeats 2000000 in
theorem clone (W H : Int) (A : Option Addr) (n c B : Nat) (xs : List Int) (w : World) (hx : Rd w B A xs) (hB : B ≤ w.heap.size) (hn : Hid (xs.length = n)) (h1 : 1 ≤ n) (h2 : n ≤ 1024) :
    Calls Try.prog 51 #[.agg #[.int .i64 W, .int .i64 H, .slice A n c]] w fun e w' => ∃ v, e = .returned (.agg #[.int .i64 W, .int .i64 H, v]) ∧ Own w' w.heap.size v n xs ∧ Q w w' := by
  have q0 : Q w ((w.alloc (.cells #[.int .i64 W, .int .i64 H, .slice A n c] 27)).alloc (.cells #[.int .i64 0, .int .i64 0, .slice none 0 0] 27)) := (by repeat (first | exact Q.refl _ | assumption | refine Q.drewN ?_ _ | refine Q.drew ?_ | refine Q.alloc ?_ _ | refine Q.trans ?_ (by assumption) | refine Q.set ?_ (by first | exact Nat.le_refl _ | omega | (simp; done) | (simp; omega)) _))
  have b0 := (Blk.new w 27 #[.int .i64 W, .int .i64 H, .slice A n c]).alloc (.cells #[.int .i64 0, .int .i64 0, .slice none 0 0] 27)
  have d0 := Blk.new (w.alloc (.cells #[.int .i64 W, .int .i64 H, .slice A n c] 27)) 27 #[.int .i64 0, .int .i64 0, .slice none 0 0]
  rw [World.size_alloc] at d0
  have hX := hx.q q0 hB
  obtain ⟨g, o, rfl, hb, hc⟩ := hX (by rw [hn.out]; omega)
  clear hx hX
  obtain ⟨i0, hi, hz0, hz1, hz2⟩ := info_parts info_int
  have hsz : ((w.alloc (.cells #[.int .i64 W, .int .i64 H, .slice (some ⟨g, o, none⟩) n c] 27)).alloc (.cells #[.int .i64 0, .int .i64 0, .slice none 0 0] 27)).heap.size = w.heap.size + 2 := by simp
  go_enter Try.func51, Try.ntmps51
  go_wp2_with fail
  generalize (w.alloc (.cells #[.int .i64 W, .int .i64 H, .slice (some ⟨g, o, none⟩) n c] 27)).alloc (.cells #[.int .i64 0, .int .i64 0, .slice none 0 0] 27) = w2 at q0 b0 d0 hb hc hsz ⊢
  have HC := Lib.hid hc
  have B0 := Lib.hid b0
  have D0 := Lib.hid d0
  have Q0 := Lib.hid q0
  have HSZ := Lib.hid hsz
  have bc := b0.cell
  clear hc b0 d0 q0 hsz
  go_region_law (refine step_append_grows rfl _ _ _ rfl 3 i0 (.int .i64 0) 1 8 Try.underlying22 hi hz0 hz1 hz2 rfl (by decide) none 0 0 [] (by rfl) (fun _ => ⟨rfl, rfl⟩) rfl (fun _ h => by cases h) ⟨g, o, none⟩ n c (xs.map (.int .i64)) (by rfl) (by simp; exact hn.out) ?_ (fun u hu => by simp at hu; obtain ⟨x, _, rfl⟩ := hu; rfl) (by omega) (by unfold maxLen; omega) (by omega) ?_; exact news_of HC.out; intro v4 w4 own4 g4; have o4 : Own w4 (w.heap.size + 2) v4 n xs := ⟨hn.out, by have h := own4; simp only [Nat.zero_add, List.nil_append] at h; rw [← HSZ.out]; exact h⟩; have q4 : Q w2 w4 := (Q.refl w2).drew.trans (Q.of_none g4); obtain ⟨A4, c4, rfl⟩ := o4.form; have b4 := (B0.out.q q4).cell; have d4 := D0.out.q q4; have dc4 := d4.cell; have df4 := d4.free; have O4 := Lib.hid o4; have Q4 := Lib.hid (Q0.out.trans q4); clear own4 g4 o4 q4)
  all_goals
    go_wp2_with fail
    refine bodyPost_ret (v := .agg #[.int .i64 W, .int .i64 H, .slice A4 n c4]) (by simp [results, Try.results51, go_sem, dc4]) rfl ⟨_, rfl, ?_, ?_⟩
    · exact Own.mono (B := w.heap.size + 2) (by repeat (first | exact O4.out | refine Own.far ?_ (by simp) _)) (by omega)
    · have hq := Q4.out
      exact (by repeat (first | exact Q.refl _ | assumption | refine Q.drewN ?_ _ | refine Q.drew ?_ | refine Q.alloc ?_ _ | refine Q.trans ?_ (by assumption) | refine Q.set ?_ (by first | exact Nat.le_refl _ | omega | (simp; done) | (simp; omega)) _))

def fadeAt (t a b : Int) : Int := ((8 - t) * a + t * b + 4) / 8
def fadeL (t : Int) (xs ys : List Int) : List Int := List.zipWith (fadeAt t) xs ys
theorem fadeL_len (t : Int) (xs ys : List Int) (h : xs.length = ys.length) : (fadeL t xs ys).length = xs.length := by
  unfold fadeL
  rw [List.length_zipWith, h, Nat.min_self]
theorem fadeL_get (t : Int) (xs ys : List Int) (k : Nat) (h1 : k < xs.length) (h2 : k < ys.length) : (fadeL t xs ys)[k]?.getD 0 = fadeAt t (xs[k]?.getD 0) (ys[k]?.getD 0) := by
  unfold fadeL
  rw [List.getElem?_zipWith, List.getElem?_eq_getElem h1, List.getElem?_eq_getElem h2]
  rfl
theorem set_take (zs : List Int) (k : Nat) (y : Int) (h : k < zs.length) : (zs.set k y).take (k + 1) = zs.take k ++ [y] := by
  rw [take_succ_getD _ _ (by simpa using h), List.take_set_of_le (Nat.le_refl k)]
  simp [List.getElem?_set, h]
/-- what one number of the faded picture is reckoned from -/
theorem fade_in {t a b : Int} (t1 : 0 ≤ t) (t2 : t ≤ 8) (a1 : 0 ≤ a) (a2 : a ≤ 255) (b1 : 0 ≤ b) (b2 : b ≤ 255) : 0 ≤ (8 - t) * a ∧ (8 - t) * a ≤ 2040 ∧ 0 ≤ t * b ∧ t * b ≤ 2040 := by
  have h1 : 0 ≤ (8 - t) * a := Int.mul_nonneg (by omega) a1
  have h2 : (8 - t) * a ≤ 8 * 255 := Int.mul_le_mul (by omega) a2 a1 (by omega)
  have h3 : 0 ≤ t * b := Int.mul_nonneg t1 b1
  have h4 : t * b ≤ 8 * 255 := Int.mul_le_mul t2 b2 b1 (by omega)
  omega
end Go.Proofs.Ytoipcfpbkjanhaa

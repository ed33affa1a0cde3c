/-
  The drawing of a grid and an order.
-/
import Derived.Test.YtnmegieibcmhcaaGrid
import Derived.Test.YtnmegieibcmhcaaWOrder2
import Derived.Test.YtnmegieibcmhcaaTable
import Derived.Deep.RegionWith
namespace Go.Proofs.Ytnmegieibcmhcaa
open Go.RowKit

theorem three_at (y z : Int) (z1 : 0 ≤ z) (z2 : z < 3) : ∃ u : Int, (#[Value.int .i64 (-1), Value.int .i64 99, Value.int .i64 y] : Array Value)[z.toNat]? = some (.int .i64 u) := by
  obtain rfl | rfl | rfl : z = 0 ∨ z = 1 ∨ z = 2 := by omega
  · exact ⟨-1, rfl⟩
  · exact ⟨99, rfl⟩
  · exact ⟨y, rfl⟩
theorem Blk.drewB {w : World} {g : Nat} {t : TypeId} {cs : Array Value} (h : Blk w g t cs) : Blk w.drew g t cs := h
theorem Own.drewB {w : World} {B n : Nat} {v : Value} {xs : List Int} (h : Own w B v n xs) : Own w.drew B v n xs := h.drew

def DrawnO (w0 : World) (e : Ending) (w' : World) : Prop :=
  ∃ A n c xs, ∃ a b : Int, e = .returned (.tuple #[.int .i64 a, .int .i64 b, .slice A n c]) ∧ Rd w' w'.heap.size A xs ∧ xs.length = n ∧ n ≤ 16 ∧ n ≤ c ∧ Q w0 w'

set_option maxRecDepth 100000 in
set_option maxHeartbeats 4000000 in
theorem DrawOrderValid (v : Value) (x : Option Addr × Nat × List Int) (w : World) (h : ArgBytes w v x) :
    Calls Try.prog 40 #[v] w (DrawnO w) := by
  go_enter Try.func40, Try.ntmps40
  go_wp2_with fail
  refine (openCode _ _ _ h).mono ?_; rintro e w1 ⟨g, rfl, hg, r1, q1⟩
  go_wp2_with fail
  refine (l20Grid _ _ _ r1 (by omega)).mono ?_; rintro e w2 ⟨a, b, rfl, hab, r2, g2⟩
  have Q2 := q1.draw g2 hg
  clear hab r1 g2 q1
  have hle := order_le a b
  generalize hxs : waveOrder a b = xs at hle
  generalize hn : xs.length = n at hle
  have HX := Lib.hid hxs
  have HN := Lib.hid hn
  clear hxs hn
  go_wp2_with fail
  refine (spec_WaveOrder _ _ _).mono ?_; rw [HX.out, HN.out]; rintro e w3 ⟨v3, rfl, o3, q3⟩
  have r3 := r2.q q3
  have Q3 := Q2.trans q3
  have hl2 := r2.lt
  have hl3 := r3.lt
  have hs3 := Q3.size
  have hs2 := Q2.size
  clear q3 r2 Q2
  rcases o3.form' with ⟨rfl, hn0⟩ | ⟨m, c, rfl, hm, hm', hnc, _⟩
  · subst hn0
    have HO := Lib.hid o3.rd
    clear o3
    go_wp2_with fail
    exact bodyPost_ret (v := .tuple #[.int .i64 a, .int .i64 b, .slice none 0 0]) (by simp [results, Try.results40, go_sem]) rfl ⟨_, _, _, _, _, _, rfl, HO.out, HN.out, by omega, by omega, Q3⟩
  obtain ⟨ys, hys⟩ : ∃ ys, xs = ys := ⟨_, rfl⟩
  rw [hys] at o3
  clear hys HX HN
  have hgm : g < w2.heap.size := hl2
  have hgne : m ≠ g := by omega
  by_cases hn0 : n = 0
  · subst hn0
    have HO := Lib.hid o3.rd
    have HL := Lib.hid o3.len
    clear o3
    go_wp2_with fail
    exact bodyPost_ret (v := .tuple #[.int .i64 a, .int .i64 b, .slice (some ⟨m, 0, none⟩) 0 c]) (by simp [results, Try.results40, go_sem]) rfl ⟨_, _, _, _, _, _, rfl, HO.out, HL.out, by omega, by omega, Q3⟩
  have hnpos : (0 : Int) < (n : Int) := by omega
  obtain ⟨l, hl⟩ : ∃ l, n = l + 1 := ⟨n - 1, by omega⟩
  have hln : l < n := by omega
  have hlz : (l : Int) < (n : Int) := by omega
  have hlz0 : (0 : Int) ≤ (l : Int) := by omega
  have HLE : Hid (n = l + 1) := hl
  have HW1 : Hid (IntKind.i64.wrap ((n : Int) - 1) = (l : Int)) := by rw [Hid, hl]; exact (IntWalk.i64_in _ ⟨by omega, by omega⟩).trans (by omega)
  have hn1 : 1 ≤ n := by omega
  clear hl hn0
  by_cases hn2 : n = 1
  · have HN1 := Lib.hid hn2
    have hn2' : decide ((1 : Int) < (n : Int)) = false := by simp; omega
    clear hn2
    go_wp2_with fail
    (refine (odd _ _ _ _ r3 (by omega) (by omega) (by omega)).mono ?_; rintro e wa ⟨t, rfl, ra, ga⟩; have oa := o3.drawn ga hgm; have qa := Q3.draw ga (by omega); cases t; (have Ra := Lib.hid oa.rd; have HL := Lib.hid oa.len; clear oa; go_wp2_with fail; exact bodyPost_ret (v := .tuple #[.int .i64 a, .int .i64 b, .slice (some ⟨m, 0, none⟩) n c]) (by simp [results, Try.results40, go_sem]) rfl ⟨_, _, _, _, _, _, rfl, Ra.out, HL.out, by omega, hnc, qa⟩); ((have hm5 := oa.block.2; have hex : ∃ lv : Int, wa.cell? ⟨m, l, none⟩ = some (.int .i64 lv) := ⟨_, oa.at l hln⟩; obtain ⟨lv, cl⟩ := hex; have hw1 := HW1.out; go_wp2_with fail; go_region_with (first | (go_at_call 50; ((with_reducible refine (pick g _ 3 _ (Rdr.drew ra) (by omega) (by omega) (by omega)).mono ?_); rintro e wb ⟨z, rfl, z1, z2, rb, gb⟩; (obtain ⟨u, hu⟩ := three_at lv z z1 z2; have ob := (Own.drewB oa).drawn gb hgm; have qb := Q.draw (Q.drew qa) gb (by omega); have clb := gb.cell (show wa.drew.cell? ⟨m, l, none⟩ = _ from cl) (fun e => hgne (by cases e; rfl)); have iz := ((Blk.new wb 3 #[.int .i64 (-1), .int .i64 99, .int .i64 lv]).cell z.toNat).trans hu; have obA := ob.alloc (.cells #[.int .i64 (-1), .int .i64 99, .int .i64 lv] 3); have c0 := obA.at 0 (by omega); have f0 := obA.free 0; have zz : z < (3 : Int) := z2))) | (go_at_call 50; ((with_reducible refine (pick g _ 3 _ (Rdr.drew (Rdr.alloc ra (.cells #[.int .i64 (-1), .int .i64 99, .int .i64 lv] 3))) (by omega) (by omega) (by omega)).mono ?_); rintro e wb ⟨z, rfl, z1, z2, rb, gb⟩; (obtain ⟨u, hu⟩ := three_at lv z z1 z2; have ob := (Own.drewB (oa.alloc (.cells #[.int .i64 (-1), .int .i64 99, .int .i64 lv] 3))).drawn gb hgm; have qb := Q.draw (Q.drew (qa.alloc (.cells #[.int .i64 (-1), .int .i64 99, .int .i64 lv] 3))) gb (by omega); have iz := ((Blk.draw (w := (wa.alloc (.cells #[.int .i64 (-1), .int .i64 99, .int .i64 lv] 3)).drew) (Blk.drewB (Blk.new wa 3 #[.int .i64 (-1), .int .i64 99, .int .i64 lv])) gb (by omega)).cell z.toNat).trans hu; have c0 := ob.at 0 (by omega); have f0 := ob.free 0; have zz : z < (3 : Int) := z2)))); all_goals (go_wp2_with fail; first | exact bodyPost_ret (v := .tuple #[.int .i64 a, .int .i64 b, .slice (some ⟨m, 0, none⟩) n c]) (by simp [results, Try.results40, go_sem]) rfl ⟨_, _, _, _, _, _, rfl, (obA.set 0 u).rd, (obA.set 0 u).len, hle, hnc, (qb.alloc _).set (p := ⟨m, 0, none⟩) (by show w.heap.size ≤ m; omega) _⟩ | exact bodyPost_ret (v := .tuple #[.int .i64 a, .int .i64 b, .slice (some ⟨m, 0, none⟩) n c]) (by simp [results, Try.results40, go_sem]) rfl ⟨_, _, _, _, _, _, rfl, (ob.set 0 u).rd, (ob.set 0 u).len, hle, hnc, qb.set (p := ⟨m, 0, none⟩) (by show w.heap.size ≤ m; omega) _⟩))))
  · have hn2' : (1 : Int) < (n : Int) := by omega
    have hlen := Lib.hid o3.len
    clear hn2
    go_wp2_with fail
    refine (pick _ _ _ _ r3 (by omega) (by omega) (by omega)).mono ?_; rintro e w4 ⟨y, rfl, y1, y2, r4, g4⟩
    have o4 := o3.drawn g4 hgm
    have Q4 := Q3.draw g4 (by omega)
    clear o3 r3 Q3 g4
    obtain rfl | rfl : y = 0 ∨ y = 1 := by omega
    · go_wp2_with fail
      refine (pick _ _ _ _ r4 (by omega) (by omega) (by omega)).mono ?_; rintro e w5 ⟨i, rfl, i1, i2, r5, g5⟩
      have o5 := o4.drawn g5 hgm
      have Q5 := Q4.draw g5 (by omega)
      clear o4 r4 Q4 g5
      go_wp2_with fail
      refine (pick _ _ _ _ r5 (by omega) (by omega) (by omega)).mono ?_; rintro e w6 ⟨j, rfl, j1, j2, r6, g6⟩
      have o6 := o5.drawn g6 hgm
      have Q6 := Q5.draw g6 (by omega)
      clear o5 r5 Q5 g6
      have ci := o6.at i.toNat (by omega)
      have cj := o6.at j.toNat (by omega)
      have fi := o6.free i.toNat
      have fj := o6.free j.toNat
      have o7 := o6.set i.toNat (ys[j.toNat]?.getD 0)
      have cj7 := o7.at j.toNat (by omega)
      have o8 := o7.set j.toNat (ys[i.toNat]?.getD 0)
      have r7 := r6.set (q := ⟨m, i.toNat, none⟩) (by show g < m; omega) (.int .i64 (ys[j.toNat]?.getD 0))
      have r8 := r7.set (q := ⟨m, j.toNat, none⟩) (by show g < m; omega) (.int .i64 (ys[i.toNat]?.getD 0))
      have Q7 := Q6.set (p := ⟨m, i.toNat, none⟩) (by show w.heap.size ≤ m; omega) (.int .i64 (ys[j.toNat]?.getD 0))
      have Q8 := Q7.set (p := ⟨m, j.toNat, none⟩) (by show w.heap.size ≤ m; omega) (.int .i64 (ys[i.toNat]?.getD 0))
      have O8 := Lib.hid o8
      have R8 := Lib.hid r8
      have QQ8 := Lib.hid Q8
      clear o6 o7 o8 r6 r7 r8 Q6 Q7 Q8
      generalize ys[i.toNat]?.getD 0 = yi at ci cj7 O8 R8 QQ8
      generalize ys[j.toNat]?.getD 0 = yj at cj cj7 O8 R8 QQ8
      go_wp2_with fail
      clear ci cj fi fj cj7
      generalize (w6.setCell ⟨m, i.toNat, none⟩ (.int .i64 yj)).setCell ⟨m, j.toNat, none⟩ (.int .i64 yi) = w8 at O8 R8 QQ8 ⊢
      have o8 := O8.out
      have r8 := R8.out
      have q8 := QQ8.out
      generalize (ys.set i.toNat yj).set j.toNat yi = zs at o8
      (refine (odd _ _ _ _ r8 (by omega) (by omega) (by omega)).mono ?_; rintro e wa ⟨t, rfl, ra, ga⟩; have oa := o8.drawn ga hgm; have qa := q8.draw ga (by omega); cases t; (have Ra := Lib.hid oa.rd; have HL := Lib.hid oa.len; clear oa; go_wp2_with fail; exact bodyPost_ret (v := .tuple #[.int .i64 a, .int .i64 b, .slice (some ⟨m, 0, none⟩) n c]) (by simp [results, Try.results40, go_sem]) rfl ⟨_, _, _, _, _, _, rfl, Ra.out, HL.out, by omega, hnc, qa⟩); ((have hm5 := oa.block.2; have hex : ∃ lv : Int, wa.cell? ⟨m, l, none⟩ = some (.int .i64 lv) := ⟨_, oa.at l hln⟩; obtain ⟨lv, cl⟩ := hex; have hw1 := HW1.out; go_wp2_with fail; go_region_with (first | (go_at_call 50; ((with_reducible refine (pick g _ 3 _ (Rdr.drew ra) (by omega) (by omega) (by omega)).mono ?_); rintro e wb ⟨z, rfl, z1, z2, rb, gb⟩; (obtain ⟨u, hu⟩ := three_at lv z z1 z2; have ob := (Own.drewB oa).drawn gb hgm; have qb := Q.draw (Q.drew qa) gb (by omega); have clb := gb.cell (show wa.drew.cell? ⟨m, l, none⟩ = _ from cl) (fun e => hgne (by cases e; rfl)); have iz := ((Blk.new wb 3 #[.int .i64 (-1), .int .i64 99, .int .i64 lv]).cell z.toNat).trans hu; have obA := ob.alloc (.cells #[.int .i64 (-1), .int .i64 99, .int .i64 lv] 3); have c0 := obA.at 0 (by omega); have f0 := obA.free 0; have zz : z < (3 : Int) := z2))) | (go_at_call 50; ((with_reducible refine (pick g _ 3 _ (Rdr.drew (Rdr.alloc ra (.cells #[.int .i64 (-1), .int .i64 99, .int .i64 lv] 3))) (by omega) (by omega) (by omega)).mono ?_); rintro e wb ⟨z, rfl, z1, z2, rb, gb⟩; (obtain ⟨u, hu⟩ := three_at lv z z1 z2; have ob := (Own.drewB (oa.alloc (.cells #[.int .i64 (-1), .int .i64 99, .int .i64 lv] 3))).drawn gb hgm; have qb := Q.draw (Q.drew (qa.alloc (.cells #[.int .i64 (-1), .int .i64 99, .int .i64 lv] 3))) gb (by omega); have iz := ((Blk.draw (w := (wa.alloc (.cells #[.int .i64 (-1), .int .i64 99, .int .i64 lv] 3)).drew) (Blk.drewB (Blk.new wa 3 #[.int .i64 (-1), .int .i64 99, .int .i64 lv])) gb (by omega)).cell z.toNat).trans hu; have c0 := ob.at 0 (by omega); have f0 := ob.free 0; have zz : z < (3 : Int) := z2)))); all_goals (go_wp2_with fail; first | exact bodyPost_ret (v := .tuple #[.int .i64 a, .int .i64 b, .slice (some ⟨m, 0, none⟩) n c]) (by simp [results, Try.results40, go_sem]) rfl ⟨_, _, _, _, _, _, rfl, (obA.set 0 u).rd, (obA.set 0 u).len, hle, hnc, (qb.alloc _).set (p := ⟨m, 0, none⟩) (by show w.heap.size ≤ m; omega) _⟩ | exact bodyPost_ret (v := .tuple #[.int .i64 a, .int .i64 b, .slice (some ⟨m, 0, none⟩) n c]) (by simp [results, Try.results40, go_sem]) rfl ⟨_, _, _, _, _, _, rfl, (ob.set 0 u).rd, (ob.set 0 u).len, hle, hnc, qb.set (p := ⟨m, 0, none⟩) (by show w.heap.size ≤ m; omega) _⟩))))
    · go_wp2_with fail
      (refine (odd _ _ _ _ r4 (by omega) (by omega) (by omega)).mono ?_; rintro e wa ⟨t, rfl, ra, ga⟩; have oa := o4.drawn ga hgm; have qa := Q4.draw ga (by omega); cases t; (have Ra := Lib.hid oa.rd; have HL := Lib.hid oa.len; clear oa; go_wp2_with fail; exact bodyPost_ret (v := .tuple #[.int .i64 a, .int .i64 b, .slice (some ⟨m, 0, none⟩) n c]) (by simp [results, Try.results40, go_sem]) rfl ⟨_, _, _, _, _, _, rfl, Ra.out, HL.out, by omega, hnc, qa⟩); ((have hm5 := oa.block.2; have hex : ∃ lv : Int, wa.cell? ⟨m, l, none⟩ = some (.int .i64 lv) := ⟨_, oa.at l hln⟩; obtain ⟨lv, cl⟩ := hex; have hw1 := HW1.out; go_wp2_with fail; go_region_with (first | (go_at_call 50; ((with_reducible refine (pick g _ 3 _ (Rdr.drew ra) (by omega) (by omega) (by omega)).mono ?_); rintro e wb ⟨z, rfl, z1, z2, rb, gb⟩; (obtain ⟨u, hu⟩ := three_at lv z z1 z2; have ob := (Own.drewB oa).drawn gb hgm; have qb := Q.draw (Q.drew qa) gb (by omega); have clb := gb.cell (show wa.drew.cell? ⟨m, l, none⟩ = _ from cl) (fun e => hgne (by cases e; rfl)); have iz := ((Blk.new wb 3 #[.int .i64 (-1), .int .i64 99, .int .i64 lv]).cell z.toNat).trans hu; have obA := ob.alloc (.cells #[.int .i64 (-1), .int .i64 99, .int .i64 lv] 3); have c0 := obA.at 0 (by omega); have f0 := obA.free 0; have zz : z < (3 : Int) := z2))) | (go_at_call 50; ((with_reducible refine (pick g _ 3 _ (Rdr.drew (Rdr.alloc ra (.cells #[.int .i64 (-1), .int .i64 99, .int .i64 lv] 3))) (by omega) (by omega) (by omega)).mono ?_); rintro e wb ⟨z, rfl, z1, z2, rb, gb⟩; (obtain ⟨u, hu⟩ := three_at lv z z1 z2; have ob := (Own.drewB (oa.alloc (.cells #[.int .i64 (-1), .int .i64 99, .int .i64 lv] 3))).drawn gb hgm; have qb := Q.draw (Q.drew (qa.alloc (.cells #[.int .i64 (-1), .int .i64 99, .int .i64 lv] 3))) gb (by omega); have iz := ((Blk.draw (w := (wa.alloc (.cells #[.int .i64 (-1), .int .i64 99, .int .i64 lv] 3)).drew) (Blk.drewB (Blk.new wa 3 #[.int .i64 (-1), .int .i64 99, .int .i64 lv])) gb (by omega)).cell z.toNat).trans hu; have c0 := ob.at 0 (by omega); have f0 := ob.free 0; have zz : z < (3 : Int) := z2)))); all_goals (go_wp2_with fail; first | exact bodyPost_ret (v := .tuple #[.int .i64 a, .int .i64 b, .slice (some ⟨m, 0, none⟩) n c]) (by simp [results, Try.results40, go_sem]) rfl ⟨_, _, _, _, _, _, rfl, (obA.set 0 u).rd, (obA.set 0 u).len, hle, hnc, (qb.alloc _).set (p := ⟨m, 0, none⟩) (by show w.heap.size ≤ m; omega) _⟩ | exact bodyPost_ret (v := .tuple #[.int .i64 a, .int .i64 b, .slice (some ⟨m, 0, none⟩) n c]) (by simp [results, Try.results40, go_sem]) rfl ⟨_, _, _, _, _, _, rfl, (ob.set 0 u).rd, (ob.set 0 u).len, hle, hnc, qb.set (p := ⟨m, 0, none⟩) (by show w.heap.size ≤ m; omega) _⟩))))
end Go.Proofs.Ytnmegieibcmhcaa

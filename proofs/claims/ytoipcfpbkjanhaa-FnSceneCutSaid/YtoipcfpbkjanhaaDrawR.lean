/-
  The drawing of a pair of pictures; what the laws of histograms, cuts and fades draw.
-/
import Derived.Test.YtoipcfpbkjanhaaDrawN
import Derived.RegionTactic
import Derived.BigRegion
namespace Go.Proofs.Ytoipcfpbkjanhaa
open Go.RowKit

set_option maxRecDepth 100000 in
set_option maxHeartbeats 4000000 in
theorem l20Next_no (g P : Nat) (W H : Int) (A : Option Addr) (n c lo hi : Nat) (xs : List Int) (w : World) (h : Rdr w g P) (hP : P ≤ 600000) (hx : RdI w lo hi A xs) (hlo : g < lo) (hhi : hi ≤ w.heap.size) (hn : Hid (xs.length = n)) (hm : n ≤ 1024) (hp : Hid (picB W H xs = false)) :
    Calls Try.prog 73 #[.pointer (some ⟨g, 0, none⟩), .agg #[.int .i64 W, .int .i64 H, .slice A n c]] w fun e w' => PicR w w' e ∧ Rdr w' g (P + 3000) ∧ Dr g w w' := by
  have hl := h.lt
  have hs : ((w.alloc (.cells #[.int .i64 W, .int .i64 H, .slice A n c] 27)).alloc (.cells #[.int .i64 0, .int .i64 0, .slice none 0 0] 27)).heap.size = w.heap.size + 2 := by simp
  have q0 : Q w ((w.alloc (.cells #[.int .i64 W, .int .i64 H, .slice A n c] 27)).alloc (.cells #[.int .i64 0, .int .i64 0, .slice none 0 0] 27)) := (by repeat (first | exact Q.refl _ | assumption | refine Q.drewN ?_ _ | refine Q.drew ?_ | refine Q.alloc ?_ _ | refine Q.trans ?_ (by assumption) | refine Q.set ?_ (by first | exact Nat.le_refl _ | omega | (simp; done) | (simp; omega)) _))
  have br := Blk.new (w.alloc (.cells #[.int .i64 W, .int .i64 H, .slice A n c] 27)) 27 #[.int .i64 0, .int .i64 0, .slice none 0 0]
  rw [World.size_alloc] at br
  have dd : Dr g w _ := Dr.of_q q0
  have ox := hx.q q0 hhi
  have rr := (h.alloc (.cells #[.int .i64 W, .int .i64 H, .slice A n c] 27)).alloc (.cells #[.int .i64 0, .int .i64 0, .slice none 0 0] 27)
  clear h hx q0
  go_enter Try.func73, Try.ntmps73
  go_wp2_with fail
  refine (spec_PictureValid W H A n c _ xs false _ ox.rd (by omega) hn (by omega) hp).mono ?_; rintro e wv ⟨rfl, q1⟩
  have s1 := q1.size
  replace br := br.q q1
  replace dd := dd.q q1
  replace rr := rr.q q1
  clear q1 ox
  go_wp2_with fail
  refine (l20Picture _ _ _ _ rr (by omega) (by omega) (by omega)).mono ?_; rintro e w3 ⟨⟨W', H', A', m', c', ys, rfl, o3, hl3, hm3, i1, i2, i3, i4, i5, i6⟩, r3, g3⟩
  have s3 := g3.size
  replace br := br.draw g3 (by omega)
  replace dd := dd.trans g3
  have brc := br.cell
  have brf := br.free
  have O3 := Lib.hid o3
  have R3 := Lib.hid r3
  have D3 := Lib.hid dd
  clear o3 r3 dd g3
  go_wp2_with fail
  refine bodyPost_ret (v := .agg #[.int .i64 W', .int .i64 H', .slice A' m' c']) (by simp [results, Try.results73, go_sem, brc]) rfl ⟨⟨_, _, A', m', c', ys, rfl, (by refine RdI.mono (lo := wv.heap.size) (hi := w3.heap.size) ?_ (by omega) (by simp [World.setCell]); repeat (first | exact O3.out | refine RdI.far ?_ (.inl (by show w.heap.size + 1 < _; omega)) _)), hl3, hm3, i1, i2, i3, i4, i5, i6⟩, (by have h := R3.out.more (P' := P + 3000) (by omega); repeat (first | exact h | refine Rdr.set ?_ (by show g < w.heap.size + 1; omega) _)), (by repeat (first | exact D3.out | refine Dr.set ?_ (by show w.heap.size ≤ w.heap.size + 1; omega) _))⟩

theorem l20Next (g P : Nat) (W H : Int) (A : Option Addr) (n c lo hi : Nat) (xs : List Int) (w : World) (h : Rdr w g P) (hP : P ≤ 600000) (hx : RdI w lo hi A xs) (hlo : g < lo) (hhi : hi ≤ w.heap.size) (hn : Hid (xs.length = n)) (hm : n ≤ 1024) :
    Calls Try.prog 73 #[.pointer (some ⟨g, 0, none⟩), .agg #[.int .i64 W, .int .i64 H, .slice A n c]] w fun e w' => PicR w w' e ∧ Rdr w' g (P + 3000) ∧ Dr g w w' := by
  cases hp : picB W H xs
  · exact l20Next_no g P W H A n c lo hi xs w h hP hx hlo hhi hn hm hp
  · exact l20Next_ok g P W H A n c lo hi xs w h hP hx hlo hhi hn hp

/-- a drawn pair -/
def PairR (w0 w' : World) (e : Ending) : Prop := ∃ (W H W' H' : Int) (A A' : Option Addr) (m c m' c' : Nat) (xs ys : List Int), e = .returned (.tuple #[.agg #[.int .i64 W, .int .i64 H, .slice A m c], .agg #[.int .i64 W', .int .i64 H', .slice A' m' c']]) ∧ RdI w' w0.heap.size w'.heap.size A xs ∧ RdI w' w0.heap.size w'.heap.size A' ys ∧ (xs.length = m ∧ m ≤ 1024 ∧ m ≤ c ∧ c ≤ 9223372036854775807) ∧ (ys.length = m' ∧ m' ≤ 1024 ∧ m' ≤ c' ∧ c' ≤ 9223372036854775807) ∧ (-100 ≤ W ∧ W ≤ 100 ∧ -100 ≤ H ∧ H ≤ 100) ∧ (-100 ≤ W' ∧ W' ≤ 100 ∧ -100 ≤ H' ∧ H' ≤ 100)

/-- a whole picture stored into a box -/
def st3 (w : World) (b : Nat) (x y z : Value) : World := ((w.setCell ⟨b, 0, none⟩ x).setCell ⟨b, 1, none⟩ y).setCell ⟨b, 2, none⟩ z
section
variable {w a : World} {lo hi g P b k : Nat} {A : Option Addr} {xs : List Int} {t : TypeId} {cs : Array Value}
theorem drew_size (w : World) : w.drew.heap.size = w.heap.size := rfl
theorem st3_size (w : World) (b : Nat) (x y z : Value) : (st3 w b x y z).heap.size = w.heap.size := by simp [st3, World.setCell]
theorem RdI.put3 (h : RdI w lo hi A xs) (hb : b < lo ∨ hi ≤ b) (x y z : Value) : RdI (st3 w b x y z) lo hi A xs := ((h.far hb _).far hb _).far hb _
theorem Rdr.put3 (h : Rdr w g P) (hb : g < b) (x y z : Value) : Rdr (st3 w b x y z) g P := ((h.set hb _).set hb _).set hb _
theorem Dr.put3 (h : Dr g a w) (hb : a.heap.size ≤ b) (x y z : Value) : Dr g a (st3 w b x y z) := ((h.set hb _).set hb _).set hb _
theorem Q.put3 (h : Q a w) (hb : a.heap.size ≤ b) (x y z : Value) : Q a (st3 w b x y z) := ((h.set hb _).set hb _).set hb _
theorem Blk.put3 (h : Blk w k t cs) (hb : k ≠ b) (x y z : Value) : Blk (st3 w b x y z) k t cs := ((h.far hb _).far hb _).far hb _
theorem Blk.put3_same {c0 c1 c2 : Value} (h : Blk w b t #[c0, c1, c2]) (x y z : Value) : Blk (st3 w b x y z) b t #[x, y, z] := ((h.set 0 x).set 1 y).set 2 z
end
set_option maxRecDepth 100000 in
set_option maxHeartbeats 4000000 in
theorem l20Pair (g P : Nat) (N : Int) (w : World) (h : Rdr w g P) (hP : P ≤ 500000) (hN : 1 ≤ N) (hN' : N ≤ 1000) :
    Calls Try.prog 66 #[.pointer (some ⟨g, 0, none⟩), .int .i64 N] w fun e w' => PairR w w' e ∧ Rdr w' g (P + 12000) ∧ Dr g w w' := by
  have hl := h.lt
  have hs : ((w.alloc (.cells #[.int .i64 0, .int .i64 0, .slice none 0 0] 27)).alloc (.cells #[.int .i64 0, .int .i64 0, .slice none 0 0] 27)).heap.size = w.heap.size + 2 := by simp
  have q0 : Q w ((w.alloc (.cells #[.int .i64 0, .int .i64 0, .slice none 0 0] 27)).alloc (.cells #[.int .i64 0, .int .i64 0, .slice none 0 0] 27)) := (by repeat (first | exact Q.refl _ | assumption | refine Q.drewN ?_ _ | refine Q.drew ?_ | refine Q.alloc ?_ _ | refine Q.trans ?_ (by assumption) | refine Q.set ?_ (by first | exact Nat.le_refl _ | omega | (simp; done) | (simp; omega)) _))
  have bp := (Blk.new w 27 #[.int .i64 0, .int .i64 0, .slice none 0 0]).alloc (.cells #[.int .i64 0, .int .i64 0, .slice none 0 0] 27)
  have br := Blk.new (w.alloc (.cells #[.int .i64 0, .int .i64 0, .slice none 0 0] 27)) 27 #[.int .i64 0, .int .i64 0, .slice none 0 0]
  rw [World.size_alloc] at br
  have dd : Dr g w _ := Dr.of_q q0
  have rr := (h.alloc (.cells #[.int .i64 0, .int .i64 0, .slice none 0 0] 27)).alloc (.cells #[.int .i64 0, .int .i64 0, .slice none 0 0] 27)
  clear h q0
  go_enter Try.func66, Try.ntmps66
  go_wp2_with fail
  refine (l20Picture _ _ _ _ rr (by omega) hN hN').mono ?_; rintro e w3 ⟨⟨W, H, A, m, c, xs, rfl, o3, hl3, hm3, i1, i2, i3, i4, i5, i6⟩, r3, g3⟩
  have s3 := g3.size
  replace bp := (bp.draw g3 (by omega)).alloc (.cells #[.int .i64 W, .int .i64 H, .slice A m c] 27)
  replace br := (br.draw g3 (by omega)).alloc (.cells #[.int .i64 W, .int .i64 H, .slice A m c] 27)
  replace dd := (dd.trans g3).q ((Q.refl _).alloc (.cells #[.int .i64 W, .int .i64 H, .slice A m c] 27))
  have ox := o3.q ((Q.refl _).alloc (.cells #[.int .i64 W, .int .i64 H, .slice A m c] 27)) (Nat.le_refl _)
  have ba := Blk.new w3 27 #[.int .i64 W, .int .i64 H, .slice A m c]
  have rr := r3.alloc (.cells #[.int .i64 W, .int .i64 H, .slice A m c] 27)
  have s4 : (w3.alloc (.cells #[.int .i64 W, .int .i64 H, .slice A m c] 27)).heap.size = w3.heap.size + 1 := by simp
  have HL3 : Hid (xs.length = m) := hl3
  clear o3 r3 g3 hl3
  go_wp2_with fail
  refine (l20Next g _ W H A m c _ _ xs _ rr (by omega) ox (by omega) (by omega) HL3 hm3).mono ?_; rintro e w5 ⟨⟨W', H', A', m', c', ys, rfl, o5, hl5, hm5, j1, j2, j3, j4, j5, j6⟩, r5, g5⟩
  have s5 := g5.size
  replace bp := (bp.draw g5 (by omega)).alloc (.cells #[.int .i64 W', .int .i64 H', .slice A' m' c'] 27)
  replace br := (br.draw g5 (by omega)).alloc (.cells #[.int .i64 W', .int .i64 H', .slice A' m' c'] 27)
  replace ba := (ba.draw g5 (by omega)).alloc (.cells #[.int .i64 W', .int .i64 H', .slice A' m' c'] 27)
  replace dd := (dd.trans g5).q ((Q.refl _).alloc (.cells #[.int .i64 W', .int .i64 H', .slice A' m' c'] 27))
  replace ox := (ox.draw g5 (by omega) (.inl (by omega))).q ((Q.refl _).alloc (.cells #[.int .i64 W', .int .i64 H', .slice A' m' c'] 27)) (by omega)
  have oy := o5.q ((Q.refl _).alloc (.cells #[.int .i64 W', .int .i64 H', .slice A' m' c'] 27)) (Nat.le_refl _)
  have bb := Blk.new w5 27 #[.int .i64 W', .int .i64 H', .slice A' m' c']
  replace rr := r5.alloc (.cells #[.int .i64 W', .int .i64 H', .slice A' m' c'] 27)
  have s6 : (w5.alloc (.cells #[.int .i64 W', .int .i64 H', .slice A' m' c'] 27)).heap.size = w5.heap.size + 1 := by simp
  have HL5 : Hid (ys.length = m') := hl5
  clear o5 r5 g5 hl5
  go_wp2_with fail
  refine (odd _ _ _ _ rr (by omega) (by omega) (by omega)).mono ?_; rintro e w7 ⟨t, rfl, rr, g7⟩
  have s7 := World.grownBy.size g7
  replace bp := bp.draw g7 (by omega)
  replace br := br.draw g7 (by omega)
  replace ba := ba.draw g7 (by omega)
  replace bb := bb.draw g7 (by omega)
  replace dd := dd.trans g7
  replace ox := ox.draw g7 (by omega) (.inl (by omega))
  replace oy := oy.draw g7 (by omega) (.inl (by omega))
  clear g7
  cases t
  · have hz : (st3 (st3 w7 w.heap.size (.int .i64 W) (.int .i64 H) (.slice A m c)) (w.heap.size + 1) (.int .i64 W') (.int .i64 H') (.slice A' m' c')).drew.heap.size = w7.heap.size := by rw [drew_size, st3_size, st3_size]
    have HR := Lib.hid (RdI.q ((ox.put3 (b := w.heap.size) (.inl (by omega)) (.int .i64 W) (.int .i64 H) (.slice A m c)).put3 (b := w.heap.size + 1) (.inl (by omega)) (.int .i64 W') (.int .i64 H') (.slice A' m' c')) ((Q.refl _).drew) (by rw [st3_size, st3_size]; omega))
    have HS := Lib.hid (RdI.q ((oy.put3 (b := w.heap.size) (.inl (by omega)) (.int .i64 W) (.int .i64 H) (.slice A m c)).put3 (b := w.heap.size + 1) (.inl (by omega)) (.int .i64 W') (.int .i64 H') (.slice A' m' c')) ((Q.refl _).drew) (by rw [st3_size, st3_size]; omega))
    have HT := Lib.hid (Rdr.drew (((rr.more (P' := P + 12000) (by omega)).put3 (b := w.heap.size) (by omega) (.int .i64 W) (.int .i64 H) (.slice A m c)).put3 (b := w.heap.size + 1) (by omega) (.int .i64 W') (.int .i64 H') (.slice A' m' c')))
    have HD := Lib.hid (Dr.q ((dd.put3 (b := w.heap.size) (by omega) (.int .i64 W) (.int .i64 H) (.slice A m c)).put3 (b := w.heap.size + 1) (by omega) (.int .i64 W') (.int .i64 H') (.slice A' m' c')) ((Q.refl _).drew))
    have z1 := Lib.hid (Blk.q ((bp.put3_same (.int .i64 W) (.int .i64 H) (.slice A m c)).put3 (b := w.heap.size + 1) (by omega) (.int .i64 W') (.int .i64 H') (.slice A' m' c')) ((Q.refl _).drew))
    have z2 := Lib.hid (Blk.q ((br.put3 (b := w.heap.size) (by omega) (.int .i64 W) (.int .i64 H) (.slice A m c)).put3_same (.int .i64 W') (.int .i64 H') (.slice A' m' c')) ((Q.refl _).drew))
    have b1 := bp.cell
    have b2 := br.cell
    have b3 := ba.cell
    have b4 := bb.cell
    have f1 := bp.free
    have f2 := br.free
    have f4 := bb.free
    have HZ := Lib.hid hz
    clear ox oy rr dd bp br ba bb hz
    go_wp2_with fail
    go_region
    change Exit.then _ _ _ _ (st3 (st3 w7 w.heap.size (.int .i64 W) (.int .i64 H) (.slice A m c)) (w.heap.size + 1) (.int .i64 W') (.int .i64 H') (.slice A' m' c')).drew
    generalize hwq : (st3 (st3 w7 w.heap.size (.int .i64 W) (.int .i64 H) (.slice A m c)) (w.heap.size + 1) (.int .i64 W') (.int .i64 H') (.slice A' m' c')).drew = wq at HZ HR HS HT HD z1 z2 ⊢
    clear hwq b1 b2 b3 b4 f1 f2 f4
    have hz := HZ.out
    have cc1 := z1.out.cell
    have cc2 := z2.out.cell
    go_wp2_with fail
    exact bodyPost_ret (v := .tuple #[.agg #[.int .i64 W, .int .i64 H, .slice A m c], .agg #[.int .i64 W', .int .i64 H', .slice A' m' c']]) (by simp [results, Try.results66, go_sem, cc1, cc2]) rfl ⟨⟨_, _, _, _, A, A', m, c, m', c', xs, ys, rfl, HR.out.mono (by omega) (by omega), HS.out.mono (by omega) (by omega), ⟨HL3.out, hm3, i5, i6⟩, ⟨HL5.out, hm5, j5, j6⟩, ⟨i1, i2, i3, i4⟩, ⟨j1, j2, j3, j4⟩⟩, HT.out, HD.out⟩
  · go_wp2_with fail
    refine (l20Picture _ _ _ _ rr (by omega) (by omega) (by omega)).mono ?_; rintro e w8 ⟨⟨W2, H2, A2, m2, c2, zs, rfl, o8, hl8, hm8, k1, k2, k3, k4, k5, k6⟩, r8, g8⟩
    have s8 := g8.size
    replace bp := bp.draw g8 (by omega)
    replace br := br.draw g8 (by omega)
    replace ba := ba.draw g8 (by omega)
    replace bb := bb.draw g8 (by omega)
    replace dd := dd.trans g8
    replace ox := ox.draw g8 (by omega) (.inl (by omega))
    have oy := o8
    have rr := r8
    have HL8 : Hid (zs.length = m2) := hl8
    clear g8 hl8 o8 r8
    have hz : (st3 (st3 (st3 w8 w5.heap.size (.int .i64 W2) (.int .i64 H2) (.slice A2 m2 c2)) w.heap.size (.int .i64 W) (.int .i64 H) (.slice A m c)) (w.heap.size + 1) (.int .i64 W2) (.int .i64 H2) (.slice A2 m2 c2)).drew.heap.size = w8.heap.size := by rw [drew_size, st3_size, st3_size, st3_size]
    have HR := Lib.hid (RdI.q (((ox.put3 (b := w5.heap.size) (.inr (by omega)) (.int .i64 W2) (.int .i64 H2) (.slice A2 m2 c2)).put3 (b := w.heap.size) (.inl (by omega)) (.int .i64 W) (.int .i64 H) (.slice A m c)).put3 (b := w.heap.size + 1) (.inl (by omega)) (.int .i64 W2) (.int .i64 H2) (.slice A2 m2 c2)) ((Q.refl _).drew) (by rw [st3_size, st3_size, st3_size]; omega))
    have HS := Lib.hid (RdI.q (((oy.put3 (b := w5.heap.size) (.inl (by omega)) (.int .i64 W2) (.int .i64 H2) (.slice A2 m2 c2)).put3 (b := w.heap.size) (.inl (by omega)) (.int .i64 W) (.int .i64 H) (.slice A m c)).put3 (b := w.heap.size + 1) (.inl (by omega)) (.int .i64 W2) (.int .i64 H2) (.slice A2 m2 c2)) ((Q.refl _).drew) (by rw [st3_size, st3_size, st3_size]; omega))
    have HT := Lib.hid (Rdr.drew ((((rr.more (P' := P + 12000) (by omega)).put3 (b := w5.heap.size) (by omega) (.int .i64 W2) (.int .i64 H2) (.slice A2 m2 c2)).put3 (b := w.heap.size) (by omega) (.int .i64 W) (.int .i64 H) (.slice A m c)).put3 (b := w.heap.size + 1) (by omega) (.int .i64 W2) (.int .i64 H2) (.slice A2 m2 c2)))
    have HD := Lib.hid (Dr.q (((dd.put3 (b := w5.heap.size) (by omega) (.int .i64 W2) (.int .i64 H2) (.slice A2 m2 c2)).put3 (b := w.heap.size) (by omega) (.int .i64 W) (.int .i64 H) (.slice A m c)).put3 (b := w.heap.size + 1) (by omega) (.int .i64 W2) (.int .i64 H2) (.slice A2 m2 c2)) ((Q.refl _).drew))
    have z1 := Lib.hid (Blk.q (((bp.put3 (b := w5.heap.size) (by omega) (.int .i64 W2) (.int .i64 H2) (.slice A2 m2 c2)).put3_same (.int .i64 W) (.int .i64 H) (.slice A m c)).put3 (b := w.heap.size + 1) (by omega) (.int .i64 W2) (.int .i64 H2) (.slice A2 m2 c2)) ((Q.refl _).drew))
    have z2 := Lib.hid (Blk.q (((br.put3 (b := w5.heap.size) (by omega) (.int .i64 W2) (.int .i64 H2) (.slice A2 m2 c2)).put3 (b := w.heap.size) (by omega) (.int .i64 W) (.int .i64 H) (.slice A m c)).put3_same (.int .i64 W2) (.int .i64 H2) (.slice A2 m2 c2)) ((Q.refl _).drew))
    have b1 := bp.cell
    have b2 := br.cell
    have b3 := ba.cell
    have b4 := bb.cell
    have f1 := bp.free
    have f2 := br.free
    have f4 := bb.free
    have HZ := Lib.hid hz
    clear ox oy rr dd bp br ba bb hz
    go_wp2_with fail
    go_region
    change Exit.then _ _ _ _ (st3 (st3 (st3 w8 w5.heap.size (.int .i64 W2) (.int .i64 H2) (.slice A2 m2 c2)) w.heap.size (.int .i64 W) (.int .i64 H) (.slice A m c)) (w.heap.size + 1) (.int .i64 W2) (.int .i64 H2) (.slice A2 m2 c2)).drew
    generalize hwq : (st3 (st3 (st3 w8 w5.heap.size (.int .i64 W2) (.int .i64 H2) (.slice A2 m2 c2)) w.heap.size (.int .i64 W) (.int .i64 H) (.slice A m c)) (w.heap.size + 1) (.int .i64 W2) (.int .i64 H2) (.slice A2 m2 c2)).drew = wq at HZ HR HS HT HD z1 z2 ⊢
    clear hwq b1 b2 b3 b4 f1 f2 f4
    have hz := HZ.out
    have cc1 := z1.out.cell
    have cc2 := z2.out.cell
    go_wp2_with fail
    exact bodyPost_ret (v := .tuple #[.agg #[.int .i64 W, .int .i64 H, .slice A m c], .agg #[.int .i64 W2, .int .i64 H2, .slice A2 m2 c2]]) (by simp [results, Try.results66, go_sem, cc1, cc2]) rfl ⟨⟨_, _, _, _, A, A2, m, c, m2, c2, xs, zs, rfl, HR.out.mono (by omega) (by omega), HS.out.mono (by omega) (by omega), ⟨HL3.out, hm3, i5, i6⟩, ⟨HL8.out, hm8, k5, k6⟩, ⟨i1, i2, i3, i4⟩, ⟨k1, k2, k3, k4⟩⟩, HT.out, HD.out⟩
end Go.Proofs.Ytoipcfpbkjanhaa

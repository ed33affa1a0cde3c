/-
  Blocks of sixteen numbers: the transform, of the program and of the reference.
-/
import Derived.Test.YtkdmhlbmhjolcaaDoorArr3
namespace Go.Proofs.YtkdmhlbmhjolcaaDoor
open Go.RowKit

def rows (xs : List Int) : Nat → List Int
  | 0 => xs
  | i + 1 => bfly (rows xs i) (4 * i) 1
def cols (xs : List Int) : Nat → List Int
  | 0 => xs
  | i + 1 => bfly (cols xs i) i 4
def hadW (xs : List Int) : List Int := cols (rows xs 4) 4
theorem rows_len (xs : List Int) (i : Nat) : (rows xs i).length = xs.length := by
  induction i with
  | zero => rfl
  | succ i ih => rw [rows, bfly_len, ih]
theorem cols_len (xs : List Int) (i : Nat) : (cols xs i).length = xs.length := by
  induction i with
  | zero => rfl
  | succ i ih => rw [cols, bfly_len, ih]
theorem hadW_len (xs : List Int) : (hadW xs).length = xs.length := by rw [hadW, cols_len, rows_len]
theorem rows_bnd {xs : List Int} {B : Int} (h : bnd xs B) (hB : 0 ≤ B) : bnd (rows xs 1) (4 * B) ∧ bnd (rows xs 2) (16 * B) ∧ bnd (rows xs 3) (64 * B) ∧ bnd (rows xs 4) (256 * B) := by
  have h1 : bnd (rows xs 1) (4 * B) := bfly_bnd h hB _ _
  have h2 : bnd (rows xs 2) (4 * (4 * B)) := bfly_bnd h1 (by omega) _ _
  have h3 : bnd (rows xs 3) (4 * (4 * (4 * B))) := bfly_bnd h2 (by omega) _ _
  have h4 : bnd (rows xs 4) (4 * (4 * (4 * (4 * B)))) := bfly_bnd h3 (by omega) _ _
  exact ⟨h1, bnd_mono h2 (by omega), bnd_mono h3 (by omega), bnd_mono h4 (by omega)⟩
theorem cols_bnd {xs : List Int} {B : Int} (h : bnd xs B) (hB : 0 ≤ B) : bnd (cols xs 1) (4 * B) ∧ bnd (cols xs 2) (16 * B) ∧ bnd (cols xs 3) (64 * B) ∧ bnd (cols xs 4) (256 * B) := by
  have h1 : bnd (cols xs 1) (4 * B) := bfly_bnd h hB _ _
  have h2 : bnd (cols xs 2) (4 * (4 * B)) := bfly_bnd h1 (by omega) _ _
  have h3 : bnd (cols xs 3) (4 * (4 * (4 * B))) := bfly_bnd h2 (by omega) _ _
  have h4 : bnd (cols xs 4) (4 * (4 * (4 * (4 * B)))) := bfly_bnd h3 (by omega) _ _
  exact ⟨h1, bnd_mono h2 (by omega), bnd_mono h3 (by omega), bnd_mono h4 (by omega)⟩
theorem rows_ok {xs : List Int} {B : Int} (h : bnd xs B) (hB : 0 ≤ B) (i : Nat) (hi : i < 4) : bnd (rows xs i) (256 * B) := by
  obtain ⟨h1, h2, h3, _⟩ := rows_bnd h hB
  rcases (by omega : i = 0 ∨ i = 1 ∨ i = 2 ∨ i = 3) with rfl | rfl | rfl | rfl
  · exact bnd_mono h (by omega)
  · exact bnd_mono h1 (by omega)
  · exact bnd_mono h2 (by omega)
  · exact bnd_mono h3 (by omega)
theorem cols_ok {xs : List Int} {B : Int} (h : bnd xs B) (hB : 0 ≤ B) (i : Nat) (hi : i < 4) : bnd (cols xs i) (256 * B) := by
  obtain ⟨h1, h2, h3, _⟩ := cols_bnd h hB
  rcases (by omega : i = 0 ∨ i = 1 ∨ i = 2 ∨ i = 3) with rfl | rfl | rfl | rfl
  · exact bnd_mono h (by omega)
  · exact bnd_mono h1 (by omega)
  · exact bnd_mono h2 (by omega)
  · exact bnd_mono h3 (by omega)
theorem butterfly (A S : Int) (g a s : Nat) (B : Int) (xs : List Int) (w : World) (hA : A = (a : Int)) (hS : S = (s : Int)) (hb : Bl w g xs) (hs0 : 0 < s) (ha : a + 3 * s < 16) (hB : bnd xs B) (hB1 : 0 ≤ B) (hB2 : B ≤ 1000000000000) :
    Calls Tryd.prog 52 #[.pointer (some ⟨g, 0, none⟩), .int .i64 A, .int .i64 S] w fun e w' => e = .returned (.tuple #[]) ∧ Bl w' g (bfly xs a s) ∧ w.grownBy w' (some g) ∧ w'.heap.size = w.heap.size := by
  subst hA hS
  exact butterflies g a s B xs w hb hs0 ha hB hB1 hB2

set_option maxRecDepth 100000 in
set_option maxHeartbeats 2000000 in
theorem hadamard (B : Int) (xs : List Int) (w : World) (hx : xs.length = 16) (hB : bnd xs B) (hB1 : 0 ≤ B) (hB2 : B ≤ 1000000) :
    Calls Tryd.prog 36 #[.agg (arr xs)] w fun e w' => e = .returned (.agg (arr (hadW xs))) ∧ Q w w' := by
  have s1 := arr_size xs
  rw [hx] at s1
  have QQ : Q w ((w.alloc (.cells (arr xs) 22)).alloc (.cells (arr (List.replicate 16 0)) 22)) := (by repeat (first | exact Q.refl _ | assumption | refine Q.drewN ?_ _ | refine Q.drew ?_ | refine Q.alloc ?_ _ | refine Q.trans ?_ (by assumption) | refine Q.set ?_ (by first | exact Nat.le_refl _ | omega | (simp; done) | (simp; omega)) _))
  have ba := (Bl.new w xs hx).alloc (.cells (arr (List.replicate 16 0)) 22)
  have bb := Bl.zero (w.alloc (.cells (arr xs) 22))
  simp only [World.size_alloc] at bb
  have hs : ((w.alloc (.cells (arr xs) 22)).alloc (.cells (arr (List.replicate 16 0)) 22)).heap.size = w.heap.size + 1 + 1 := by simp
  have HB := Lib.hid hB
  clear hB
  go_enter Tryd.func36, Tryd.ntmps36
  go_wp2_with fail
  change Code.wp _ _ _ _ ((w.alloc (.cells (arr xs) 22)).alloc (.cells (arr (List.replicate 16 0)) 22))
  generalize (w.alloc (.cells (arr xs) 22)).alloc (.cells (arr (List.replicate 16 0)) 22) = wv at QQ ba bb hs ⊢
  go_loopw [5] (fun i wr => ∃ k : Nat, k ≤ 4 ∧ i = .int .i64 k ∧ Hid (Bl wr w.heap.size (rows xs k) ∧ Bl wr (w.heap.size + 1) (List.replicate 16 0) ∧ Q w wr ∧ wr.heap.size = w.heap.size + 1 + 1)) (fun i _ => 4 - (intOf i).toNat)
  case atStart => exact ⟨0, by omega, rfl, ba, bb, QQ, hs⟩
  case round =>
    obtain ⟨k, hk, rfl, hK⟩ := hrel
    obtain ⟨h1, h2, h3, h4⟩ := hK.out
    clear ba bb QQ hs hK
    by_cases hlt : k < 4
    · have hk16 : (k : Int) < 4 := by omega
      have hbn := rows_ok HB.out hB1 k hlt
      have H1 := Lib.hid h1
      have H2 := Lib.hid h2
      have H3 := Lib.hid h3
      have H4 := Lib.hid h4
      have HBN := Lib.hid hbn
      clear h1 h2 h3 h4 hbn
      go_wp2_with fail
      refine (butterfly _ _ _ (4 * k) 1 _ _ _ (by omega) rfl H1.out (by omega) (by omega) HBN.out (by omega) (by omega)).mono ?_; rintro e w2 ⟨rfl, b2, g2, z2⟩
      have HK : Hid (Bl w2 w.heap.size (rows xs (k + 1)) ∧ Bl w2 (w.heap.size + 1) (List.replicate 16 0) ∧ Q w w2 ∧ w2.heap.size = w.heap.size + 1 + 1) := ⟨b2, H2.out.grown g2 (fun e => by have := Option.some.inj e; omega), H3.out.grown g2 (fun k e => by cases e; omega), by rw [z2]; exact H4.out⟩
      clear b2 g2 z2 H1 H2 H3 H4
      go_wp2_with fail
      go_roundw
      case rel => exact ⟨k + 1, by omega, by go_num, HK⟩
      case measure => simp [intOf]; omega
    · have hk16 : k = 4 := by omega
      subst hk16
      have hcb := (rows_bnd HB.out hB1).2.2.2
      have hlr := rows_len xs 4
      rw [hx] at hlr
      obtain ⟨ys, hys⟩ : ∃ ys, rows xs 4 = ys := ⟨_, rfl⟩
      rw [hys] at h1 hcb hlr
      have HY := Lib.hid hys
      have HL := Lib.hid hlr
      have H1 := Lib.hid h1
      have H2 := Lib.hid h2
      have H3 := Lib.hid h3
      have H4 := Lib.hid h4
      have HC := Lib.hid hcb
      clear h1 h2 h3 h4 hcb hys hlr
      go_wp2_with fail
      simp only [Int.cast_ofNat_Int]
      go_loopw [12] (fun i wr => ∃ k : Nat, k ≤ 4 ∧ i = .int .i64 k ∧ Hid (Bl wr w.heap.size (cols ys k) ∧ Bl wr (w.heap.size + 1) (List.replicate 16 0) ∧ Q w wr ∧ wr.heap.size = w.heap.size + 1 + 1)) (fun i _ => 4 - (intOf i).toNat)
      case atStart => exact ⟨0, by omega, rfl, H1.out, H2.out, H3.out, H4.out⟩
      case round =>
        obtain ⟨k, hk, rfl, hK⟩ := hrel
        clear H1 H2 H3 H4
        obtain ⟨h1, h2, h3, h4⟩ := hK.out
        clear hK
        by_cases hlt : k < 4
        · have hk16 : (k : Int) < 4 := by omega
          have hbn := cols_ok HC.out (by omega) k hlt
          have H1 := Lib.hid h1
          have H2 := Lib.hid h2
          have H3 := Lib.hid h3
          have H4 := Lib.hid h4
          have HBN := Lib.hid hbn
          clear h1 h2 h3 h4 hbn
          go_wp2_with fail
          refine (butterfly _ _ _ k 4 _ _ _ rfl rfl H1.out (by omega) (by omega) HBN.out (by omega) (by omega)).mono ?_; rintro e w2 ⟨rfl, b2, g2, z2⟩
          have HK : Hid (Bl w2 w.heap.size (cols ys (k + 1)) ∧ Bl w2 (w.heap.size + 1) (List.replicate 16 0) ∧ Q w w2 ∧ w2.heap.size = w.heap.size + 1 + 1) := ⟨b2, H2.out.grown g2 (fun e => by have := Option.some.inj e; omega), H3.out.grown g2 (fun k e => by cases e; omega), by rw [z2]; exact H4.out⟩
          clear b2 g2 z2 H1 H2 H3 H4
          go_wp2_with fail
          go_roundw
          case rel => exact ⟨k + 1, by omega, by go_num, HK⟩
          case measure => simp [intOf]; omega
        · have hk16 : k = 4 := by omega
          subst hk16
          have hlc : (cols ys 4).length = 16 := by rw [cols_len]; exact HL.out
          have H4 := Lib.hid h4
          have H3 := Lib.hid h3
          obtain ⟨zs, hzs⟩ : ∃ zs, cols ys 4 = zs := ⟨_, rfl⟩
          rw [hzs] at h1 hlc
          have HZ := Lib.hid hzs
          clear h3 h4 hzs
          go_wp2_with (first | (first | refine wpList_load_arr rfl _ rfl _ rfl _ (by assumption) ?_ | refine wpList_load_arr_g (by rfl) _ rfl _ rfl _ (by assumption) ?_) | (refine wpList_store_arr rfl _ _ rfl _ rfl _ _ rfl (by first | assumption | rfl) (by assumption) ?_; intro w9 b9 g9 s9))
          refine bodyPost_ret (v := .agg (arr zs)) (results_cell_row (by rfl) _ _ _ _ _ _ _ (by rfl) b9.blk Tryd.underlying22 rfl (by rw [arr_size, hlc]; exact info_arr)) rfl ⟨by rw [hadW, HY.out, HZ.out], ?_⟩
          exact H3.out.grown g9 (fun k e => by cases e; omega)
end Go.Proofs.YtkdmhlbmhjolcaaDoor

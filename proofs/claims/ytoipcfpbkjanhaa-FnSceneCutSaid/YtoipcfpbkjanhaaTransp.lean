/-
  Transpose of the program.
-/
import Derived.Test.YtoipcfpbkjanhaaTrans
import Derived.Test.YtoipcfpbkjanhaaPict
import Derived.Test.YtoipcfpbkjanhaaCarry
namespace Go.Proofs.Ytoipcfpbkjanhaa
open Go.RowKit

/-- the columns, the rows and the numbers of what Transpose returns -/
def trP (W H : Int) (xs : List Int) : Int × Int × List Int := if picB W H xs = true then (H, W, trL W.toNat H.toNat xs) else (0, 0, [])

set_option maxRecDepth 100000 in
set_option maxHeartbeats 4000000 in
theorem Transpose_no (W H : Int) (A : Option Addr) (n c B : Nat) (xs : List Int) (w : World) (hx : Rd w B A xs) (hB : B ≤ w.heap.size) (hn : Hid (xs.length = n)) (hm : n ≤ 9223372036854775807) (hp : Hid (picB W H xs = false)) :
    Calls Try.prog 35 #[.agg #[.int .i64 W, .int .i64 H, .slice A n c]] w fun e w' => e = .returned (.agg #[.int .i64 0, .int .i64 0, .slice none 0 0]) ∧ Q w w' := by
  have q0 : Q w ((w.alloc (.cells #[.int .i64 W, .int .i64 H, .slice A n c] 27)).alloc (.cells #[.int .i64 0, .int .i64 0, .slice none 0 0] 27)) := (by repeat (first | exact Q.refl _ | assumption | refine Q.drewN ?_ _ | refine Q.drew ?_ | refine Q.alloc ?_ _ | refine Q.trans ?_ (by assumption) | refine Q.set ?_ (by first | exact Nat.le_refl _ | omega | (simp; done) | (simp; omega)) _))
  have r0 := Blk.new (w.alloc (.cells #[.int .i64 W, .int .i64 H, .slice A n c] 27)) 27 #[.int .i64 0, .int .i64 0, .slice none 0 0]
  rw [World.size_alloc] at r0
  have s0 := q0.size
  have HX := Lib.hid (hx.q q0 hB)
  clear hx
  go_enter Try.func35, Try.ntmps35
  go_wp2_with fail
  refine (impl_PictureValid W H A n c _ xs false _ HX.out (by omega) hn hm hp).mono ?_; rintro e w1 ⟨rfl, q1⟩
  have r4 := (r0.q q1).cell
  have f4 := (r0.q q1).free
  go_wp2_with fail
  refine bodyPost_ret (v := .agg #[.int .i64 0, .int .i64 0, .slice none 0 0]) (by simp [results, Try.results35, go_sem, r4]) rfl ⟨rfl, ?_⟩
  have hq := q0.trans q1
  exact (by repeat (first | exact Q.refl _ | assumption | refine Q.drewN ?_ _ | refine Q.drew ?_ | refine Q.alloc ?_ _ | refine Q.trans ?_ (by assumption) | refine Q.set ?_ (by first | exact Nat.le_refl _ | omega | (simp; done) | (simp; omega)) _))

set_option maxRecDepth 100000 in
set_option maxHeartbeats 8000000 in
theorem Transpose_ok (W H : Int) (wn hn' : Nat) (A : Option Addr) (n c B : Nat) (xs : List Int) (w : World) (hx : Rd w B A xs) (hB : B ≤ w.heap.size) (hn : Hid (xs.length = n)) (hc : n ≤ c) (hc2 : c ≤ 9223372036854775807) (hp : Hid (picB W H xs = true)) (hW : W = (wn : Int)) (hH : H = (hn' : Int)) :
    Calls Try.prog 35 #[.agg #[.int .i64 W, .int .i64 H, .slice A n c]] w fun e w' => ∃ v, e = .returned (.agg #[.int .i64 H, .int .i64 W, v]) ∧ Own w' w.heap.size v n (trL wn hn' xs) ∧ Q w w' := by
  obtain ⟨pW, pH, pl, pa⟩ := picB_parts hp.out
  subst hW hH
  rw [hn.out] at pl
  have hnn : n = wn * hn' := by rw [← Int.natCast_mul] at pl; exact_mod_cast pl
  have w32 : wn ≤ 32 := by omega
  have h32 : hn' ≤ 32 := by omega
  have n1 : n ≤ 1024 := by rw [hnn]; exact Nat.mul_le_mul w32 h32
  have n0 : 64 ≤ n := by have := (area_le pW.1 pW.2.1 pH.1 pH.2.1).1; omega
  have q0 : Q w ((w.alloc (.cells #[.int .i64 (wn : Int), .int .i64 (hn' : Int), .slice A n c] 27)).alloc (.cells #[.int .i64 0, .int .i64 0, .slice none 0 0] 27)) := (by repeat (first | exact Q.refl _ | assumption | refine Q.drewN ?_ _ | refine Q.drew ?_ | refine Q.alloc ?_ _ | refine Q.trans ?_ (by assumption) | refine Q.set ?_ (by first | exact Nat.le_refl _ | omega | (simp; done) | (simp; omega)) _))
  have bp := (Blk.new w 27 #[.int .i64 (wn : Int), .int .i64 (hn' : Int), .slice A n c]).alloc (.cells #[.int .i64 0, .int .i64 0, .slice none 0 0] 27)
  have br := Blk.new (w.alloc (.cells #[.int .i64 (wn : Int), .int .i64 (hn' : Int), .slice A n c] 27)) 27 #[.int .i64 0, .int .i64 0, .slice none 0 0]
  rw [World.size_alloc] at br
  have s0 := q0.size
  have s1 : w.heap.size + 2 ≤ ((w.alloc (.cells #[.int .i64 (wn : Int), .int .i64 (hn' : Int), .slice A n c] 27)).alloc (.cells #[.int .i64 0, .int .i64 0, .slice none 0 0] 27)).heap.size := by simp
  have HX := Lib.hid (hx.q q0 hB)
  have HNN := Lib.hid hnn
  have HS1 : Hid (sideOk (hn' : Int)) := by unfold Hid sideOk; omega
  have HS2 : Hid (sideOk (wn : Int)) := by unfold Hid sideOk; omega
  have nn : n ≤ 9223372036854775807 := by omega
  have hmul : (hn' : Int) * (wn : Int) = (n : Int) := by rw [hnn, Int.natCast_mul, Int.mul_comm]
  have HMUL := Lib.hid hmul
  clear hx pa pl hnn hmul
  go_enter Try.func35, Try.ntmps35
  go_wp2_with fail
  refine (impl_PictureValid _ _ A n c _ xs true _ HX.out (by omega) hn nn hp).mono ?_; rintro e wv ⟨rfl, q1⟩
  have s2 := q1.size
  replace bp := bp.q q1
  replace br := br.q q1
  replace HX := Lib.hid (HX.out.q q1 (by omega))
  have QQ := q0.trans q1
  have bpc := bp.cell
  clear q1 q0
  go_wp2_with fail
  refine (newPicture (hn' : Int) (wn : Int) 0 n _ HS1 HS2 (by unfold Hid; omega) HMUL.out n1).mono ?_; rintro e w3 ⟨v, rfl, o3, q3⟩
  obtain ⟨gO, cO, rfl⟩ : ∃ gO cO, v = .slice (some ⟨gO, 0, none⟩) n cO := by
    rcases o3.form' with ⟨_, h⟩ | ⟨g, c, h, h1, h2, _⟩
    · omega
    · exact ⟨g, c, h⟩
  have hg := o3.block
  have s3 := q3.size
  have s4 : (w3.alloc (.cells #[.int .i64 (hn' : Int), .int .i64 (wn : Int), .slice (some ⟨gO, 0, none⟩) n cO] 27)).heap.size = w3.heap.size + 1 := by simp
  replace bp := (bp.q q3).alloc (.cells #[.int .i64 (hn' : Int), .int .i64 (wn : Int), .slice (some ⟨gO, 0, none⟩) n cO] 27)
  replace br := (br.q q3).alloc (.cells #[.int .i64 (hn' : Int), .int .i64 (wn : Int), .slice (some ⟨gO, 0, none⟩) n cO] 27)
  have bx := Blk.new w3 27 #[.int .i64 (hn' : Int), .int .i64 (wn : Int), .slice (some ⟨gO, 0, none⟩) n cO]
  have oo := o3.q ((Q.refl _).alloc (.cells #[.int .i64 (hn' : Int), .int .i64 (wn : Int), .slice (some ⟨gO, 0, none⟩) n cO] 27))
  have q4 := q3.alloc (.cells #[.int .i64 (hn' : Int), .int .i64 (wn : Int), .slice (some ⟨gO, 0, none⟩) n cO] 27)
  replace HX := Lib.hid (HX.out.q q4 (by omega))
  replace QQ := QQ.trans q4
  have bpc := bp.cell
  clear q3 q4 o3 bpc
  have bpc := bp.cell
  go_wp2_with fail
  generalize w3.alloc (.cells #[.int .i64 (hn' : Int), .int .i64 (wn : Int), .slice (some ⟨gO, 0, none⟩) n cO] 27) = w4 at bp br bx oo HX QQ s4 bpc ⊢
  generalize w3.heap.size = xb at bx s3 s4 hg ⊢
  obtain ⟨b, o, rfl, hb, hcc⟩ := HX.out (by rw [hn.out]; omega)
  have HCC := Lib.hid hcc
  have BP := Lib.hid bp
  have BR := Lib.hid br
  have BX := Lib.hid bx
  have HQ := Lib.hid QQ
  have OO : Hid (Own w4 wv.heap.size (.slice (some ⟨gO, 0, none⟩) n cO) n (trT wn hn' xs (0 * wn))) := by
    rw [Nat.zero_mul, trT_zero, ← HNN.out]; exact oo
  clear hcc bp br bx QQ oo bpc HX
  go_loopw [18] (fun i wr => ∃ y : Nat, y ≤ hn' ∧ i = .int .i64 y ∧ Hid (Own wr wv.heap.size (.slice (some ⟨gO, 0, none⟩) n cO) n (trT wn hn' xs (y * wn)) ∧ w4.grownBy wr (some gO))) (fun i _ => hn' - (intOf i).toNat)
  case atStart => exact ⟨0, Nat.zero_le _, rfl, ⟨OO.out, World.grownBy.refl _ _⟩⟩
  case round =>
    obtain ⟨y, hy, rfl, hK⟩ := hrel
    clear OO
    have bpc := (BP.out.grown hK.out.2 (fun e => by cases e; omega)).cell
    by_cases hlt : y < hn'
    · have hrl := row_le y wn hn' hlt
      have hrn : y * wn + wn ≤ n := by rw [HNN.out, Nat.mul_comm wn hn']; exact hrl
      have hyl : (y : Int) < (hn' : Int) := by omega
      clear hrl
      go_wp2_with fail
      refine (row (wn : Int) (hn' : Int) (y : Int) b o y wn n c _ rfl rfl hrn hc hc2 n1 w32 (by omega) (by omega)).mono ?_; rintro e w5 ⟨rfl, q5⟩
      have HK5 : Hid (Own w5 wv.heap.size (.slice (some ⟨gO, 0, none⟩) n cO) n (trT wn hn' xs (y * wn + 0)) ∧ w4.grownBy w5 (some gO)) := ⟨hK.out.1.q q5, World.grownBy.andThen (row' := some gO) hK.out.2 ⟨q5.os, q5.tape, q5.output, q5.size, fun k hk _ => q5.block k hk⟩ (fun _ e => .inr e)⟩
      clear hK bpc q5
      go_wp2_with fail
      go_loopw [25] (fun i wr => ∃ x : Nat, x ≤ wn ∧ i = .int .i64 x ∧ Hid (Own wr wv.heap.size (.slice (some ⟨gO, 0, none⟩) n cO) n (trT wn hn' xs (y * wn + x)) ∧ w4.grownBy wr (some gO))) (fun i _ => wn - (intOf i).toNat)
      case atStart => exact ⟨0, Nat.zero_le _, rfl, HK5⟩
      case round =>
        obtain ⟨x, hx, rfl, hK⟩ := hrel
        clear HK5
        by_cases hlx : x < wn
        · have hlin := row_lt y wn hn' x hlt hlx
          have hout := row_lt x hn' wn y hlx hlt
          have hin : y * wn + x < n := by rw [HNN.out, Nat.mul_comm wn hn']; exact hlin
          have hset := trT_set hlx hlt xs
          obtain ⟨ho, hgr⟩ := hK.out
          have hcell0 := HCC.out (y * wn + x) (by rw [hn.out]; exact hin)
          rw [← Nat.add_assoc] at hcell0
          have hcell := (World.cell?_of_block (a := ⟨b, o + y * wn + x, none⟩) (hgr.block b (by omega) (fun e => by cases e; omega))).trans hcell0
          clear hcell0
          have bxc := (BX.out.grown hgr (fun e => by cases e; omega)).cell
          generalize hv : xs[y * wn + x]?.getD 0 = v at hcell hset
          obtain ⟨q, hq⟩ : ∃ q, x * hn' = q := ⟨_, rfl⟩
          rw [hq] at hout hset
          have hqn : q + y < n := by rw [HNN.out]; exact hout
          have hc4 := ho.at (q + y) hqn
          have hf4 := ho.free (q + y)
          have HO := Lib.hid (ho.set (q + y) v)
          have HG := Lib.hid (grownBy_set hgr (q + y) (.int .i64 v))
          have HSET := Lib.hid hset
          have e1 : (x : Int) * (hn' : Int) = (q : Int) := by rw [← hq]; exact (Int.natCast_mul _ _).symm
          have hxl : (x : Int) < (wn : Int) := by omega
          have i1 : ((q : Int) + (y : Int)).toNat = q + y := by omega
          have i2 : (0 : Int) ≤ (q : Int) + (y : Int) := by omega
          have i3 : (q : Int) + (y : Int) < (n : Int) := by omega
          have r2 : -9223372036854775808 ≤ (q : Int) ∧ (q : Int) ≤ 9223372036854775807 := by omega
          have r3 : -9223372036854775808 ≤ (q : Int) + (y : Int) ∧ (q : Int) + (y : Int) ≤ 9223372036854775807 := by omega
          have t3 : IntKind.i64.wrap ((x : Int) * (hn' : Int)) = (q : Int) := by rw [e1]; exact IntWalk.i64_in _ r2
          clear hK ho hgr hset hv hq hin hlin hout r2 r3
          generalize (trT wn hn' xs (y * wn + x))[q + y]?.getD 0 = z at hc4
          go_wp2_with fail
          go_roundw
          case rel => exact ⟨x + 1, by omega, by go_num, by rw [← Nat.add_assoc, ← HSET.out]; exact ⟨HO.out, HG.out⟩⟩
          case measure => simp [intOf]; omega
        · have hxw : x = wn := by omega
          subst hxw
          go_wp2_with fail
          go_roundw
          case rel => exact ⟨y + 1, by omega, by go_num, by rw [Nat.succ_mul]; exact hK⟩
          case measure => simp [intOf]; omega
    · have hye : y = hn' := by omega
      subst hye
      obtain ⟨ho, hgr⟩ := hK.out
      rw [Nat.mul_comm y wn, trT_full] at ho
      have bxc := (BX.out.grown hgr (fun e => by cases e; omega)).cell
      have brr := BR.out.grown hgr (fun e => by cases e; omega)
      have brc := brr.cell
      have brf := brr.free
      have HO := Lib.hid ho
      have Q7 := Lib.hid (HQ.out.grown hgr (fun j e => by cases e; omega))
      clear hK ho hgr brr
      go_wp2_with fail
      refine bodyPost_ret (v := .agg #[.int .i64 (y : Int), .int .i64 (wn : Int), .slice (some ⟨gO, 0, none⟩) n cO]) (by simp [results, Try.results35, go_sem, brc]) rfl ⟨_, rfl, ?_, ?_⟩
      · exact Own.mono (B := wv.heap.size) (by repeat (first | exact HO.out | refine Own.far ?_ (by show w.heap.size + 1 < wv.heap.size; omega) _)) (by omega)
      · have hq := Q7.out
        exact (by repeat (first | exact Q.refl _ | assumption | refine Q.drewN ?_ _ | refine Q.drew ?_ | refine Q.alloc ?_ _ | refine Q.trans ?_ (by assumption) | refine Q.set ?_ (by first | exact Nat.le_refl _ | omega | (simp; done) | (simp; omega)) _))

theorem Transpose (W H : Int) (A : Option Addr) (n c B : Nat) (xs : List Int) (w : World) (hx : Rd w B A xs) (hB : B ≤ w.heap.size) (hn : Hid (xs.length = n)) (hc : n ≤ c) (hc2 : c ≤ 9223372036854775807) :
    Calls Try.prog 35 #[.agg #[.int .i64 W, .int .i64 H, .slice A n c]] w fun e w' => ∃ v, e = .returned (.agg #[.int .i64 (trP W H xs).1, .int .i64 (trP W H xs).2.1, v]) ∧ Own w' w.heap.size v (trP W H xs).2.2.length (trP W H xs).2.2 ∧ Q w w' := by
  cases hp : picB W H xs
  · rw [trP, if_neg (by rw [hp]; exact Bool.false_ne_true)]
    exact (Transpose_no W H A n c B xs w hx hB hn (by omega) hp).mono fun e w' ⟨he, hq⟩ => ⟨_, he, Own.nil _ _, hq⟩
  · rw [trP, if_pos hp]
    obtain ⟨pW, pH, pl, pa⟩ := picB_parts hp
    refine (Transpose_ok W H W.toNat H.toNat A n c B xs w hx hB hn hc hc2 hp (by omega) (by omega)).mono fun e w' ⟨v, he, ho, hq⟩ => ⟨v, he, ?_, hq⟩
    have : n = (trL W.toNat H.toNat xs).length := ho.1.symm
    show Own w' w.heap.size v (trL W.toNat H.toNat xs).length (trL W.toNat H.toNat xs)
    rw [← this]; exact ho
end Go.Proofs.Ytoipcfpbkjanhaa

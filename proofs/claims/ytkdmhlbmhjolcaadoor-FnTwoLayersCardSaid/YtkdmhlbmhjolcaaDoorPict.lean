/-
  NewPicture, and what rests on it: the laws' 'alive'.
-/
import Derived.Test.YtkdmhlbmhjolcaaDoorAppend
import Derived.Test.YtkdmhlbmhjolcaaDoorSmall
namespace Go.Proofs.YtkdmhlbmhjolcaaDoor
open Go.RowKit

def sideOk (n : Int) : Prop := 8 ≤ n ∧ n ≤ 32 ∧ n % 8 = 0
instance (n : Int) : Decidable (sideOk n) := by unfold sideOk; infer_instance
theorem sideValid_b (n : Int) (t : Bool) (w : World) (h : Hid (decide (sideOk n) = t)) :
    Calls Tryd.prog 57 #[.int .i64 n] w fun e w' => e = .returned (.bool t) ∧ w = w' := by
  obtain rfl := h.out
  unfold sideOk
  clear h
  by_cases h1 : 8 ≤ n
  · by_cases h2 : n ≤ 32
    · by_cases h3 : n % 8 = 0
      · have h4 : (n % 8 == 0) = true := by simp [h3]
        have h5 : decide (8 ≤ n ∧ n ≤ 32 ∧ n % 8 = 0) = true := decide_eq_true ⟨h1, h2, h3⟩
        rw [h5]
        clear h5
        go_enter Tryd.func57, Tryd.ntmps57
        go_wp2
        go_ret; exact ⟨by simp [*], rfl⟩
      · have h4 : (n % 8 == 0) = false := by simp [h3]
        have h5 : decide (8 ≤ n ∧ n ≤ 32 ∧ n % 8 = 0) = false := decide_eq_false (by omega)
        rw [h5]
        clear h5 h3
        go_enter Tryd.func57, Tryd.ntmps57
        go_wp2
        go_ret; exact ⟨by simp [*], rfl⟩
    · have h4 : decide (n ≤ 32) = false := by simp; omega
      have h5 : decide (8 ≤ n ∧ n ≤ 32 ∧ n % 8 = 0) = false := decide_eq_false (by omega)
      rw [h5]
      clear h5 h2
      go_enter Tryd.func57, Tryd.ntmps57
      go_wp2
      all_goals (go_ret; exact ⟨by simp [*], rfl⟩)
  · have h4 : decide (8 ≤ n) = false := by simp; omega
    have h5 : decide (8 ≤ n ∧ n ≤ 32 ∧ n % 8 = 0) = false := decide_eq_false (by omega)
    rw [h5]
    clear h5 h1
    go_enter Tryd.func57, Tryd.ntmps57
    go_wp2
    all_goals (go_ret; exact ⟨by simp [*], rfl⟩)

theorem fill_const (v : Int) (n k : Nat) (h : k < n) : (List.replicate k v ++ List.replicate (n - k) 0).set k v = List.replicate (k + 1) v ++ List.replicate (n - (k + 1)) 0 := by
  rw [List.set_append_right _ _ (by simp), List.length_replicate, Nat.sub_self, show n - k = (n - (k + 1)) + 1 by omega, List.replicate_succ, List.set_cons_zero, List.replicate_succ', List.append_assoc]
  rfl

set_option maxHeartbeats 2000000 in
theorem newPicture (W H V : Int) (n : Nat) (w : World) (hW : Hid (sideOk W)) (hH : Hid (sideOk H)) (hV : Hid (0 ≤ V ∧ V ≤ 255)) (hn : W * H = n) (hn' : n ≤ 1024) :
    Calls Tryd.prog 48 #[.int .i64 W, .int .i64 H, .int .i64 V] w fun e w' => ∃ v, e = .returned (.agg #[.int .i64 W, .int .i64 H, v]) ∧ Own w' w.heap.size v n (List.replicate n V) ∧ Q w w' := by
  have D1 := hid_ _ (decide_eq_true hW.out)
  have D2 := hid_ _ (decide_eq_true hH.out)
  have D3 := hid_ _ (decide_eq_true hV.out)
  have b0 := Blk.new w 58 #[.int .i64 0, .int .i64 0, .slice none 0 0]
  have q0 : Q w (w.alloc (.cells #[.int .i64 0, .int .i64 0, .slice none 0 0] 58)) := (by repeat (first | exact Q.refl _ | assumption | refine Q.drewN ?_ _ | refine Q.drew ?_ | refine Q.alloc ?_ _ | refine Q.trans ?_ (by assumption) | refine Q.set ?_ (by first | exact Nat.le_refl _ | omega | (simp; done) | (simp; omega)) _))
  go_enter Tryd.func48, Tryd.ntmps48
  go_wp2_with fail
  refine (sideValid_b _ _ _ D1).mono ?_; rintro e w' ⟨rfl, rfl⟩
  go_wp2_with fail
  refine (sideValid_b _ _ _ D2).mono ?_; rintro e w' ⟨rfl, rfl⟩
  go_wp2_with fail
  refine (sampleValid_b _ _ _ D3).mono ?_; rintro e w' ⟨rfl, rfl⟩
  go_wp2_with (at_make; refine wpList_make_int rfl _ _ rfl (w.alloc (.cells #[.int .i64 0, .int .i64 0, .slice none 0 0] 58)) n _ _ rfl rfl rfl rfl (by omega) (Q.refl _) ?_; intro w1 o1 q1 s1)
  rw [World.size_alloc] at o1 s1
  have b1 := b0.q q1
  have q1' := q0.trans q1
  have hl := o1.block.2
  have o2 := o1.alloc (.cells #[.int .i64 W, .int .i64 H, .slice (some ⟨w.heap.size + 1, 0, none⟩) n n] 58)
  have q2 := q1'.alloc (.cells #[.int .i64 W, .int .i64 H, .slice (some ⟨w.heap.size + 1, 0, none⟩) n n] 58)
  have b2 := b1.alloc (.cells #[.int .i64 W, .int .i64 H, .slice (some ⟨w.heap.size + 1, 0, none⟩) n n] 58)
  have d2 := Blk.new w1 58 #[.int .i64 W, .int .i64 H, .slice (some ⟨w.heap.size + 1, 0, none⟩) n n]
  clear b0 q0 o1 q1 s1 b1 q1'
  generalize w1.heap.size = m at hl d2 ⊢
  generalize w1.alloc (.cells #[.int .i64 W, .int .i64 H, .slice (some ⟨w.heap.size + 1, 0, none⟩) n n] 58) = w2 at o2 q2 b2 d2 ⊢
  go_loopw [33] (fun i wr => ∃ k : Nat, k ≤ n ∧ i = .int .i64 k ∧ Q w wr ∧ Blk wr w.heap.size 58 #[.int .i64 0, .int .i64 0, .slice none 0 0] ∧ Blk wr m 58 #[.int .i64 W, .int .i64 H, .slice (some ⟨w.heap.size + 1, 0, none⟩) n n] ∧ Own wr (w.heap.size + 1) (.slice (some ⟨w.heap.size + 1, 0, none⟩) n n) n (List.replicate k V ++ List.replicate (n - k) 0)) (fun i _ => n - (intOf i).toNat)
  case atStart => exact ⟨0, Nat.zero_le _, rfl, q2, b2, d2, by simpa using o2⟩
  case round =>
    obtain ⟨k, hk, rfl, hq, hb, hd, ho⟩ := hrel
    clear q2 b2 d2 o2
    by_cases hlt : k < n
    · have c1 := hd.cell
      have f1 := ho.free k
      have e1 := ho.at k hlt
      have ho' := Lib.hid (ho.set k V)
      have hb' := Lib.hid (hb.far (p := ⟨w.heap.size + 1, k, none⟩) (show w.heap.size ≠ w.heap.size + 1 by omega) (.int .i64 V))
      have hd' := Lib.hid (hd.far (p := ⟨w.heap.size + 1, k, none⟩) (show m ≠ w.heap.size + 1 by omega) (.int .i64 V))
      have hq' := Lib.hid (hq.set (p := ⟨w.heap.size + 1, k, none⟩) (Nat.le_succ _) (.int .i64 V))
      clear hq hb hd ho
      go_wp2
      go_roundw
      case rel => exact ⟨k + 1, by omega, by go_num, hq'.out, hb'.out, hd'.out, by have h := ho'.out; rw [fill_const _ _ _ hlt] at h; exact h⟩
      case measure => simp [intOf]; omega
    · have c1 := hd.cell
      have c2 := hb.cell
      have f2 := hb.free
      have : k = n := by omega
      subst this
      have ho' := Lib.hid ho
      clear ho
      go_wp2
      refine bodyPost_ret (v := .agg #[.int .i64 W, .int .i64 H, .slice (some ⟨w.heap.size + 1, 0, none⟩) k k]) (by simp [results, Tryd.results48, go_sem, c2]) rfl ⟨_, rfl, ?_, (by repeat (first | exact Q.refl _ | assumption | refine Q.drewN ?_ _ | refine Q.drew ?_ | refine Q.alloc ?_ _ | refine Q.trans ?_ (by assumption) | refine Q.set ?_ (by first | exact Nat.le_refl _ | omega | (simp; done) | (simp; omega)) _))⟩
      have h := ho'.out
      simp only [Nat.sub_self, List.replicate_zero, List.append_nil] at h
      exact (((h.far (p := ⟨w.heap.size, 0, none⟩) (Nat.lt_succ_self _) _).far (p := ⟨w.heap.size, 1, none⟩) (Nat.lt_succ_self _) _).far (p := ⟨w.heap.size, 2, none⟩) (Nat.lt_succ_self _) _).mono (Nat.le_succ _)

theorem alive (w : World) : Calls Tryd.prog 21 #[] w fun e w' => e = .returned (.bool true) ∧ Q w w' := by
  go_enter Tryd.func21, Tryd.ntmps21
  go_wp2_with fail
  refine (newPicture 8 8 7 64 _ (by unfold Hid sideOk; omega) (by unfold Hid sideOk; omega) (by unfold Hid; omega) rfl (by omega)).mono ?_; rintro e w1 ⟨v, rfl, o1, q1⟩
  obtain ⟨A, c, rfl⟩ := o1.form
  have hfd : ∀ w : World, (Instr.field 58 (.agg #[.int .i64 8, .int .i64 8, .slice A 64 c]) 2).run Tryd.prog w = .ok (.slice A 64 c) w := fun _ => by kernel_rfl
  go_wp2_with fail
  go_ret
  exact ⟨rfl, q1⟩
end Go.Proofs.YtkdmhlbmhjolcaaDoor

/-
  What the laws of quality layers draw.
-/
import Derived.Test.YtkdmhlbmhjolcaaDoorDrawB
import Derived.Test.YtkdmhlbmhjolcaaDoorArr15
namespace Go.Proofs.YtkdmhlbmhjolcaaDoor
open Go.RowKit

theorem results_row_1 {P : Program} {fn : Func} {p a : Tmp} {ty : TypeId} (h : fn.results = #[.cell p ty, .tmp a]) (tmps : Array Value) (w : World) (g : Nat) (t : TypeId) (cs : Array Value) (fr : Nat × Nat) (d : TypeDesc)
    (hp : tmps.getD p undef = .pointer (some ⟨g, 0, none⟩)) (hg : w.heap[g]? = some (.cells cs t fr))
    (hu : P.underlying ty = some d) (hd : (match d with | .struct _ | .array _ _ => true | _ => false) = true) (hi : (P.info? ty).map (·.size) = some cs.size) :
    (results fn tmps).run P w = .ok (.tuple #[.agg cs, tmps.getD a undef]) w := by
  have hp' : tmps[p]?.getD undef = .pointer (some ⟨g, 0, none⟩) := by simpa using hp
  simp [results, h, hp', asAddr, run_loadVar_row w g t ty cs fr d hg hu hd hi, Sem.run_bind, Result.andThen]
theorem results_row_2 {P : Program} {fn : Func} {p a b : Tmp} {ty : TypeId} (h : fn.results = #[.cell p ty, .tmp a, .tmp b]) (tmps : Array Value) (w : World) (g : Nat) (t : TypeId) (cs : Array Value) (fr : Nat × Nat) (d : TypeDesc)
    (hp : tmps.getD p undef = .pointer (some ⟨g, 0, none⟩)) (hg : w.heap[g]? = some (.cells cs t fr))
    (hu : P.underlying ty = some d) (hd : (match d with | .struct _ | .array _ _ => true | _ => false) = true) (hi : (P.info? ty).map (·.size) = some cs.size) :
    (results fn tmps).run P w = .ok (.tuple #[.agg cs, tmps.getD a undef, tmps.getD b undef]) w := by
  have hp' : tmps[p]?.getD undef = .pointer (some ⟨g, 0, none⟩) := by simpa using hp
  simp [results, h, hp', asAddr, run_loadVar_row w g t ty cs fr d hg hu hd hi, Sem.run_bind, Result.andThen]
theorem results_rows_1 {P : Program} {fn : Func} {p q a : Tmp} {ty : TypeId} (h : fn.results = #[.cell p ty, .cell q ty, .tmp a]) (tmps : Array Value) (w : World) (g g' : Nat) (t t' : TypeId) (cs cs' : Array Value) (fr fr' : Nat × Nat) (d : TypeDesc)
    (hp : tmps.getD p undef = .pointer (some ⟨g, 0, none⟩)) (hg : w.heap[g]? = some (.cells cs t fr)) (hq : tmps.getD q undef = .pointer (some ⟨g', 0, none⟩)) (hg' : w.heap[g']? = some (.cells cs' t' fr'))
    (hu : P.underlying ty = some d) (hd : (match d with | .struct _ | .array _ _ => true | _ => false) = true) (hi : (P.info? ty).map (·.size) = some cs.size) (hi' : (P.info? ty).map (·.size) = some cs'.size) :
    (results fn tmps).run P w = .ok (.tuple #[.agg cs, .agg cs', tmps.getD a undef]) w := by
  have hp' : tmps[p]?.getD undef = .pointer (some ⟨g, 0, none⟩) := by simpa using hp
  have hq' : tmps[q]?.getD undef = .pointer (some ⟨g', 0, none⟩) := by simpa using hq
  simp [results, h, hp', hq', asAddr, run_loadVar_row w g t ty cs fr d hg hu hd hi, run_loadVar_row w g' t' ty cs' fr' d hg' hu hd hi', Sem.run_bind, Result.andThen]
theorem results_rows_2 {P : Program} {fn : Func} {p q a b : Tmp} {ty : TypeId} (h : fn.results = #[.cell p ty, .cell q ty, .tmp a, .tmp b]) (tmps : Array Value) (w : World) (g g' : Nat) (t t' : TypeId) (cs cs' : Array Value) (fr fr' : Nat × Nat) (d : TypeDesc)
    (hp : tmps.getD p undef = .pointer (some ⟨g, 0, none⟩)) (hg : w.heap[g]? = some (.cells cs t fr)) (hq : tmps.getD q undef = .pointer (some ⟨g', 0, none⟩)) (hg' : w.heap[g']? = some (.cells cs' t' fr'))
    (hu : P.underlying ty = some d) (hd : (match d with | .struct _ | .array _ _ => true | _ => false) = true) (hi : (P.info? ty).map (·.size) = some cs.size) (hi' : (P.info? ty).map (·.size) = some cs'.size) :
    (results fn tmps).run P w = .ok (.tuple #[.agg cs, .agg cs', tmps.getD a undef, tmps.getD b undef]) w := by
  have hp' : tmps[p]?.getD undef = .pointer (some ⟨g, 0, none⟩) := by simpa using hp
  have hq' : tmps[q]?.getD undef = .pointer (some ⟨g', 0, none⟩) := by simpa using hq
  simp [results, h, hp', hq', asAddr, run_loadVar_row w g t ty cs fr d hg hu hd hi, run_loadVar_row w g' t' ty cs' fr' d hg' hu hd hi', Sem.run_bind, Result.andThen]
theorem Dr.toQ {g : Nat} {a w w' : World} (h : Dr g w w') (hq : Q a w) (hr : a.heap.size ≤ g) : Q a w' := hq.grown h (fun k e => by cases e; exact hr)
set_option maxRecDepth 100000 in
set_option maxHeartbeats 2000000 in
theorem DrawCodeBlock (v : Value) (x : Option Addr × Nat × List Int) (w : World) (h : ArgBytes w v x) :
    Calls Tryd.prog 18 #[v] w fun e w' => ∃ (xs : List Int) (q : Int), e = .returned (.tuple #[.agg (arr xs), .int .i64 q]) ∧ xs.length = 16 ∧ bnd xs 5000 ∧ -1 ≤ q ∧ q ≤ 16 ∧ Q w w' := by
  have q0 : Q w (w.alloc (.cells (arr (List.replicate 16 0)) 22)) := (by repeat (first | exact Q.refl _ | assumption | refine Q.drewN ?_ _ | refine Q.drew ?_ | refine Q.alloc ?_ _ | refine Q.trans ?_ (by assumption) | refine Q.set ?_ (by first | exact Nat.le_refl _ | omega | (simp; done) | (simp; omega)) _))
  have h0 := h.q q0
  have bz := Bl.zero w
  go_enter Tryd.func18, Tryd.ntmps18
  go_wp2_with fail
  refine (openCode _ _ _ h0).mono ?_; rintro e w1 ⟨g, rfl, hg, r1, q1⟩
  rw [World.size_alloc] at hg
  replace bz := bz.q q1
  have QQ := q0.trans q1
  clear q0 q1 h0 h
  go_wp2_with fail
  refine (l20Block_255_12 _ _ _ r1 (by omega)).mono ?_; rintro e w2 ⟨xs, rfl, hxl, hxb, r2, g2⟩
  replace bz := bz.grown g2 (fun e => by have := Option.some.inj e; omega)
  replace QQ := Dr.toQ g2 QQ (by omega)
  clear g2 r1
  go_wp2_with fail
  refine (l20Q _ _ _ r2 (by omega)).mono ?_; rintro e w3 ⟨q, rfl, k1, k2, r3, g3⟩
  replace bz := bz.grown g3 (fun e => by have := Option.some.inj e; omega)
  replace QQ := Dr.toQ g3 QQ (by omega)
  clear g3 r2 r3
  go_wp2_with (refine wpList_store_arr rfl _ _ rfl _ rfl _ _ rfl (by first | assumption | rfl) (by assumption) ?_; intro w9 b9 g9 s9)
  refine bodyPost_ret (v := .tuple #[.agg (arr _), _]) (results_row_1 (by rfl) _ _ _ _ _ _ _ (by rfl) (Bl.blk b9) Tryd.underlying22 rfl (by rw [arr_size, hxl]; exact info_arr)) rfl ⟨xs, q, rfl, hxl, hxb, k1, k2, QQ.grown g9 (fun k e => by have := Option.some.inj e; omega)⟩
set_option maxRecDepth 100000 in
set_option maxHeartbeats 2000000 in
theorem DrawTwoLayers (v : Value) (x : Option Addr × Nat × List Int) (w : World) (h : ArgBytes w v x) :
    Calls Tryd.prog 27 #[v] w fun e w' => ∃ (xs : List Int) (q f : Int), e = .returned (.tuple #[.agg (arr xs), .int .i64 q, .int .i64 f]) ∧ xs.length = 16 ∧ bnd xs 5000 ∧ (-1 ≤ q ∧ q ≤ 16) ∧ (0 ≤ f ∧ f ≤ 20) ∧ Q w w' := by
  have q0 : Q w (w.alloc (.cells (arr (List.replicate 16 0)) 22)) := (by repeat (first | exact Q.refl _ | assumption | refine Q.drewN ?_ _ | refine Q.drew ?_ | refine Q.alloc ?_ _ | refine Q.trans ?_ (by assumption) | refine Q.set ?_ (by first | exact Nat.le_refl _ | omega | (simp; done) | (simp; omega)) _))
  have h0 := h.q q0
  have bz := Bl.zero w
  go_enter Tryd.func27, Tryd.ntmps27
  go_wp2_with fail
  refine (openCode _ _ _ h0).mono ?_; rintro e w1 ⟨g, rfl, hg, r1, q1⟩
  rw [World.size_alloc] at hg
  replace bz := bz.q q1
  have QQ := q0.trans q1
  clear q0 q1 h0 h
  go_wp2_with fail
  refine (l20Q _ _ _ r1 (by omega)).mono ?_; rintro e w2 ⟨q, rfl, k1, k2, r2, g2⟩
  replace bz := bz.grown g2 (fun e => by have := Option.some.inj e; omega)
  replace QQ := Dr.toQ g2 QQ (by omega)
  clear g2 r1
  go_wp2_with fail
  refine (l20Block_255_12 _ _ _ r2 (by omega)).mono ?_; rintro e w3 ⟨xs, rfl, hxl, hxb, r3, g3⟩
  replace bz := bz.grown g3 (fun e => by have := Option.some.inj e; omega)
  replace QQ := Dr.toQ g3 QQ (by omega)
  clear g3 r2
  go_wp2_with fail
  all_goals
    refine (pick _ _ _ _ r3 (by omega) (by omega) (by omega)).mono ?_; rintro e w4 ⟨y, rfl, y1, y2, r4, g4⟩
    replace bz := bz.grown g4 (fun e => by have := Option.some.inj e; omega)
    replace QQ := Dr.toQ g4 QQ (by omega)
    clear g4 r3
    go_wp2_with fail
    refine (pick _ _ _ _ r4 (by omega) (by omega) (by omega)).mono ?_; rintro e w5 ⟨z, rfl, z1, z2, r5, g5⟩
    replace bz := bz.grown g5 (fun e => by have := Option.some.inj e; omega)
    replace QQ := Dr.toQ g5 QQ (by omega)
    clear g5 r4 r5
    obtain ⟨d, hd⟩ : ∃ d, z.tdiv 11 = d := ⟨_, rfl⟩
    have hd2 : 0 ≤ d ∧ d ≤ 1 := by
      rw [← hd, Int.tdiv_eq_ediv_of_nonneg z1]; omega
    go_wp2_with (refine wpList_store_arr rfl _ _ rfl _ rfl _ _ rfl (by first | assumption | rfl) (by assumption) ?_; intro w9 b9 g9 s9)
    refine bodyPost_ret (v := .tuple #[.agg (arr _), _, _]) (results_row_2 (by rfl) _ _ _ _ _ _ _ (by rfl) (Bl.blk b9) Tryd.underlying22 rfl (by rw [arr_size, hxl]; exact info_arr)) rfl ⟨xs, q, y + d, by first | rfl | rw [hd], hxl, hxb, ⟨k1, k2⟩, ⟨by omega, by omega⟩, QQ.grown g9 (fun k e => by have := Option.some.inj e; omega)⟩
end Go.Proofs.YtkdmhlbmhjolcaaDoor

/-
  Texts of one proof, joined: part 4. No condition.
-/
import Derived.Test.YtakokckokchacaaNe3
import Derived.Test.YtakokckokchacaaProg
import Derived.Shelf.SortM.Plain
import Derived.Shelf.SortM.SortNone
import Derived.Shelf.SlicesG.CompactS
import Derived.Ground.SlgmProg
import Derived.Ground.SlgnProg
import Derived.Sort.OwnSorted
import Derived.Lib.OwnBridge
import Derived.Sort.Walk0
namespace Go.Proofs.Ytakokckokchacaa
open Go.RowKit
set_option linter.unusedVariables false
set_option maxRecDepth 20000
variable {B : Nat} {w0 : World} {F : List Ch} {A A2 : Option Addr} {n c c2 : Nat}
def maxL : List Nat → Nat
  | [] => 0
  | x :: r => max x (maxL r)
theorem maxL_snoc : ∀ (l : List Nat) (x : Nat), maxL (l ++ [x]) = max (maxL l) x
  | [], x => by simp [maxL]
  | y :: r, x => by simp only [List.cons_append, maxL, maxL_snoc r x]; omega
theorem maxL_le {m : Nat} : ∀ {l : List Nat}, (∀ x ∈ l, x ≤ m) → maxL l ≤ m
  | [], _ => Nat.zero_le _
  | y :: r, h => by
    have h1 := h y (by simp)
    have h2 := maxL_le (l := r) fun x hx => h x (by simp [hx])
    simp only [maxL]; omega
/-- the depths of the queries that lie there, behind more steps -/
def depS : List Nat → List StepC → Option (List Nat)
  | D, [] => some D
  | D, s :: r => if rightS s ∧ takesS s ≤ D.length then depS (D.take (D.length - (takesS s).toNat) ++ [maxL (D.drop (D.length - (takesS s).toNat)) + 1]) r else none
def depthQ (q : List StepC) : Int × Int :=
  if 1000 < q.length then (0, 6) else match depS [] q with
    | none => (0, 10)
    | some D => if D.length = 1 then (((D.getD 0 0 : Nat) : Int), 0) else (0, 10)
theorem depthQ_a {q : List StepC} (h : 1000 < q.length) : depthQ q = (0, 6) := if_pos h
theorem depthQ_n {q : List StepC} (h : ¬ 1000 < q.length) (h2 : depS [] q = none) : depthQ q = (0, 10) := by unfold depthQ; rw [if_neg h, h2]
theorem depthQ_m {q : List StepC} {D : List Nat} (h : ¬ 1000 < q.length) (h2 : depS [] q = some D) (h3 : ¬ D.length = 1) : depthQ q = (0, 10) := by unfold depthQ; rw [if_neg h, h2]; simp only; rw [if_neg h3]
theorem depthQ_1 {q : List StepC} {D : List Nat} (h : ¬ 1000 < q.length) (h2 : depS [] q = some D) (h3 : D.length = 1) : depthQ q = (((D.getD 0 0 : Nat) : Int), 0) := by unfold depthQ; rw [if_neg h, h2]; simp only; rw [if_pos h3]
theorem depS_cons {D : List Nat} {s : StepC} {r : List StepC} : depS D (s :: r) = if rightS s ∧ takesS s ≤ D.length then depS (D.take (D.length - (takesS s).toNat) ++ [maxL (D.drop (D.length - (takesS s).toNat)) + 1]) r else none := rfl
theorem natv_drop (l : List Nat) (k : Nat) : (natv l).drop (k * 1) = natv (l.drop k) := by rw [Nat.mul_one]; simp [natv, List.map_drop]
theorem natv_take (l : List Nat) (k : Nat) : (natv l).take (k * 1) = natv (l.take k) := by rw [Nat.mul_one]; simp [natv, List.map_take]
theorem natv_snoc (l : List Nat) (x : Nat) : natv l ++ [.int .i64 (x : Int)] = natv (l ++ [x]) := by simp [natv]
theorem mem_take_le {m : Nat} {l : List Nat} (h : ∀ x ∈ l, x ≤ m) (k : Nat) : ∀ x ∈ l.take k, x ≤ m := fun x hx => h x (List.mem_of_mem_take hx)
theorem mem_drop_le {m : Nat} {l : List Nat} (h : ∀ x ∈ l, x ≤ m) (k : Nat) : ∀ x ∈ l.drop k, x ≤ m := fun x hx => h x (List.mem_of_mem_drop hx)
theorem dep_le {m k : Nat} {D : List Nat} {i : Nat} (h : ∀ x ∈ D, x ≤ k) (hm : m ≤ k) : ∀ x ∈ D.take i ++ [m + 1], x ≤ k + 1 := fun x hx => by
  rcases List.mem_append.1 hx with hx | hx
  · have := mem_take_le h i x hx; omega
  · rw [List.mem_singleton] at hx; omega
theorem depth_d {q : List StepC} (hb : Bor B w0 F 5 (.slice A q.length c) q.length (stepsV q)) :
    Does Try.prog B w0 23 [.slice A q.length c] F (fun r L => r = .tuple #[.int .i64 (depthQ q).1, .int .i64 (depthQ q).2] ∧ L = F) := by
  refine fn_walk Try.func23 63 rfl rfl rfl [(0, .slice A q.length c)] ⟨⟨rfl, rfl⟩, trivial⟩ ?_
  refine vc_seq ?_
  refine vc_region ?_
  refine vl_det (det_assign rfl) rfl ?_
  refine vl_det (det_assign rfl) rfl ?_
  refine vl_end [(0, _)] ⟨rfl, trivial⟩ ?_
  refine then_next ?_
  refine vc_seq ?_
  refine vc_seq ?_
  refine vc_region ?_
  refine vl_det (det_move rfl) rfl ?_
  refine vl_det (det_len_sl Try.underlying22 rfl) rfl ?_
  refine vl_det (det_gtr rfl rfl) rfl ?_
  refine vl_end [(0, _), (13, _)] ⟨rfl, rfl, trivial⟩ ?_
  refine then_next ?_
  refine vc_decideU rfl (fun h13 => ?_) (fun h13 => ?_)
  · skip
    rw [depthQ_a (by omega)]
    refine vc_seq ?_
    refine vc_region ?_
    refine vl_det (det_assign rfl) rfl ?_
    refine vl_det (det_assign rfl) rfl ?_
    refine vl_end [(2, _), (3, _)] ⟨rfl, rfl, trivial⟩ ?_
    refine then_next ?_
    refine vc_ret ?_
    refine then_ret ?_
    refine ret2 rfl rfl rfl ?_
    exact ⟨rfl, rfl⟩
  · skip
    have hq : ¬ 1000 < q.length := by omega
    have hQ0 := @depthQ_n q hq
    have hQ1 := @depthQ_1 q
    have hQ2 := @depthQ_m q
    obtain ⟨G, hG⟩ : ∃ G, G = depS [] q := ⟨_, rfl⟩
    rw [← hG] at hQ0
    simp only [← hG] at hQ1 hQ2
    refine vc_skip ?_
    refine then_next ?_
    refine vc_seq ?_
    refine vc_nil_row 3 1 none ?_
    refine vc_region ?_
    refine vl_det (det_assign rfl) rfl ?_
    refine vl_end [(0, _), (4, _)] ⟨rfl, rfl, trivial⟩ ?_
    refine then_next ?_
    refine vc_seq ?_
    refine vc_seq ?_
    refine vc_region ?_
    refine vl_det (det_move rfl) rfl ?_
    refine vl_det (det_len_sl Try.underlying22 rfl) rfl ?_
    refine vl_det (det_move rfl) rfl ?_
    refine vl_end [(4, _), (14, _), (15, _), (16, _)] ⟨rfl, rfl, rfl, rfl, trivial⟩ ?_
    refine then_next ?_
    refine vc_block ?_
    refine vc_loopJ (fun zf zL zm => ∃ (k : Nat) (D : List Nat) (A4 : Option Addr) (c4 : Nat), (k ≤ q.length ∧ depS D (q.drop k) = G ∧ D.length ≤ k ∧ (∀ x ∈ D, x ≤ k)) ∧ q.length - k = zm ∧ Sub zf [(4, .slice A4 D.length c4), (14, .slice A q.length c), (15, .int .i64 q.length), (16, .int .i64 k)] ∧ Wk zL (.own 3 1 A4 D.length c4 (natv D) :: F)) _ ⟨0, [], none, 0, ⟨Nat.zero_le _, hG.symm, Nat.zero_le _, fun x hx => absurd hx (by simp)⟩, rfl, ⟨(by first | rfl | exact int_to (by omega) | exact sl_to (by omega)), (by first | rfl | exact int_to (by omega) | exact sl_to (by omega)), (by first | rfl | exact int_to (by omega) | exact sl_to (by omega)), (by first | rfl | exact int_to (by omega) | exact sl_to (by omega)), trivial⟩, .refl _⟩ ?_
    rintro _ _ _ ⟨k, D, A4, c4, ⟨hk, hS, hDl, hDx⟩, rfl, hs, hp⟩
    refine vc_weaken _ hs (vc_wk hp ?_)
    clear hs hp
    refine vc_seq ?_
    refine vc_region ?_
    refine vl_det (det_lss rfl rfl) rfl ?_
    refine vl_end [(4, _), (14, _), (15, _), (16, _), (17, _)] ⟨rfl, rfl, rfl, rfl, rfl, trivial⟩ ?_
    refine then_next ?_
    refine vc_seq ?_
    refine vc_decideU rfl (fun h17 => ?_) (fun h17 => ?_)
    · skip
      rw [drop_getD (show k < q.length by omega) sNil, depS_cons] at hS
      have hone := step_one (q.getD k sNil)
      have hcl := step_cells (q := q) (k := k) (by omega)
      obtain ⟨s, hs⟩ : ∃ s, s = q.getD k sNil := ⟨_, rfl⟩
      rw [← hs] at hS hone hcl
      refine vc_skip ?_
      refine then_next ?_
      refine vc_seq ?_
      refine vc_block ?_
      refine vc_seq ?_
      refine vc_region ?_
      refine vl_det (det_indexAddr (size := 5) Try.underlying22 (by kernel_rfl) rfl rfl rfl (by omega) (by first | (exact Bor.own (by repeat (first | exact List.Mem.head _ | apply List.Mem.tail))) | (repeat (first | assumption | apply Bor.cons)))) rfl ?_
      refine vl_det (det_load_rowa 5 (by kernel_rfl) rfl (by first | (exact Bor.own (by repeat (first | exact List.Mem.head _ | apply List.Mem.tail))) | (repeat (first | assumption | apply Bor.cons))) (by omega) (StepC.cells s) hcl rfl) rfl ?_
      refine vl_eff (eff_alloc_z (zv := (.agg #[.int .i64 0, .int .i64 0, .string ⟨#[]⟩, .int .u64 0, .int .u64 0])) (by kernel_rfl) rfl) rfl ?_
      rintro _ _ ⟨g6, rfl, rfl⟩
      refine vl_eff0 (eff_store_whole 5 (by kernel_rfl) rfl rfl (by first | exact bv_one _ | exact strs_one _ | exact ints_one _ _ | (simp; done) | (simp [Value.oneCell']; done) | assumption) (by repeat (first | exact .hd | apply Sel.tl)) (by first | rfl | (simp; omega) | (simp [*]; done)) (by first | rfl | (simp; omega) | (simp [*]; done))) ?_
      rintro _ _ rfl
      refine vl_end [(4, _), (6, _), (14, _), (15, _), (16, _)] ⟨rfl, rfl, rfl, rfl, rfl, trivial⟩ ?_
      refine then_next ?_
      refine vc_seq ?_
      refine vc_region ?_
      refine vl_det (det_load_whole 5 (by kernel_rfl) rfl (by repeat (first | exact .hd | apply Sel.tl)) (by first | rfl | (simp; omega) | (simp [*]; done))) rfl ?_
      refine vl_call co40 rfl (takes_d s) rfl ?_
      rintro _ _ ⟨rfl, hLL⟩
      obtain rfl := hLL.symm
      refine vl_det (det_assign rfl) rfl ?_
      refine vl_end [(4, _), (6, _), (7, _), (14, _), (15, _), (16, _)] ⟨rfl, rfl, rfl, rfl, rfl, rfl, trivial⟩ ?_
      refine then_next ?_
      refine vc_seq ?_
      refine vc_seq ?_
      refine vc_region ?_
      refine vl_cut 9 30 [(4, _), (7, _), (14, _), (15, _), (16, _)] (¬ rightS s ∨ (D.length : Int) < takesS s) ⟨rfl, rfl, rfl, rfl, rfl, trivial⟩ ?_ ?_
      · skip
        refine vl_det (det_load_whole 5 (by kernel_rfl) rfl (by repeat (first | exact .hd | apply Sel.tl)) (by first | rfl | (simp; omega) | (simp [*]; done))) rfl ?_
        refine vl_call co41 rfl (right_d s) rfl ?_
        rintro _ _ ⟨rfl, hLL⟩
        obtain rfl := hLL.symm
        refine vl_det (det_notd rfl) rfl ?_
        refine vl_det (det_move rfl) rfl ?_
        refine vl_guardn rfl rfl rfl (fun h25 => ?_) (fun h25 => ?_)
        · skip
          refine vl_det (det_move rfl) rfl ?_
          refine vl_guard_t rfl rfl ?_
          refine vl_det (det_move rfl) rfl ?_
          refine vl_guard_t rfl rfl ?_
          refine vl_det (det_len_sl Try.underlying79 rfl) rfl ?_
          refine vl_guard_t rfl rfl ?_
          refine vl_det (det_gtr rfl rfl) rfl ?_
          refine vl_det (det_pick_f rfl rfl) rfl ?_
          exact vl_cut_end ⟨rfl, rfl, rfl, rfl, rfl, trivial⟩ (by first | rfl | exact bool_to_t (by first | exact .inl (by assumption) | exact ⟨fun h => .inr h, fun h => h.elim (fun q => absurd (Classical.not_not.1 (by assumption)) q) id⟩) | exact bool_to_f (by first | exact .inl (by assumption) | exact ⟨fun h => .inr h, fun h => h.elim (fun q => absurd (Classical.not_not.1 (by assumption)) q) id⟩) | exact bool_to (by first | exact .inl (by assumption) | exact ⟨fun h => .inr h, fun h => h.elim (fun q => absurd (Classical.not_not.1 (by assumption)) q) id⟩) | exact bool_to_b (by first | exact .inl (by assumption) | exact ⟨fun h => .inr h, fun h => h.elim (fun q => absurd (Classical.not_not.1 (by assumption)) q) id⟩))
        · skip
          refine vl_guard_f rfl rfl rfl rfl ?_
          refine vl_guard_f rfl rfl rfl rfl ?_
          refine vl_guard_f rfl rfl rfl rfl ?_
          refine vl_det (det_pick_t rfl rfl) rfl ?_
          exact vl_cut_end ⟨rfl, rfl, rfl, rfl, rfl, trivial⟩ (by first | rfl | exact bool_to_t (by first | exact .inl (by assumption) | exact ⟨fun h => .inr h, fun h => h.elim (fun q => absurd (Classical.not_not.1 (by assumption)) q) id⟩) | exact bool_to_f (by first | exact .inl (by assumption) | exact ⟨fun h => .inr h, fun h => h.elim (fun q => absurd (Classical.not_not.1 (by assumption)) q) id⟩) | exact bool_to (by first | exact .inl (by assumption) | exact ⟨fun h => .inr h, fun h => h.elim (fun q => absurd (Classical.not_not.1 (by assumption)) q) id⟩) | exact bool_to_b (by first | exact .inl (by assumption) | exact ⟨fun h => .inr h, fun h => h.elim (fun q => absurd (Classical.not_not.1 (by assumption)) q) id⟩))
      · skip
        refine vl_end [(4, _), (7, _), (14, _), (15, _), (16, _), (30, _)] ⟨rfl, rfl, rfl, rfl, rfl, rfl, trivial⟩ ?_
        refine then_next ?_
        refine vc_decideU rfl (fun h30 => ?_) (fun h30 => ?_)
        · skip
          rw [if_neg (fun h => h30.elim (fun q => q h.1) fun q => by omega)] at hS
          rw [hQ0 hS.symm]
          refine vc_seq ?_
          refine vc_region ?_
          refine vl_det (det_assign rfl) rfl ?_
          refine vl_det (det_assign rfl) rfl ?_
          refine vl_end [(2, _), (3, _)] ⟨rfl, rfl, trivial⟩ ?_
          refine then_next ?_
          refine vc_ret ?_
          refine then_ret ?_
          refine in_ret ?_
          refine then_ret ?_
          refine loop_ret ?_
          refine in_ret ?_
          refine then_ret ?_
          refine ret_wk (L' := F) (.skip (.skip (.refl _))) ?_
          refine ret2 rfl rfl rfl ?_
          exact ⟨rfl, rfl⟩
        · skip
          have hrs : rightS s := Classical.byContradiction fun h => h30 (.inl h)
          have htk : takesS s ≤ D.length := by have := fun h => h30 (.inr h); omega
          have htg := takesS_ge hrs
          rw [if_pos ⟨hrs, htk⟩] at hS
          obtain ⟨i, hi⟩ : ∃ i, i = D.length - (takesS s).toNat := ⟨_, rfl⟩
          rw [← hi] at hS
          have hiT : (D.length : Int) - takesS s = i := by omega
          have hiD : i ≤ D.length := by omega
          have hbd : ∀ {L : List Ch}, .own 3 1 A4 D.length c4 (natv D) ∈ L → Bor B w0 L 1 (.slice (if c4 = i then A4 else A4.map (·.add (i * 1))) (D.length - i) (c4 - i)) (D.length - i) (natv (D.drop i)) := fun h => by
            have := (Bor.own h).cut (B := B) (w0 := w0) hiD; rwa [natv_drop] at this
          have hdl : (D.drop i).length = D.length - i := List.length_drop
          refine vc_skip ?_
          refine then_next ?_
          refine vc_seq ?_
          refine vc_region ?_
          refine vl_det (det_assign rfl) rfl ?_
          refine vl_end [(4, _), (7, _), (8, _), (14, _), (15, _), (16, _)] ⟨rfl, rfl, rfl, rfl, rfl, rfl, trivial⟩ ?_
          refine then_next ?_
          refine vc_seq ?_
          refine vc_seq ?_
          refine vc_region ?_
          refine vl_det (det_move rfl) rfl ?_
          refine vl_det (det_move rfl) rfl ?_
          refine vl_det (det_len_sl Try.underlying79 rfl) rfl ?_
          refine vl_det (det_move rfl) rfl ?_
          refine vl_det (det_sub rfl rfl (r := (i : Int)) ((w_i64 (by omega) (by omega)).trans hiT)) rfl ?_
          refine vl_det (det_slice_lo (i := i) (size := 1) Try.underlying79 (by kernel_rfl) rfl rfl rfl hiD) rfl ?_
          refine vl_det (det_len_sl Try.underlying79 rfl) rfl ?_
          refine vl_det (det_move rfl) rfl ?_
          refine vl_end [(4, _), (7, _), (8, _), (14, _), (15, _), (16, _), (36, _), (37, _), (38, _)] ⟨rfl, rfl, rfl, rfl, rfl, rfl, rfl, rfl, rfl, trivial⟩ ?_
          refine then_next ?_
          refine vc_block ?_
          refine vc_loopJ (fun zf zL zm => ∃ (j m : Nat), (j ≤ D.length - i ∧ m = maxL ((D.drop i).take j) ∧ m ≤ k) ∧ D.length - i - j = zm ∧ Sub zf [(4, .slice A4 D.length c4), (7, .int .i64 (takesS s)), (8, .int .i64 m), (14, .slice A q.length c), (15, .int .i64 q.length), (16, .int .i64 k), (36, .slice (if c4 = i then A4 else A4.map (·.add (i * 1))) (D.length - i) (c4 - i)), (37, .int .i64 ((D.length - i : Nat) : Int)), (38, .int .i64 j)] ∧ Wk zL (.own 3 1 A4 D.length c4 (natv D) :: F)) _ ⟨0, 0, ⟨Nat.zero_le _, rfl, Nat.zero_le _⟩, rfl, ⟨(by first | rfl | exact int_to (by omega) | exact sl_to (by omega)), (by first | rfl | exact int_to (by omega) | exact sl_to (by omega)), (by first | rfl | exact int_to (by omega) | exact sl_to (by omega)), (by first | rfl | exact int_to (by omega) | exact sl_to (by omega)), (by first | rfl | exact int_to (by omega) | exact sl_to (by omega)), (by first | rfl | exact int_to (by omega) | exact sl_to (by omega)), (by first | rfl | exact int_to (by omega) | exact sl_to (by omega)), (by first | rfl | exact int_to (by omega) | exact sl_to (by omega)), (by first | rfl | exact int_to (by omega) | exact sl_to (by omega)), trivial⟩, .skip (.refl _)⟩ ?_
          rintro _ _ _ ⟨j, m, ⟨hj, hm, hmk⟩, rfl, hs, hp⟩
          refine vc_weaken _ hs (vc_wk hp ?_)
          clear hs hp
          refine vc_seq ?_
          refine vc_region ?_
          refine vl_det (det_lss rfl rfl) rfl ?_
          refine vl_end [(4, _), (7, _), (8, _), (14, _), (15, _), (16, _), (36, _), (37, _), (38, _), (39, _)] ⟨rfl, rfl, rfl, rfl, rfl, rfl, rfl, rfl, rfl, rfl, trivial⟩ ?_
          refine then_next ?_
          refine vc_seq ?_
          refine vc_decideU rfl (fun h39 => ?_) (fun h39 => ?_)
          · skip
            have hxl := mem_drop_le hDx i _ (getD_mem (show j < (D.drop i).length by omega) 0)
            have hsn : (D.drop i).take (j + 1) = (D.drop i).take j ++ [(D.drop i).getD j 0] := take_getD (by omega) 0
            refine vc_skip ?_
            refine then_next ?_
            refine vc_seq ?_
            refine vc_block ?_
            refine vc_seq ?_
            refine vc_region ?_
            refine vl_det (det_indexAddr (size := 1) Try.underlying79 (by kernel_rfl) rfl rfl rfl (by omega) (hbd (.head _))) rfl ?_
            refine vl_det (det_load_row (by kernel_rfl) rfl (hbd (.head _)) (by omega) (natv_get (l := D.drop i) (k := j) (by omega))) rfl ?_
            refine vl_det (det_assign rfl) rfl ?_
            refine vl_end [(4, _), (7, _), (8, _), (10, _), (14, _), (15, _), (16, _), (36, _), (37, _), (38, _)] ⟨rfl, rfl, rfl, rfl, rfl, rfl, rfl, rfl, rfl, rfl, trivial⟩ ?_
            refine then_next ?_
            refine vc_region ?_
            refine vl_det (det_move rfl) rfl ?_
            refine vl_det (det_move rfl) rfl ?_
            refine vl_det (det_max rfl rfl) rfl ?_
            refine vl_det (det_assign rfl) rfl ?_
            refine vl_end [(4, _), (7, _), (8, _), (14, _), (15, _), (16, _), (36, _), (37, _), (38, _)] ⟨rfl, rfl, rfl, rfl, rfl, rfl, rfl, rfl, rfl, trivial⟩ ?_
            refine in_normal ?_
            refine then_next ?_
            refine vc_region ?_
            refine vl_det (det_add rfl rfl (w_i64 (by omega) (by omega))) rfl ?_
            refine vl_det (det_move rfl) rfl ?_
            refine vl_end [(4, _), (7, _), (8, _), (14, _), (15, _), (16, _), (36, _), (37, _), (38, _)] ⟨rfl, rfl, rfl, rfl, rfl, rfl, rfl, rfl, rfl, trivial⟩ ?_
            refine in_loop_ ⟨_, by omega, j + 1, max m ((D.drop i).getD j 0), ⟨by omega, by rw [hsn, maxL_snoc, hm], by omega⟩, rfl, ⟨(by first | rfl | exact int_to (by omega) | exact sl_to (by omega)), (by first | rfl | exact int_to (by omega) | exact sl_to (by omega)), (by first | rfl | exact int_to (by omega) | exact sl_to (by omega)), (by first | rfl | exact int_to (by omega) | exact sl_to (by omega)), (by first | rfl | exact int_to (by omega) | exact sl_to (by omega)), (by first | rfl | exact int_to (by omega) | exact sl_to (by omega)), (by first | rfl | exact int_to (by omega) | exact sl_to (by omega)), (by first | rfl | exact int_to (by omega) | exact sl_to (by omega)), (by first | rfl | exact int_to (by omega) | exact sl_to (by omega)), trivial⟩, .refl _⟩
          · skip
            obtain rfl : j = D.length - i := by omega
            rw [List.take_of_length_le (by omega)] at hm
            rw [← hm] at hS
            refine vc_exit ?_
            refine then_exit ?_
            refine loop_exit ?_
            refine in_eq ?_
            refine then_next ?_
            refine vc_bor (Bor.own (B := B) (w0 := w0) (.head _)) fun hcap _ => ?_
            refine vc_region ?_
            refine vl_det (det_move rfl) rfl ?_
            refine vl_det (det_move rfl) rfl ?_
            refine vl_det (det_len_sl Try.underlying79 rfl) rfl ?_
            refine vl_det (det_move rfl) rfl ?_
            refine vl_det (det_sub rfl rfl (r := (i : Int)) ((w_i64 (by omega) (by omega)).trans hiT)) rfl ?_
            refine vl_det (det_slice_hi (i := i) (size := 1) Try.underlying79 (by kernel_rfl) rfl rfl rfl (by omega)) rfl ?_
            refine vl_det (det_move rfl) rfl ?_
            refine vl_det (det_add rfl rfl (w_i64 (by omega) (by omega))) rfl ?_
            refine vl_cut_row i (by repeat (first | exact .hd | apply Sel.tl)) hiD ?_
            rw [natv_take]
            refine vl_push slT79 rfl rfl rfl rfl rfl (fun _ => rfl) (by repeat (first | exact .hd | apply Sel.tl)) (by omega) (by omega) ?_
            intro _ A55 c55
            refine vl_det (det_assign rfl) rfl ?_
            refine vl_end [(4, _), (14, _), (15, _), (16, _)] ⟨rfl, rfl, rfl, rfl, trivial⟩ ?_
            refine in_normal ?_
            refine then_next ?_
            refine vc_region ?_
            refine vl_det (det_add rfl rfl (w_i64 (by omega) (by omega))) rfl ?_
            refine vl_det (det_move rfl) rfl ?_
            refine vl_end [(4, _), (14, _), (15, _), (16, _)] ⟨rfl, rfl, rfl, rfl, trivial⟩ ?_
            have hel : i + 1 = (D.take i ++ [m + 1]).length := by rw [List.length_append, List.length_take]; simp; omega
            refine in_loop_ ⟨_, by omega, k + 1, D.take i ++ [m + 1], A55, c55, ⟨by omega, hS, by omega, dep_le hDx hmk⟩, rfl, ⟨(by first | rfl | exact int_to (by omega) | exact sl_to (by omega)), (by first | rfl | exact int_to (by omega) | exact sl_to (by omega)), (by first | rfl | exact int_to (by omega) | exact sl_to (by omega)), (by first | rfl | exact int_to (by omega) | exact sl_to (by omega)), trivial⟩, wk_own hel (natv_snoc (D.take i) (m + 1)) (.refl _)⟩
    · skip
      rw [List.drop_of_length_le (by omega), depS] at hS
      refine vc_exit ?_
      refine then_exit ?_
      refine loop_exit ?_
      refine in_eq ?_
      refine then_next ?_
      refine vc_seq ?_
      refine vc_seq ?_
      refine vc_region ?_
      refine vl_det (det_move rfl) rfl ?_
      refine vl_det (det_len_sl Try.underlying79 rfl) rfl ?_
      refine vl_det (det_neq rfl rfl) rfl ?_
      refine vl_end [(4, _), (59, _)] ⟨rfl, rfl, trivial⟩ ?_
      refine then_next ?_
      refine vc_decideU rfl (fun h59 => ?_) (fun h59 => ?_)
      · skip
        rw [hQ2 hq hS.symm (by omega)]
        refine vc_seq ?_
        refine vc_region ?_
        refine vl_det (det_assign rfl) rfl ?_
        refine vl_det (det_assign rfl) rfl ?_
        refine vl_end [(2, _), (3, _)] ⟨rfl, rfl, trivial⟩ ?_
        refine then_next ?_
        refine vc_ret ?_
        refine then_ret ?_
        refine ret_wk (L' := F) (.skip (.refl _)) ?_
        refine ret2 rfl rfl rfl ?_
        exact ⟨rfl, rfl⟩
      · skip
        rw [hQ1 hq hS.symm (by omega)]
        refine vc_skip ?_
        refine then_next ?_
        refine vc_seq ?_
        refine vc_region ?_
        refine vl_det (det_move rfl) rfl ?_
        refine vl_det (det_indexAddr (i := 0) (size := 1) Try.underlying79 (by kernel_rfl) rfl rfl rfl (by omega) (by first | (exact Bor.own (by repeat (first | exact List.Mem.head _ | apply List.Mem.tail))) | (repeat (first | assumption | apply Bor.cons)))) rfl ?_
        refine vl_det (det_load_row (by kernel_rfl) rfl (by first | (exact Bor.own (by repeat (first | exact List.Mem.head _ | apply List.Mem.tail))) | (repeat (first | assumption | apply Bor.cons))) (by omega) (natv_get (l := D) (k := 0) (by omega))) rfl ?_
        refine vl_det (det_assign rfl) rfl ?_
        refine vl_det (det_assign rfl) rfl ?_
        refine vl_end [(2, _), (3, _)] ⟨rfl, rfl, trivial⟩ ?_
        refine then_next ?_
        refine vc_ret ?_
        refine ret_wk (L' := F) (.skip (.refl _)) ?_
        refine ret2 rfl rfl rfl ?_
        exact ⟨rfl, rfl⟩
/-- may a query be? -/
def checkQ (q : List StepC) : Int := if (depthQ q).2 = 0 ∧ 64 < (depthQ q).1 then 11 else (depthQ q).2
theorem check_d {q : List StepC} (hb : Bor B w0 F 5 (.slice A q.length c) q.length (stepsV q)) :
    Does Try.prog B w0 16 [.slice A q.length c] F (fun r L => r = .int .i64 (checkQ q) ∧ L = F) := by
  refine fn_walk Try.func16 17 rfl rfl rfl [(0, .slice A q.length c)] ⟨⟨rfl, rfl⟩, trivial⟩ ?_
  refine vc_seq ?_
  refine vc_region ?_
  refine vl_det (det_assign rfl) rfl ?_
  refine vl_end [(0, _)] ⟨rfl, trivial⟩ ?_
  refine then_next ?_
  refine vc_seq ?_
  refine vc_region ?_
  refine vl_det (det_move rfl) rfl ?_
  refine vl_call co23 rfl (depth_d (by first | (exact Bor.own (by repeat (first | exact List.Mem.head _ | apply List.Mem.tail))) | (repeat (first | assumption | apply Bor.cons)))) rfl ?_
  rintro _ _ ⟨rfl, hLL⟩
  obtain rfl := hLL.symm
  refine vl_det (det_move rfl) rfl ?_
  refine vl_det (det_extract rfl rfl) rfl ?_
  refine vl_det (det_extract rfl rfl) rfl ?_
  refine vl_det (det_assign rfl) rfl ?_
  refine vl_det (det_assign rfl) rfl ?_
  refine vl_end [(3, _), (4, _)] ⟨rfl, rfl, trivial⟩ ?_
  refine then_next ?_
  refine vc_seq ?_
  refine vc_seq ?_
  refine vc_region ?_
  refine vl_cut 6 15 [(4, _)] ((depthQ q).2 = 0 ∧ 64 < (depthQ q).1) ⟨rfl, trivial⟩ ?_ ?_
  · skip
    refine vl_det (det_move rfl) rfl ?_
    refine vl_det (det_eql rfl rfl) rfl ?_
    refine vl_det (det_move rfl) rfl ?_
    refine vl_guardp rfl rfl rfl (fun h12 => ?_) (fun h12 => ?_)
    · skip
      refine vl_det (det_move rfl) rfl ?_
      refine vl_guard_t rfl rfl ?_
      refine vl_det (det_gtr rfl rfl) rfl ?_
      refine vl_det (det_pick_t rfl rfl) rfl ?_
      exact vl_cut_end ⟨rfl, trivial⟩ (by first | rfl | exact bool_to_t (by first | omega | simp_all) | exact bool_to_f (by first | omega | simp_all) | exact bool_to (by first | omega | simp_all) | exact bool_to_b (by first | omega | simp_all))
    · skip
      refine vl_guard_f rfl rfl rfl rfl ?_
      refine vl_det (det_pick_f rfl rfl) rfl ?_
      exact vl_cut_end ⟨rfl, trivial⟩ (by first | rfl | exact bool_to_t (by first | omega | simp_all) | exact bool_to_f (by first | omega | simp_all) | exact bool_to (by first | omega | simp_all) | exact bool_to_b (by first | omega | simp_all))
  · skip
    refine vl_end [(4, _), (15, _)] ⟨rfl, rfl, trivial⟩ ?_
    refine then_next ?_
    refine vc_decideU rfl (fun h15 => ?_) (fun h15 => ?_)
    · skip
      refine vc_seq ?_
      refine vc_region ?_
      refine vl_det (det_assign rfl) rfl ?_
      refine vl_end [(2, _)] ⟨rfl, trivial⟩ ?_
      refine then_next ?_
      refine vc_ret ?_
      refine then_ret ?_
      refine ret1 rfl rfl ?_
      exact ⟨by rw [show checkQ q = 11 from if_pos h15], rfl⟩
    · skip
      refine vc_skip ?_
      refine then_next ?_
      refine vc_seq ?_
      refine vc_region ?_
      refine vl_det (det_move rfl) rfl ?_
      refine vl_det (det_assign rfl) rfl ?_
      refine vl_end [(2, _)] ⟨rfl, trivial⟩ ?_
      refine then_next ?_
      refine vc_ret ?_
      refine ret1 rfl rfl ?_
      exact ⟨by rw [show checkQ q = _ from if_neg h15], rfl⟩
theorem rdepth_d {q : List StepC} (hb : Bor B w0 F 5 (.slice A q.length c) q.length (stepsV q)) :
    Does Try.prog B w0 29 [.slice A q.length c] F (fun r L => r = .tuple #[.int .i64 (depthQ q).1, .int .i64 (depthQ q).2] ∧ L = F) := by
  refine fn_walk Try.func29 72 rfl rfl rfl [(0, .slice A q.length c)] ⟨⟨rfl, rfl⟩, trivial⟩ ?_
  refine vc_seq ?_
  refine vc_region ?_
  refine vl_det (det_assign rfl) rfl ?_
  refine vl_det (det_assign rfl) rfl ?_
  refine vl_end [(0, _)] ⟨rfl, trivial⟩ ?_
  refine then_next ?_
  refine vc_seq ?_
  refine vc_seq ?_
  refine vc_region ?_
  refine vl_det (det_move rfl) rfl ?_
  refine vl_det (det_len_sl Try.underlying22 rfl) rfl ?_
  refine vl_det (det_gtr rfl rfl) rfl ?_
  refine vl_end [(0, _), (10, _)] ⟨rfl, rfl, trivial⟩ ?_
  refine then_next ?_
  refine vc_decideU rfl (fun h10 => ?_) (fun h10 => ?_)
  · skip
    rw [depthQ_a (by omega)]
    refine vc_seq ?_
    refine vc_region ?_
    refine vl_det (det_assign rfl) rfl ?_
    refine vl_det (det_assign rfl) rfl ?_
    refine vl_end [(2, _), (3, _)] ⟨rfl, rfl, trivial⟩ ?_
    refine then_next ?_
    refine vc_ret ?_
    refine then_ret ?_
    refine ret2 rfl rfl rfl ?_
    exact ⟨rfl, rfl⟩
  · skip
    have hq : ¬ 1000 < q.length := by omega
    have hQ0 := @depthQ_n q hq
    have hQ1 := @depthQ_1 q
    have hQ2 := @depthQ_m q
    obtain ⟨G, hG⟩ : ∃ G, G = depS [] q := ⟨_, rfl⟩
    rw [← hG] at hQ0
    simp only [← hG] at hQ1 hQ2
    refine vc_skip ?_
    refine then_next ?_
    refine vc_seq ?_
    refine vc_nil_row 3 1 none ?_
    refine vc_region ?_
    refine vl_det (det_assign rfl) rfl ?_
    refine vl_end [(0, _), (4, _)] ⟨rfl, rfl, trivial⟩ ?_
    refine then_next ?_
    refine vc_seq ?_
    refine vc_seq ?_
    refine vc_region ?_
    refine vl_det (det_assign rfl) rfl ?_
    refine vl_end [(0, _), (4, _), (5, _)] ⟨rfl, rfl, rfl, trivial⟩ ?_
    refine then_next ?_
    refine vc_block ?_
    refine vc_loopJ (fun zf zL zm => ∃ (k : Nat) (D : List Nat) (A4 : Option Addr) (c4 : Nat), (k ≤ q.length ∧ depS D (q.drop k) = G ∧ D.length ≤ k ∧ (∀ x ∈ D, x ≤ k)) ∧ q.length - k = zm ∧ Sub zf [(0, .slice A q.length c), (4, .slice A4 D.length c4), (5, .int .i64 k)] ∧ Wk zL (.own 3 1 A4 D.length c4 (natv D) :: F)) _ ⟨0, [], none, 0, ⟨Nat.zero_le _, hG.symm, Nat.zero_le _, fun x hx => absurd hx (by simp)⟩, rfl, ⟨(by first | rfl | exact int_to (by omega) | exact sl_to (by omega)), (by first | rfl | exact int_to (by omega) | exact sl_to (by omega)), (by first | rfl | exact int_to (by omega) | exact sl_to (by omega)), trivial⟩, .refl _⟩ ?_
    rintro _ _ _ ⟨k, D, A4, c4, ⟨hk, hS, hDl, hDx⟩, rfl, hs, hp⟩
    refine vc_weaken _ hs (vc_wk hp ?_)
    clear hs hp
    refine vc_seq ?_
    refine vc_seq ?_
    refine vc_region ?_
    refine vl_det (det_move rfl) rfl ?_
    refine vl_det (det_move rfl) rfl ?_
    refine vl_det (det_len_sl Try.underlying22 rfl) rfl ?_
    refine vl_det (det_lss rfl rfl) rfl ?_
    refine vl_end [(0, _), (4, _), (5, _), (14, _)] ⟨rfl, rfl, rfl, rfl, trivial⟩ ?_
    refine then_next ?_
    refine vc_decideU rfl (fun h14 => ?_) (fun h14 => ?_)
    · skip
      rw [drop_getD (show k < q.length by omega) sNil, depS_cons] at hS
      have hone := step_one (q.getD k sNil)
      have hcl := step_cells (q := q) (k := k) (by omega)
      obtain ⟨s, hs⟩ : ∃ s, s = q.getD k sNil := ⟨_, rfl⟩
      rw [← hs] at hS hone hcl
      refine vc_skip ?_
      refine then_next ?_
      refine vc_seq ?_
      refine vc_block ?_
      refine vc_seq ?_
      refine vc_seq ?_
      refine vc_region ?_
      refine vl_cut 16 32 [(0, _), (4, _), (5, _)] (¬ rightS s ∨ (D.length : Int) < takesS s) ⟨rfl, rfl, rfl, trivial⟩ ?_ ?_
      · skip
        refine vl_det (det_move rfl) rfl ?_
        refine vl_det (det_move rfl) rfl ?_
        refine vl_det (det_indexAddr (size := 5) Try.underlying22 (by kernel_rfl) rfl rfl rfl (by omega) (by first | (exact Bor.own (by repeat (first | exact List.Mem.head _ | apply List.Mem.tail))) | (repeat (first | assumption | apply Bor.cons)))) rfl ?_
        refine vl_det (det_load_rowa 5 (by kernel_rfl) rfl (by first | (exact Bor.own (by repeat (first | exact List.Mem.head _ | apply List.Mem.tail))) | (repeat (first | assumption | apply Bor.cons))) (by omega) (StepC.cells s) hcl rfl) rfl ?_
        refine vl_call co46 rfl (rright_d s) rfl ?_
        rintro _ _ ⟨rfl, hLL⟩
        obtain rfl := hLL.symm
        refine vl_det (det_notd rfl) rfl ?_
        refine vl_det (det_move rfl) rfl ?_
        refine vl_guardn rfl rfl rfl (fun h23 => ?_) (fun h23 => ?_)
        · skip
          refine vl_det (det_move rfl) rfl ?_
          refine vl_guard_t rfl rfl ?_
          refine vl_det (det_move rfl) rfl ?_
          refine vl_guard_t rfl rfl ?_
          refine vl_det (det_indexAddr (size := 5) Try.underlying22 (by kernel_rfl) rfl rfl rfl (by omega) (by first | (exact Bor.own (by repeat (first | exact List.Mem.head _ | apply List.Mem.tail))) | (repeat (first | assumption | apply Bor.cons)))) rfl ?_
          refine vl_guard_t rfl rfl ?_
          refine vl_det (det_load_rowa 5 (by kernel_rfl) rfl (by first | (exact Bor.own (by repeat (first | exact List.Mem.head _ | apply List.Mem.tail))) | (repeat (first | assumption | apply Bor.cons))) (by omega) (StepC.cells s) hcl rfl) rfl ?_
          refine vl_guard_t rfl rfl ?_
          refine vl_call co32 rfl (rtakes_d s (Classical.not_not.1 (by assumption))) rfl ?_
          rintro _ _ ⟨rfl, hLL⟩
          obtain rfl := hLL.symm
          refine vl_guard_t rfl rfl ?_
          refine vl_det (det_move rfl) rfl ?_
          refine vl_guard_t rfl rfl ?_
          refine vl_det (det_len_sl Try.underlying79 rfl) rfl ?_
          refine vl_guard_t rfl rfl ?_
          refine vl_det (det_gtr rfl rfl) rfl ?_
          refine vl_det (det_pick_f rfl rfl) rfl ?_
          exact vl_cut_end ⟨rfl, rfl, rfl, trivial⟩ (by first | rfl | exact bool_to_t (by first | exact .inl (by assumption) | exact ⟨fun h => .inr h, fun h => h.elim (fun q => absurd (Classical.not_not.1 (by assumption)) q) id⟩) | exact bool_to_f (by first | exact .inl (by assumption) | exact ⟨fun h => .inr h, fun h => h.elim (fun q => absurd (Classical.not_not.1 (by assumption)) q) id⟩) | exact bool_to (by first | exact .inl (by assumption) | exact ⟨fun h => .inr h, fun h => h.elim (fun q => absurd (Classical.not_not.1 (by assumption)) q) id⟩) | exact bool_to_b (by first | exact .inl (by assumption) | exact ⟨fun h => .inr h, fun h => h.elim (fun q => absurd (Classical.not_not.1 (by assumption)) q) id⟩))
        · skip
          refine vl_guard_f rfl rfl rfl rfl ?_
          refine vl_guard_f rfl rfl rfl rfl ?_
          refine vl_guard_f rfl rfl rfl rfl ?_
          refine vl_guard_f rfl rfl rfl rfl ?_
          refine vl_guard_f rfl rfl rfl rfl ?_
          refine vl_guard_f rfl rfl rfl rfl ?_
          refine vl_guard_f rfl rfl rfl rfl ?_
          refine vl_det (det_pick_t rfl rfl) rfl ?_
          exact vl_cut_end ⟨rfl, rfl, rfl, trivial⟩ (by first | rfl | exact bool_to_t (by first | exact .inl (by assumption) | exact ⟨fun h => .inr h, fun h => h.elim (fun q => absurd (Classical.not_not.1 (by assumption)) q) id⟩) | exact bool_to_f (by first | exact .inl (by assumption) | exact ⟨fun h => .inr h, fun h => h.elim (fun q => absurd (Classical.not_not.1 (by assumption)) q) id⟩) | exact bool_to (by first | exact .inl (by assumption) | exact ⟨fun h => .inr h, fun h => h.elim (fun q => absurd (Classical.not_not.1 (by assumption)) q) id⟩) | exact bool_to_b (by first | exact .inl (by assumption) | exact ⟨fun h => .inr h, fun h => h.elim (fun q => absurd (Classical.not_not.1 (by assumption)) q) id⟩))
      · skip
        refine vl_end [(0, _), (4, _), (5, _), (32, _)] ⟨rfl, rfl, rfl, rfl, trivial⟩ ?_
        refine then_next ?_
        refine vc_decideU rfl (fun h32 => ?_) (fun h32 => ?_)
        · skip
          rw [if_neg (fun h => h32.elim (fun q => q h.1) fun q => by omega)] at hS
          rw [hQ0 hS.symm]
          refine vc_seq ?_
          refine vc_region ?_
          refine vl_det (det_assign rfl) rfl ?_
          refine vl_det (det_assign rfl) rfl ?_
          refine vl_end [(2, _), (3, _)] ⟨rfl, rfl, trivial⟩ ?_
          refine then_next ?_
          refine vc_ret ?_
          refine then_ret ?_
          refine in_ret ?_
          refine then_ret ?_
          refine loop_ret ?_
          refine in_ret ?_
          refine then_ret ?_
          refine ret_wk (L' := F) (.skip (.refl _)) ?_
          refine ret2 rfl rfl rfl ?_
          exact ⟨rfl, rfl⟩
        · skip
          have hrs : rightS s := Classical.byContradiction fun h => h32 (.inl h)
          have htk : takesS s ≤ D.length := by have := fun h => h32 (.inr h); omega
          have htg := takesS_ge hrs
          rw [if_pos ⟨hrs, htk⟩] at hS
          obtain ⟨i, hi⟩ : ∃ i, i = D.length - (takesS s).toNat := ⟨_, rfl⟩
          rw [← hi] at hS
          refine vc_skip ?_
          refine then_next ?_
          refine vc_seq ?_
          refine vc_region ?_
          refine vl_det (det_assign rfl) rfl ?_
          refine vl_end [(0, _), (4, _), (5, _), (6, _)] ⟨rfl, rfl, rfl, rfl, trivial⟩ ?_
          refine then_next ?_
          refine vc_seq ?_
          refine vc_seq ?_
          refine vc_region ?_
          refine vl_det (det_assign rfl) rfl ?_
          refine vl_end [(0, _), (4, _), (5, _), (6, _), (7, _)] ⟨rfl, rfl, rfl, rfl, rfl, trivial⟩ ?_
          refine then_next ?_
          refine vc_block ?_
          refine vc_bor (Bor.own (B := B) (w0 := w0) (.head _)) fun hcap _ => ?_
          refine vc_loopJ (fun zf zL zm => ∃ (y z m : Nat) (c5 : Nat), (z = D.length - y ∧ (y : Int) ≤ takesS s ∧ m = maxL (D.drop z) ∧ m ≤ k ∧ z ≤ c5) ∧ (takesS s).toNat - y = zm ∧ Sub zf [(0, .slice A q.length c), (4, .slice A4 z c5), (5, .int .i64 k), (6, .int .i64 m), (7, .int .i64 y)] ∧ Wk zL (.own 3 1 A4 z c5 (natv (D.take z)) :: F)) _ ⟨0, D.length, 0, c4, ⟨rfl, htg, by simp [maxL], Nat.zero_le _, hcap⟩, rfl, ⟨(by first | rfl | exact int_to (by omega) | exact sl_to (by omega)), (by first | rfl | exact int_to (by omega) | exact sl_to (by omega)), (by first | rfl | exact int_to (by omega) | exact sl_to (by omega)), (by first | rfl | exact int_to (by omega) | exact sl_to (by omega)), (by first | rfl | exact int_to (by omega) | exact sl_to (by omega)), trivial⟩, wk_own rfl (by rw [List.take_length]) (.refl _)⟩ ?_
          rintro _ _ _ ⟨y, z, m, c5, ⟨hz, hy, hm, hmk, hzc⟩, rfl, hs, hp⟩
          refine vc_weaken _ hs (vc_wk hp ?_)
          clear hs hp
          refine vc_seq ?_
          refine vc_seq ?_
          refine vc_region ?_
          refine vl_det (det_move rfl) rfl ?_
          refine vl_det (det_move rfl) rfl ?_
          refine vl_det (det_move rfl) rfl ?_
          refine vl_det (det_indexAddr (size := 5) Try.underlying22 (by kernel_rfl) rfl rfl rfl (by omega) (by first | (exact Bor.own (by repeat (first | exact List.Mem.head _ | apply List.Mem.tail))) | (repeat (first | assumption | apply Bor.cons)))) rfl ?_
          refine vl_det (det_load_rowa 5 (by kernel_rfl) rfl (by first | (exact Bor.own (by repeat (first | exact List.Mem.head _ | apply List.Mem.tail))) | (repeat (first | assumption | apply Bor.cons))) (by omega) (StepC.cells s) hcl rfl) rfl ?_
          refine vl_call co32 rfl (rtakes_d s hrs) rfl ?_
          rintro _ _ ⟨rfl, hLL⟩
          obtain rfl := hLL.symm
          refine vl_det (det_lss rfl rfl) rfl ?_
          refine vl_end [(0, _), (4, _), (5, _), (6, _), (7, _), (39, _)] ⟨rfl, rfl, rfl, rfl, rfl, rfl, trivial⟩ ?_
          refine then_next ?_
          refine vc_decideU rfl (fun h39 => ?_) (fun h39 => ?_)
          · skip
            have hz1 : 1 ≤ z := by omega
            have hdl : (D.take z).length = z := by rw [List.length_take]; omega
            have hge : (D.take z).getD (z - 1) 0 = D.getD (z - 1) 0 := by simp [List.getD_eq_getElem?_getD, show z - 1 < z by omega]
            have hng := natv_get (l := D.take z) (k := z - 1) (by omega)
            rw [hge] at hng
            have hxl := hDx _ (getD_mem (show z - 1 < D.length by omega) 0)
            have hdr : D.drop (z - 1) = D.getD (z - 1) 0 :: D.drop z := by rw [drop_getD (show z - 1 < D.length by omega) 0, show z - 1 + 1 = z by omega]
            have hmx : maxL (D.drop (z - 1)) = max (D.getD (z - 1) 0) m := by rw [hdr, hm]; rfl
            have htt : (D.take z).take (z - 1) = D.take (z - 1) := by rw [List.take_take, Nat.min_eq_left (by omega)]
            refine vc_skip ?_
            refine then_next ?_
            refine vc_seq ?_
            refine vc_block ?_
            refine vc_seq ?_
            refine vc_seq ?_
            refine vc_region ?_
            refine vl_det (det_move rfl) rfl ?_
            refine vl_det (det_move rfl) rfl ?_
            refine vl_det (det_len_sl Try.underlying79 rfl) rfl ?_
            refine vl_det (det_sub rfl rfl (w_i64 (by omega) (by omega))) rfl ?_
            refine vl_det (det_indexAddr (i := z - 1) (size := 1) Try.underlying79 (by kernel_rfl) rfl rfl (by omega) (by omega) (by first | (exact Bor.own (by repeat (first | exact List.Mem.head _ | apply List.Mem.tail))) | (repeat (first | assumption | apply Bor.cons)))) rfl ?_
            refine vl_det (det_load_row (by kernel_rfl) rfl (by first | (exact Bor.own (by repeat (first | exact List.Mem.head _ | apply List.Mem.tail))) | (repeat (first | assumption | apply Bor.cons))) (by omega) hng) rfl ?_
            refine vl_det (det_move rfl) rfl ?_
            refine vl_det (det_gtr rfl rfl) rfl ?_
            refine vl_end [(0, _), (4, _), (5, _), (6, _), (7, _), (49, _)] ⟨rfl, rfl, rfl, rfl, rfl, rfl, trivial⟩ ?_
            refine then_next ?_
            refine vc_decideU rfl (fun h49 => ?_) (fun h49 => ?_)
            · skip
              refine vc_region ?_
              refine vl_det (det_move rfl) rfl ?_
              refine vl_det (det_move rfl) rfl ?_
              refine vl_det (det_len_sl Try.underlying79 rfl) rfl ?_
              refine vl_det (det_sub rfl rfl (w_i64 (by omega) (by omega))) rfl ?_
              refine vl_det (det_indexAddr (i := z - 1) (size := 1) Try.underlying79 (by kernel_rfl) rfl rfl (by omega) (by omega) (by first | (exact Bor.own (by repeat (first | exact List.Mem.head _ | apply List.Mem.tail))) | (repeat (first | assumption | apply Bor.cons)))) rfl ?_
              refine vl_det (det_load_row (by kernel_rfl) rfl (by first | (exact Bor.own (by repeat (first | exact List.Mem.head _ | apply List.Mem.tail))) | (repeat (first | assumption | apply Bor.cons))) (by omega) hng) rfl ?_
              refine vl_det (det_assign rfl) rfl ?_
              refine vl_end [(0, _), (4, _), (5, _), (6, _), (7, _)] ⟨rfl, rfl, rfl, rfl, rfl, trivial⟩ ?_
              refine then_next ?_
              refine vc_region ?_
              refine vl_det (det_move rfl) rfl ?_
              refine vl_det (det_move rfl) rfl ?_
              refine vl_det (det_len_sl Try.underlying79 rfl) rfl ?_
              refine vl_det (det_sub rfl rfl (w_i64 (by omega) (by omega))) rfl ?_
              refine vl_cut_row (z - 1) (by repeat (first | exact .hd | apply Sel.tl)) (by omega) ?_
              rw [natv_take, htt]
              refine vl_det (det_slice_hi (i := z - 1) (size := 1) Try.underlying79 (by kernel_rfl) rfl rfl (by omega) (by omega)) rfl ?_
              refine vl_det (det_assign rfl) rfl ?_
              refine vl_end [(0, _), (4, _), (5, _), (6, _), (7, _)] ⟨rfl, rfl, rfl, rfl, rfl, trivial⟩ ?_
              refine in_normal ?_
              refine then_next ?_
              refine vc_region ?_
              refine vl_det (det_move rfl) rfl ?_
              refine vl_det (det_add rfl rfl (w_i64 (by omega) (by omega))) rfl ?_
              refine vl_det (det_assign rfl) rfl ?_
              refine vl_end [(0, _), (4, _), (5, _), (6, _), (7, _)] ⟨rfl, rfl, rfl, rfl, rfl, trivial⟩ ?_
              refine in_loop_ ⟨_, by omega, y + 1, z - 1, D.getD (z - 1) 0, c5, ⟨by omega, by omega, by rw [hmx]; omega, by omega, by omega⟩, rfl, ⟨(by first | rfl | exact int_to (by omega) | exact sl_to (by omega)), (by first | rfl | exact int_to (by omega) | exact sl_to (by omega)), (by first | rfl | exact int_to (by omega) | exact sl_to (by omega)), (by first | rfl | exact int_to (by omega) | exact sl_to (by omega)), (by first | rfl | exact int_to (by omega) | exact sl_to (by omega)), trivial⟩, .refl _⟩
            · skip
              refine vc_skip ?_
              refine then_next ?_
              refine vc_region ?_
              refine vl_det (det_move rfl) rfl ?_
              refine vl_det (det_move rfl) rfl ?_
              refine vl_det (det_len_sl Try.underlying79 rfl) rfl ?_
              refine vl_det (det_sub rfl rfl (w_i64 (by omega) (by omega))) rfl ?_
              refine vl_cut_row (z - 1) (by repeat (first | exact .hd | apply Sel.tl)) (by omega) ?_
              rw [natv_take, htt]
              refine vl_det (det_slice_hi (i := z - 1) (size := 1) Try.underlying79 (by kernel_rfl) rfl rfl (by omega) (by omega)) rfl ?_
              refine vl_det (det_assign rfl) rfl ?_
              refine vl_end [(0, _), (4, _), (5, _), (6, _), (7, _)] ⟨rfl, rfl, rfl, rfl, rfl, trivial⟩ ?_
              refine in_normal ?_
              refine then_next ?_
              refine vc_region ?_
              refine vl_det (det_move rfl) rfl ?_
              refine vl_det (det_add rfl rfl (w_i64 (by omega) (by omega))) rfl ?_
              refine vl_det (det_assign rfl) rfl ?_
              refine vl_end [(0, _), (4, _), (5, _), (6, _), (7, _)] ⟨rfl, rfl, rfl, rfl, rfl, trivial⟩ ?_
              refine in_loop_ ⟨_, by omega, y + 1, z - 1, m, c5, ⟨by omega, by omega, by rw [hmx]; omega, by omega, by omega⟩, rfl, ⟨(by first | rfl | exact int_to (by omega) | exact sl_to (by omega)), (by first | rfl | exact int_to (by omega) | exact sl_to (by omega)), (by first | rfl | exact int_to (by omega) | exact sl_to (by omega)), (by first | rfl | exact int_to (by omega) | exact sl_to (by omega)), (by first | rfl | exact int_to (by omega) | exact sl_to (by omega)), trivial⟩, .refl _⟩
          · skip
            have hzi : z = i := by omega
            rw [hzi] at hm ⊢
            rw [← hm] at hS
            refine vc_exit ?_
            refine then_exit ?_
            refine loop_exit ?_
            refine in_eq ?_
            refine then_next ?_
            refine vc_region ?_
            refine vl_det (det_move rfl) rfl ?_
            refine vl_det (det_move rfl) rfl ?_
            refine vl_det (det_add rfl rfl (w_i64 (by omega) (by omega))) rfl ?_
            refine vl_push slT79 rfl rfl rfl rfl rfl (fun _ => rfl) (by repeat (first | exact .hd | apply Sel.tl)) (by omega) (by omega) ?_
            intro _ A65 c65
            refine vl_det (det_assign rfl) rfl ?_
            refine vl_end [(0, _), (4, _), (5, _)] ⟨rfl, rfl, rfl, trivial⟩ ?_
            refine in_normal ?_
            refine then_next ?_
            refine vc_region ?_
            refine vl_det (det_move rfl) rfl ?_
            refine vl_det (det_add rfl rfl (w_i64 (by omega) (by omega))) rfl ?_
            refine vl_det (det_assign rfl) rfl ?_
            refine vl_end [(0, _), (4, _), (5, _)] ⟨rfl, rfl, rfl, trivial⟩ ?_
            have hel : i + 1 = (D.take i ++ [m + 1]).length := by rw [List.length_append, List.length_take]; simp; omega
            refine in_loop_ ⟨_, by omega, k + 1, D.take i ++ [m + 1], A65, c65, ⟨by omega, hS, by omega, dep_le hDx hmk⟩, rfl, ⟨(by first | rfl | exact int_to (by omega) | exact sl_to (by omega)), (by first | rfl | exact int_to (by omega) | exact sl_to (by omega)), (by first | rfl | exact int_to (by omega) | exact sl_to (by omega)), trivial⟩, wk_own hel (natv_snoc (D.take i) (m + 1)) (.refl _)⟩
    · skip
      rw [List.drop_of_length_le (by omega), depS] at hS
      refine vc_exit ?_
      refine then_exit ?_
      refine loop_exit ?_
      refine in_eq ?_
      refine then_next ?_
      refine vc_seq ?_
      refine vc_seq ?_
      refine vc_region ?_
      refine vl_det (det_move rfl) rfl ?_
      refine vl_det (det_len_sl Try.underlying79 rfl) rfl ?_
      refine vl_det (det_neq rfl rfl) rfl ?_
      refine vl_end [(4, _), (68, _)] ⟨rfl, rfl, trivial⟩ ?_
      refine then_next ?_
      refine vc_decideU rfl (fun h68 => ?_) (fun h68 => ?_)
      · skip
        rw [hQ2 hq hS.symm (by omega)]
        refine vc_seq ?_
        refine vc_region ?_
        refine vl_det (det_assign rfl) rfl ?_
        refine vl_det (det_assign rfl) rfl ?_
        refine vl_end [(2, _), (3, _)] ⟨rfl, rfl, trivial⟩ ?_
        refine then_next ?_
        refine vc_ret ?_
        refine then_ret ?_
        refine ret_wk (L' := F) (.skip (.refl _)) ?_
        refine ret2 rfl rfl rfl ?_
        exact ⟨rfl, rfl⟩
      · skip
        rw [hQ1 hq hS.symm (by omega)]
        refine vc_skip ?_
        refine then_next ?_
        refine vc_seq ?_
        refine vc_region ?_
        refine vl_det (det_move rfl) rfl ?_
        refine vl_det (det_indexAddr (i := 0) (size := 1) Try.underlying79 (by kernel_rfl) rfl rfl rfl (by omega) (by first | (exact Bor.own (by repeat (first | exact List.Mem.head _ | apply List.Mem.tail))) | (repeat (first | assumption | apply Bor.cons)))) rfl ?_
        refine vl_det (det_load_row (by kernel_rfl) rfl (by first | (exact Bor.own (by repeat (first | exact List.Mem.head _ | apply List.Mem.tail))) | (repeat (first | assumption | apply Bor.cons))) (by omega) (natv_get (l := D) (k := 0) (by omega))) rfl ?_
        refine vl_det (det_assign rfl) rfl ?_
        refine vl_det (det_assign rfl) rfl ?_
        refine vl_end [(2, _), (3, _)] ⟨rfl, rfl, trivial⟩ ?_
        refine then_next ?_
        refine vc_ret ?_
        refine ret_wk (L' := F) (.skip (.refl _)) ?_
        refine ret2 rfl rfl rfl ?_
        exact ⟨rfl, rfl⟩
theorem rcheck_d {q : List StepC} (hb : Bor B w0 F 5 (.slice A q.length c) q.length (stepsV q)) :
    Does Try.prog B w0 10 [.slice A q.length c] F (fun r L => r = .int .i64 (checkQ q) ∧ L = F) := by
  refine fn_walk Try.func10 17 rfl rfl rfl [(0, .slice A q.length c)] ⟨⟨rfl, rfl⟩, trivial⟩ ?_
  refine vc_seq ?_
  refine vc_region ?_
  refine vl_det (det_assign rfl) rfl ?_
  refine vl_end [(0, _)] ⟨rfl, trivial⟩ ?_
  refine then_next ?_
  refine vc_seq ?_
  refine vc_region ?_
  refine vl_det (det_move rfl) rfl ?_
  refine vl_call co29 rfl (rdepth_d (by first | (exact Bor.own (by repeat (first | exact List.Mem.head _ | apply List.Mem.tail))) | (repeat (first | assumption | apply Bor.cons)))) rfl ?_
  rintro _ _ ⟨rfl, hLL⟩
  obtain rfl := hLL.symm
  refine vl_det (det_move rfl) rfl ?_
  refine vl_det (det_extract rfl rfl) rfl ?_
  refine vl_det (det_extract rfl rfl) rfl ?_
  refine vl_det (det_assign rfl) rfl ?_
  refine vl_det (det_assign rfl) rfl ?_
  refine vl_end [(3, _), (4, _)] ⟨rfl, rfl, trivial⟩ ?_
  refine then_next ?_
  refine vc_seq ?_
  refine vc_seq ?_
  refine vc_region ?_
  refine vl_cut 6 15 [(4, _)] ((depthQ q).2 = 0 ∧ 64 < (depthQ q).1) ⟨rfl, trivial⟩ ?_ ?_
  · skip
    refine vl_det (det_move rfl) rfl ?_
    refine vl_det (det_eql rfl rfl) rfl ?_
    refine vl_det (det_move rfl) rfl ?_
    refine vl_guardp rfl rfl rfl (fun h12 => ?_) (fun h12 => ?_)
    · skip
      refine vl_det (det_move rfl) rfl ?_
      refine vl_guard_t rfl rfl ?_
      refine vl_det (det_gtr rfl rfl) rfl ?_
      refine vl_det (det_pick_t rfl rfl) rfl ?_
      exact vl_cut_end ⟨rfl, trivial⟩ (by first | rfl | exact bool_to_t (by first | omega | simp_all) | exact bool_to_f (by first | omega | simp_all) | exact bool_to (by first | omega | simp_all) | exact bool_to_b (by first | omega | simp_all))
    · skip
      refine vl_guard_f rfl rfl rfl rfl ?_
      refine vl_det (det_pick_f rfl rfl) rfl ?_
      exact vl_cut_end ⟨rfl, trivial⟩ (by first | rfl | exact bool_to_t (by first | omega | simp_all) | exact bool_to_f (by first | omega | simp_all) | exact bool_to (by first | omega | simp_all) | exact bool_to_b (by first | omega | simp_all))
  · skip
    refine vl_end [(4, _), (15, _)] ⟨rfl, rfl, trivial⟩ ?_
    refine then_next ?_
    refine vc_decideU rfl (fun h15 => ?_) (fun h15 => ?_)
    · skip
      refine vc_seq ?_
      refine vc_region ?_
      refine vl_det (det_assign rfl) rfl ?_
      refine vl_end [(2, _)] ⟨rfl, trivial⟩ ?_
      refine then_next ?_
      refine vc_ret ?_
      refine then_ret ?_
      refine ret1 rfl rfl ?_
      exact ⟨by rw [show checkQ q = 11 from if_pos h15], rfl⟩
    · skip
      refine vc_skip ?_
      refine then_next ?_
      refine vc_seq ?_
      refine vc_region ?_
      refine vl_det (det_move rfl) rfl ?_
      refine vl_det (det_assign rfl) rfl ?_
      refine vl_end [(2, _)] ⟨rfl, trivial⟩ ?_
      refine then_next ?_
      refine vc_ret ?_
      refine ret1 rfl rfl ?_
      exact ⟨by rw [show checkQ q = _ from if_neg h15], rfl⟩
theorem qsame_d {l l2 : List StepC} (h1 : Bor B w0 F 5 (.slice A l.length c) l.length (stepsV l)) (h2 : Bor B w0 F 5 (.slice A2 l2.length c2) l2.length (stepsV l2)) (hl : l.length ≤ 1000000000) :
    Does Try.prog B w0 12 [.slice A l.length c, .slice A2 l2.length c2] F (fun r L => r = .bool (decide (l = l2)) ∧ L = F) := by
  refine fn_walk Try.func12 26 rfl rfl rfl [(0, .slice A l.length c), (1, .slice A2 l2.length c2)] ⟨⟨rfl, rfl⟩, ⟨rfl, rfl⟩, trivial⟩ ?_
  refine vc_seq ?_
  refine vc_region ?_
  refine vl_det (det_assign rfl) rfl ?_
  refine vl_end [(0, _), (1, _)] ⟨rfl, rfl, trivial⟩ ?_
  refine then_next ?_
  refine vc_seq ?_
  refine vc_seq ?_
  refine vc_region ?_
  refine vl_det (det_move rfl) rfl ?_
  refine vl_det (det_len_sl Try.underlying22 rfl) rfl ?_
  refine vl_det (det_move rfl) rfl ?_
  refine vl_det (det_len_sl Try.underlying22 rfl) rfl ?_
  refine vl_det (det_neq rfl rfl) rfl ?_
  refine vl_end [(0, _), (1, _), (10, _)] ⟨rfl, rfl, rfl, trivial⟩ ?_
  refine then_next ?_
  refine vc_decideU rfl (fun h10 => ?_) (fun h10 => ?_)
  · skip
    refine vc_seq ?_
    refine vc_region ?_
    refine vl_det (det_assign rfl) rfl ?_
    refine vl_end [(4, _)] ⟨rfl, trivial⟩ ?_
    refine then_next ?_
    refine vc_ret ?_
    refine then_ret ?_
    refine ret1 rfl rfl ?_
    exact ⟨by rw [decide_eq_false (fun h => by rw [h] at h10; exact h10 rfl)], rfl⟩
  · skip
    refine vc_skip ?_
    refine then_next ?_
    refine vc_seq ?_
    refine vc_seq ?_
    refine vc_region ?_
    refine vl_det (det_assign rfl) rfl ?_
    refine vl_end [(0, _), (1, _), (5, _)] ⟨rfl, rfl, rfl, trivial⟩ ?_
    refine then_next ?_
    refine vc_block ?_
    refine vc_loopJ (fun zf zL zm => ∃ (k : Nat), (k ≤ l.length ∧ l.take k = l2.take k) ∧ l.length - k = zm ∧ Sub zf [(0, .slice A l.length c), (1, .slice A2 l2.length c2), (5, .int .i64 k)] ∧ Wk zL (F)) _ ⟨0, ⟨Nat.zero_le _, rfl⟩, rfl, ⟨(by first | rfl | exact int_to (by omega) | exact sl_to (by omega)), (by first | rfl | exact int_to (by omega) | exact sl_to (by omega)), (by first | rfl | exact int_to (by omega) | exact sl_to (by omega)), trivial⟩, .refl _⟩ ?_
    rintro _ _ _ ⟨k, ⟨hk, heq⟩, rfl, hs, hp⟩
    refine vc_weaken _ hs (vc_wk hp ?_)
    clear hs hp
    refine vc_seq ?_
    refine vc_seq ?_
    refine vc_region ?_
    refine vl_det (det_move rfl) rfl ?_
    refine vl_det (det_move rfl) rfl ?_
    refine vl_det (det_len_sl Try.underlying22 rfl) rfl ?_
    refine vl_det (det_lss rfl rfl) rfl ?_
    refine vl_end [(0, _), (1, _), (5, _), (14, _)] ⟨rfl, rfl, rfl, rfl, trivial⟩ ?_
    refine then_next ?_
    refine vc_decideU rfl (fun h14 => ?_) (fun h14 => ?_)
    · skip
      refine vc_skip ?_
      refine then_next ?_
      refine vc_seq ?_
      refine vc_block ?_
      refine vc_seq ?_
      refine vq_region (by kernel_rfl) (by kernel_rfl) ?_
      refine vq_det (det_move rfl) rfl ?_
      refine vq_det (det_move rfl) rfl ?_
      refine vq_det (det_indexAddr (size := 5) Try.underlying22 (by kernel_rfl) rfl rfl rfl (by omega) (by first | (exact Bor.own (by repeat (first | exact List.Mem.head _ | apply List.Mem.tail))) | (repeat (first | assumption | apply Bor.cons)))) rfl ?_
      refine vq_det (det_load_rowa 5 (by kernel_rfl) rfl (by first | (exact Bor.own (by repeat (first | exact List.Mem.head _ | apply List.Mem.tail))) | (repeat (first | assumption | apply Bor.cons))) (by omega) (StepC.cells (l.getD k sNil)) (step_cells (by omega)) rfl) rfl ?_
      refine vq_det (det_move rfl) rfl ?_
      refine vq_det (det_move rfl) rfl ?_
      refine vq_det (det_indexAddr (size := 5) Try.underlying22 (by kernel_rfl) rfl rfl rfl (by omega) (by first | (exact Bor.own (by repeat (first | exact List.Mem.head _ | apply List.Mem.tail))) | (repeat (first | assumption | apply Bor.cons)))) rfl ?_
      refine vq_det (det_load_rowa 5 (by kernel_rfl) rfl (by first | (exact Bor.own (by repeat (first | exact List.Mem.head _ | apply List.Mem.tail))) | (repeat (first | assumption | apply Bor.cons))) (by omega) (StepC.cells (l2.getD k sNil)) (step_cells (by omega)) rfl) rfl ?_
      refine vq_det (det_step_neq rfl (l.getD k sNil) (l2.getD k sNil) rfl rfl) rfl ?_
      refine vq_end [(0, _), (1, _), (5, _), (25, _)] ⟨rfl, rfl, rfl, rfl, trivial⟩ ?_
      refine then_next ?_
      refine vc_decideU rfl (fun h25 => ?_) (fun h25 => ?_)
      · skip
        refine vc_seq ?_
        refine vc_region ?_
        refine vl_det (det_assign rfl) rfl ?_
        refine vl_end [(4, _)] ⟨rfl, trivial⟩ ?_
        refine then_next ?_
        refine vc_ret ?_
        refine in_ret ?_
        refine then_ret ?_
        refine loop_ret ?_
        refine in_ret ?_
        refine then_ret ?_
        refine ret1 rfl rfl ?_
        exact ⟨by rw [decide_eq_false (fun h => by rw [h] at h25; exact h25 rfl)], rfl⟩
      · skip
        refine vc_skip ?_
        refine in_normal ?_
        refine then_next ?_
        refine vc_region ?_
        refine vl_det (det_move rfl) rfl ?_
        refine vl_det (det_add rfl rfl (w_i64 (by omega) (by omega))) rfl ?_
        refine vl_det (det_assign rfl) rfl ?_
        refine vl_end [(0, _), (1, _), (5, _)] ⟨rfl, rfl, rfl, trivial⟩ ?_
        refine in_loop_ ⟨_, by omega, k + 1, ⟨by omega, by rw [take_getD (by omega) sNil, take_getD (by omega) sNil, heq]; exact congrArg (fun z => l2.take k ++ [z]) (Classical.not_not.1 h25)⟩, rfl, ⟨(by first | rfl | exact int_to (by omega) | exact sl_to (by omega)), (by first | rfl | exact int_to (by omega) | exact sl_to (by omega)), (by first | rfl | exact int_to (by omega) | exact sl_to (by omega)), trivial⟩, .refl _⟩
    · skip
      refine vc_exit ?_
      refine then_exit ?_
      refine loop_exit ?_
      refine in_eq ?_
      refine then_next ?_
      refine vc_seq ?_
      refine vc_region ?_
      refine vl_det (det_assign rfl) rfl ?_
      refine vl_end [(4, _)] ⟨rfl, trivial⟩ ?_
      refine then_next ?_
      refine vc_ret ?_
      refine ret1 rfl rfl ?_
      have e : l = l2 := by
        have := heq
        rwa [List.take_of_length_le (by omega), List.take_of_length_le (by omega)] at this
      exact ⟨by rw [decide_eq_true e], rfl⟩
end Go.Proofs.Ytakokckokchacaa
namespace Go.Proofs.Ytakokckokchacaa
open Go.RowKit
set_option linter.unusedVariables false
set_option maxRecDepth 20000
/-- a query as_ a tree; 'nil' and 'cons' are lists of them -/
inductive Qt where
  | leaf (s : StepC)
  | not (k : Qt)
  | group (op : Int) (ks : Qt)
  | nil
  | cons (k ks : Qt)
def Qt.isN : Qt → Prop
  | .leaf _ => True
  | .not _ => True
  | .group _ _ => True
  | _ => False
def Qt.isL : Qt → Prop
  | .nil => True
  | .cons _ _ => True
  | _ => False
def Qt.len : Qt → Nat
  | .cons _ r => r.len + 1
  | _ => 0
def Qt.st : Qt → List StepC
  | .leaf s => [s]
  | .not k => k.st ++ [(5, 0, [], 0, 0)]
  | .group op ks => ks.st ++ [(op, (ks.len : Int), [], 0, 0)]
  | .nil => []
  | .cons k r => k.st ++ r.st
def Qt.wf : Qt → Prop
  | .leaf s => rightS s ∧ s.1 ≤ 4
  | .not k => k.isN ∧ k.wf
  | .group op ks => (op = 6 ∨ op = 7) ∧ 2 ≤ ks.len ∧ ks.isL ∧ ks.wf
  | .nil => True
  | .cons k r => k.isN ∧ k.wf ∧ r.isL ∧ r.wf
def Qt.dep : Qt → Nat
  | .leaf _ => 1
  | .not k => k.dep + 1
  | .group _ ks => ks.dep + 1
  | .nil => 0
  | .cons k r => max k.dep r.dep
def toL : Qt → List Qt
  | .cons k r => k :: toL r
  | _ => []
def ofL : List Qt → Qt
  | [] => .nil
  | k :: r => .cons k (ofL r)
theorem toL_ofL : ∀ l : List Qt, toL (ofL l) = l
  | [] => rfl
  | k :: r => by simp [ofL, toL, toL_ofL r]
theorem ofL_toL : ∀ {ks : Qt}, ks.isL → ks.wf → ofL (toL ks) = ks
  | .nil, _, _ => rfl
  | .cons k r, _, h => by simp only [toL, ofL, ofL_toL h.2.2.1 h.2.2.2]
theorem ofL_isL : ∀ l : List Qt, (ofL l).isL
  | [] => trivial
  | _ :: _ => trivial
theorem ofL_len : ∀ l : List Qt, (ofL l).len = l.length
  | [] => rfl
  | k :: r => by simp [ofL, Qt.len, ofL_len r]
theorem toL_len : ∀ ks : Qt, (toL ks).length = ks.len
  | .nil => rfl
  | .cons k r => by simp [toL, Qt.len, toL_len r]
  | .leaf _ => rfl
  | .not _ => rfl
  | .group _ _ => rfl
theorem ofL_st : ∀ l : List Qt, (ofL l).st = l.flatMap Qt.st
  | [] => rfl
  | k :: r => by simp [ofL, Qt.st, ofL_st r]
theorem ofL_dep : ∀ l : List Qt, (ofL l).dep = maxL (l.map Qt.dep)
  | [] => rfl
  | k :: r => by simp [ofL, Qt.dep, ofL_dep r, maxL]
theorem ofL_wf : ∀ {l : List Qt}, (∀ t ∈ l, t.isN ∧ t.wf) → (ofL l).wf
  | [], _ => trivial
  | k :: r, h => ⟨(h k (by simp)).1, (h k (by simp)).2, ofL_isL r, ofL_wf fun t ht => h t (by simp [ht])⟩
theorem toL_wf : ∀ {ks : Qt}, ks.wf → ∀ t ∈ toL ks, t.isN ∧ t.wf
  | .cons k r, h, t, ht => by
    simp only [toL, List.mem_cons] at ht
    rcases ht with rfl | ht
    · exact ⟨h.1, h.2.1⟩
    · exact toL_wf h.2.2.2 t ht
  | .nil, _, t, ht => absurd ht (by simp [toL])
  | .leaf _, _, t, ht => absurd ht (by simp [toL])
  | .not _, _, t, ht => absurd ht (by simp [toL])
  | .group _ _, _, t, ht => absurd ht (by simp [toL])
theorem toL_st {ks : Qt} (h : ks.isL) (hw : ks.wf) : ks.st = (toL ks).flatMap Qt.st := by
  rw [← ofL_st, ofL_toL h hw]
theorem toL_dep {ks : Qt} (h : ks.isL) (hw : ks.wf) : ks.dep = maxL ((toL ks).map Qt.dep) := by
  rw [← ofL_dep, ofL_toL h hw]
/-- by what holds of the parts -/
theorem Qt.ind {P : Qt → Prop} (h1 : ∀ s, rightS s → s.1 ≤ 4 → P (.leaf s)) (h2 : ∀ k : Qt, k.isN → k.wf → P k → P (.not k)) (h3 : ∀ op (l : List Qt), (op = 6 ∨ op = 7) → 2 ≤ l.length → (∀ t ∈ l, t.isN ∧ t.wf) → (∀ t ∈ l, P t) → P (.group op (ofL l))) :
    ∀ t : Qt, t.wf → (t.isN → P t) ∧ (∀ k ∈ toL t, P k)
  | .leaf s, h => ⟨fun _ => h1 s h.1 h.2, fun k hk => absurd hk (by simp [toL])⟩
  | .not k, h => ⟨fun _ => h2 k h.1 h.2 ((Qt.ind h1 h2 h3 k h.2).1 h.1), fun k hk => absurd hk (by simp [toL])⟩
  | .group op ks, h => ⟨fun _ => by
      have := h3 op (toL ks) h.1 (by rw [toL_len]; exact h.2.1) (toL_wf h.2.2.2) (Qt.ind h1 h2 h3 ks h.2.2.2).2
      rwa [ofL_toL h.2.2.1 h.2.2.2] at this, fun k hk => absurd hk (by simp [toL])⟩
  | .nil, _ => ⟨fun h => h.elim, fun k hk => absurd hk (by simp [toL])⟩
  | .cons k r, h => ⟨fun h => h.elim, fun x hx => by
      simp only [toL, List.mem_cons] at hx
      rcases hx with hk | hx
      · rw [hk]; exact (Qt.ind h1 h2 h3 k h.2.1).1 h.1
      · exact (Qt.ind h1 h2 h3 r h.2.2.2).2 x hx⟩
theorem st_ne : ∀ {t : Qt}, t.isN → t.st ≠ []
  | .leaf _, _ => by simp [Qt.st]
  | .not _, _ => by simp [Qt.st]
  | .group _ _, _ => by simp [Qt.st]
/-! steps made a tree -/
def stepT (S : List Qt) (s : StepC) : List Qt :=
  if s.1 = 5 then S.take (S.length - 1) ++ [.not (S.getD (S.length - 1) .nil)]
  else if s.1 = 6 ∨ s.1 = 7 then S.take (S.length - s.2.1.toNat) ++ [.group s.1 (ofL (S.drop (S.length - s.2.1.toNat)))]
  else S ++ [.leaf s]
def parS : List Qt → List StepC → List Qt
  | S, [] => S
  | S, s :: r => parS (stepT S s) r
theorem parS_cons {S : List Qt} {s : StepC} {r : List StepC} : parS S (s :: r) = parS (stepT S s) r := rfl
theorem stepT_ok {S : List Qt} {s : StepC} (hS : ∀ t ∈ S, t.isN ∧ t.wf) (hr : rightS s) (ht : takesS s ≤ S.length) :
    (∀ t ∈ stepT S s, t.isN ∧ t.wf) ∧ (stepT S s).map Qt.dep = (S.map Qt.dep).take (S.length - (takesS s).toNat) ++ [maxL ((S.map Qt.dep).drop (S.length - (takesS s).toNat)) + 1] ∧ (stepT S s).flatMap Qt.st = S.flatMap Qt.st ++ [s] := by
  obtain ⟨op, nn, wd, fr, to⟩ := s
  by_cases h5 : op = 5
  · have hT : takesS (op, nn, wd, fr, to) = 1 := by unfold takesS; simp [h5]
    have hE : stepT S (op, nn, wd, fr, to) = S.take (S.length - 1) ++ [.not (S.getD (S.length - 1) .nil)] := by unfold stepT; simp [h5]
    rw [hT] at ht ⊢
    rw [hE]
    have hlt : S.length - 1 < S.length := by omega
    have hd : S.drop (S.length - 1) = [S.getD (S.length - 1) .nil] := by rw [drop_getD hlt .nil, List.drop_of_length_le (by omega)]
    have hm := hS _ (getD_mem hlt .nil)
    refine ⟨fun t ht => ?_, ?_, ?_⟩
    · rcases List.mem_append.1 ht with ht | ht
      · exact hS t (List.mem_of_mem_take ht)
      · rw [List.mem_singleton] at ht; subst ht; exact ⟨trivial, hm.1, hm.2⟩
    · rw [List.map_append, List.map_take, List.map_singleton, ← List.map_drop]
      simp only [Int.toNat_one]
      rw [hd]
      simp [Qt.dep, maxL]
    · have hs := (right_n h5).1 hr
      rw [hs, h5, List.flatMap_append, List.flatMap_singleton]
      conv => rhs; rw [← List.take_append_drop (S.length - 1) S, hd, List.flatMap_append, List.flatMap_singleton]
      simp [Qt.st]
  · by_cases h6 : op = 6 ∨ op = 7
    · have hT : takesS (op, nn, wd, fr, to) = nn := by unfold takesS; simp [h5, h6]
      have hE : stepT S (op, nn, wd, fr, to) = S.take (S.length - nn.toNat) ++ [.group op (ofL (S.drop (S.length - nn.toNat)))] := by unfold stepT; simp [h5, h6]
      rw [hT] at ht ⊢
      rw [hE]
      obtain ⟨hs, hn⟩ := (right_g h6).1 hr
      have hl : (S.drop (S.length - nn.toNat)).length = nn.toNat := by rw [List.length_drop]; omega
      refine ⟨fun t ht => ?_, ?_, ?_⟩
      · rcases List.mem_append.1 ht with ht | ht
        · exact hS t (List.mem_of_mem_take ht)
        · rw [List.mem_singleton] at ht; subst ht
          exact ⟨trivial, h6, by rw [ofL_len, hl]; omega, ofL_isL _, ofL_wf fun t ht => hS t (List.mem_of_mem_drop ht)⟩
      · rw [List.map_append, List.map_take, List.map_singleton, ← List.map_drop]
        simp [Qt.dep, ofL_dep]
      · rw [hs, List.flatMap_append, List.flatMap_singleton]
        conv => rhs; rw [← List.take_append_drop (S.length - nn.toNat) S, List.flatMap_append]
        simp only [Qt.st, ofL_st, ofL_len, hl]
        rw [show ((nn.toNat : Nat) : Int) = nn by omega, List.append_assoc]
    · have hT : takesS (op, nn, wd, fr, to) = 0 := by unfold takesS; simp [h5, h6]
      have hE : stepT S (op, nn, wd, fr, to) = S ++ [.leaf (op, nn, wd, fr, to)] := by unfold stepT; simp [h5, h6]
      rw [hT, hE]
      have h4 : op ≤ 4 := by unfold rightS at hr; simp only at hr; omega
      refine ⟨fun t ht => ?_, ?_, ?_⟩
      · rcases List.mem_append.1 ht with ht | ht
        · exact hS t ht
        · rw [List.mem_singleton] at ht; subst ht; exact ⟨trivial, hr, h4⟩
      · rw [List.map_append, List.map_singleton]
        simp only [Int.toNat_zero, Nat.sub_zero]
        rw [List.take_of_length_le (by simp), List.drop_of_length_le (by simp)]
        rfl
      · rw [List.flatMap_append, List.flatMap_singleton]; rfl
theorem parS_ok : ∀ (q : List StepC) (S : List Qt) (G : List Nat), (∀ t ∈ S, t.isN ∧ t.wf) → depS (S.map Qt.dep) q = some G →
    (∀ t ∈ parS S q, t.isN ∧ t.wf) ∧ (parS S q).map Qt.dep = G ∧ (parS S q).flatMap Qt.st = S.flatMap Qt.st ++ q
  | [], S, G, hS, h => by
    simp only [depS, Option.some.injEq] at h
    exact ⟨hS, h, by simp [parS]⟩
  | s :: r, S, G, hS, h => by
    rw [depS_cons] at h
    split at h
    · rename_i hc
      rw [List.length_map] at hc h
      obtain ⟨h1, h2, h3⟩ := stepT_ok hS hc.1 hc.2
      rw [← h2] at h
      obtain ⟨h4, h5, h6⟩ := parS_ok r (stepT S s) G h1 h
      exact ⟨h4, h5, by rw [parS_cons, h6, h3, List.append_assoc]; rfl⟩
    · cases h
theorem check_ok {q : List StepC} (h : checkQ q = 0) : ∃ t : Qt, q.length ≤ 1000 ∧ depS [] q = some [t.dep] ∧ parS [] q = [t] ∧ t.isN ∧ t.wf ∧ t.st = q ∧ t.dep ≤ 64 := by
  unfold checkQ at h
  split at h
  · exact absurd h (by decide)
  · rename_i hc
    have hq : ¬ 1000 < q.length := fun h' => by rw [depthQ_a h'] at h; exact absurd h (by decide)
    cases hd : depS [] q with
    | none => rw [depthQ_n hq hd] at h; exact absurd h (by decide)
    | some D =>
      have h1 : D.length = 1 := Classical.byContradiction fun h' => by rw [depthQ_m hq hd h'] at h; exact absurd h (by decide)
      obtain ⟨d, rfl⟩ : ∃ d, D = [d] := List.length_eq_one_iff.1 h1
      obtain ⟨h2, h3, h4⟩ := parS_ok q [] [d] (by simp) hd
      obtain ⟨t, ht⟩ : ∃ t, parS [] q = [t] := List.length_eq_one_iff.1 (by have := congrArg List.length h3; simpa using this)
      rw [ht] at h2 h3 h4
      have h5 := h2 t (by simp)
      simp at h3 h4
      rw [depthQ_1 hq hd h1] at hc
      simp at hc
      exact ⟨t, by omega, by rw [h3], ht, h5.1, h5.2, h4, by omega⟩
/-! a tree's steps are right -/
end Go.Proofs.Ytakokckokchacaa
namespace Go.Proofs.Ytakokckokchacaa
open Go.RowKit
set_option linter.unusedVariables false
variable {B : Nat} {w0 : World} {F : List Ch}
/-- the document's place: what was found, and whether a letter stands before -/
def RefAt (l : List UInt8) (i : Nat) (OUT : List (List UInt8)) (prev : Bool) : Prop :=
  OUT ++ refW prev (l.drop i) = refW false l ∧ (i = 0 → prev = false) ∧ (∀ c, 0 < i → l[i - 1]? = some c → prev = decide (small c ≠ 0)) ∧ OUT.length ≤ i
theorem RefAt.skip {l : List UInt8} {i : Nat} {OUT : List (List UInt8)} {prev : Bool} {c : UInt8} (h : RefAt l i OUT prev) (hc : l[i]? = some c) (hs : small c = 0 ∨ prev = true) : RefAt l (i + 1) OUT (decide (small c ≠ 0)) := by
  obtain ⟨hlt, rfl⟩ := List.getElem?_eq_some_iff.1 hc
  refine ⟨?_, fun h => by omega, fun c' _ hc' => ?_, by have := h.2.2.2; omega⟩
  · have := h.1
    rw [List.drop_eq_getElem_cons hlt, refW, if_pos hs] at this
    exact this
  · rw [Nat.add_sub_cancel, hc] at hc'
    injection hc' with hc'
    rw [hc']
theorem RefAt.put {l : List UInt8} {i : Nat} {OUT : List (List UInt8)} {prev : Bool} {c : UInt8} (h : RefAt l i OUT prev) (hc : l[i]? = some c) (hs : small c ≠ 0) (hp : prev = false) : RefAt l (i + 1) (OUT ++ [wordAt (l.drop i)]) (decide (small c ≠ 0)) := by
  obtain ⟨hlt, rfl⟩ := List.getElem?_eq_some_iff.1 hc
  refine ⟨?_, fun h => by omega, fun c' _ hc' => ?_, by have := h.2.2.2; simp; omega⟩
  · have := h.1
    rw [List.drop_eq_getElem_cons hlt, refW, if_neg (by simp [hs, hp])] at this
    rw [← this, List.append_assoc, decide_eq_true hs, List.drop_eq_getElem_cons hlt]
    rfl
  · rw [Nat.add_sub_cancel, hc] at hc'
    injection hc' with hc'
    rw [hc']
theorem RefAt.done {l : List UInt8} {OUT : List (List UInt8)} {prev : Bool} (h : RefAt l l.length OUT prev) : OUT = wordsL l := by
  have := h.1
  rw [List.drop_length] at this
  rw [words_ref, ← this]
  simp [refW]
/-- inside: the letters taken from place i on -/
def TakenAt (l : List UInt8) (i m : Nat) (R : List UInt8) : Prop := R = ((l.drop i).take m).map small ∧ ∀ x ∈ (l.drop i).take m, small x ≠ 0
theorem TakenAt.more {l : List UInt8} {i m : Nat} {R : List UInt8} {c : UInt8} (h : TakenAt l i m R) (hc : l[i + m]? = some c) (hs : small c ≠ 0) : TakenAt l i (m + 1) (R ++ [small c]) := by
  have e : (l.drop i).take (m + 1) = (l.drop i).take m ++ [c] := by
    rw [List.take_add_one, List.getElem?_drop, hc]; rfl
  refine ⟨by rw [e, List.map_append, ← h.1]; rfl, fun x hx => ?_⟩
  rw [e] at hx
  rcases List.mem_append.1 hx with hx | hx
  · exact h.2 x hx
  · simp at hx; subst hx; exact hs
theorem TakenAt.len {l : List UInt8} {i m : Nat} {R : List UInt8} (h : TakenAt l i m R) (hm : i + m ≤ l.length) : R.length = m := by
  rw [h.1]; simp; omega
theorem RefAt.test {l : List UInt8} {k : Nat} {OUT : List (List UInt8)} {prev : Bool} (h : RefAt l k OUT prev) (hk : k ≤ l.length) : prev = decide (0 < k ∧ small (l.getD (k - 1) 0) ≠ 0) := by
  rcases Nat.eq_zero_or_pos k with h0 | h0
  · rw [h.2.1 h0, decide_eq_false (by omega)]
  · have hlt : k - 1 < l.length := by omega
    rw [h.2.2.1 (l.getD (k - 1) 0) h0 (by rw [List.getElem?_eq_getElem hlt]; simp [List.getD, List.getElem?_eq_getElem hlt])]
    simp [h0]
end Go.Proofs.Ytakokckokchacaa
namespace Go.Proofs.Ytakokckokchacaa
set_option linter.unusedVariables false
def RowOk (t : List UInt8) : Prop := ∀ c ∈ t, small c ≠ 0 ∧ small c = c
def WordOk (t : List UInt8) : Prop := 1 ≤ t.length ∧ t.length ≤ 24 ∧ RowOk t
end Go.Proofs.Ytakokckokchacaa
namespace Go.Proofs
open Go.RowKit Go.Maps Go.Sort Go.Shelf
def Try.sortS_ren : Go.Shelf.Ren := ⟨fun | 6 => 33 | 8 => 49 | 9 => 48 | 19 => 68 | 20 => 69 | 21 => 59 | 22 => 60 | 23 => 61 | 24 => 62 | 25 => 63 | 26 => 64 | 27 => 65 | 28 => 66 | 29 => 67 | 36 => 78 | 31 => 79 | 32 => 80 | 37 => 81 | 38 => 82 | 39 => 83 | 41 => 85 | n => n, fun | 27 => 39 | 29 => 9 | 3 => 3 | 32 => 91 | 26 => 39 | 0 => 0 | 44 => 106 | 46 => 36 | 4 => 4 | 36 => 99 | 35 => 98 | 41 => 103 | 5 => 5 | 9 => 9 | 53 => 116 | 57 => 120 | 63 => 123 | 64 => 124 | n => n, fun | n => n⟩
theorem Try.sortS : Go.Proofs.SlLaysM.n6 Try.prog Try.sortS_ren := {
  mixed := by kernel_rfl
  f6 := ⟨Try.f33.name, by decide, Try.func33.trans (congrArg some (by kernel_rfl))⟩
  f8 := Try.func49.trans (congrArg some (by kernel_rfl))
  f9 := ⟨Try.f48.name, by decide, Try.func48.trans (congrArg some (by kernel_rfl))⟩
  f19 := Try.func68.trans (congrArg some (by kernel_rfl))
  f20 := Try.func69.trans (congrArg some (by kernel_rfl))
  f21 := ⟨Try.f59.name, by decide, Try.func59.trans (congrArg some (by kernel_rfl))⟩
  f22 := ⟨Try.f60.name, by decide, Try.func60.trans (congrArg some (by kernel_rfl))⟩
  f23 := ⟨Try.f61.name, by decide, Try.func61.trans (congrArg some (by kernel_rfl))⟩
  f24 := ⟨Try.f62.name, by decide, Try.func62.trans (congrArg some (by kernel_rfl))⟩
  f25 := ⟨Try.f63.name, by decide, Try.func63.trans (congrArg some (by kernel_rfl))⟩
  f26 := ⟨Try.f64.name, by decide, Try.func64.trans (congrArg some (by kernel_rfl))⟩
  f27 := ⟨Try.f65.name, by decide, Try.func65.trans (congrArg some (by kernel_rfl))⟩
  f28 := ⟨Try.f66.name, by decide, Try.func66.trans (congrArg some (by kernel_rfl))⟩
  f29 := ⟨Try.f67.name, by decide, Try.func67.trans (congrArg some (by kernel_rfl))⟩
  f31 := Try.func79.trans (congrArg some (by kernel_rfl))
  f32 := Try.func80.trans (congrArg some (by kernel_rfl))
  f36 := ⟨Try.f78.name, by decide, Try.func78.trans (congrArg some (by kernel_rfl))⟩
  f37 := ⟨Try.f81.name, by decide, Try.func81.trans (congrArg some (by kernel_rfl))⟩
  f38 := ⟨Try.f82.name, by decide, Try.func82.trans (congrArg some (by kernel_rfl))⟩
  f39 := ⟨Try.f83.name, by decide, Try.func83.trans (congrArg some (by kernel_rfl))⟩
  f41 := ⟨Try.f85.name, by decide, Try.func85.trans (congrArg some (by kernel_rfl))⟩
  t0 := Try.underlying0
  a0 := Try.isAgg0
  z0 := Try.sizeOf0
  v0 := Try.zeroValue0
  t3 := Try.underlying3
  a3 := Try.isAgg3
  z3 := Try.sizeOf3
  v3 := Try.zeroValue3
  t4 := Try.underlying4
  a4 := Try.isAgg4
  z4 := Try.sizeOf4
  v4 := Try.zeroValue4
  t5 := Try.underlying5
  a5 := Try.isAgg5
  z5 := Try.sizeOf5
  v5 := Try.zeroValue5
  t9 := Try.underlying9
  a9 := Try.isAgg9
  z9 := Try.sizeOf9
  v9 := Try.zeroValue9
  t26 := Try.underlying39
  a26 := Try.isAgg39
  z26 := Try.sizeOf39
  v26 := Try.zeroValue39
  t27 := Try.underlying39
  a27 := Try.isAgg39
  z27 := Try.sizeOf39
  v27 := Try.zeroValue39
  t29 := Try.underlying9
  a29 := Try.isAgg9
  z29 := Try.sizeOf9
  v29 := Try.zeroValue9
  t32 := Try.underlying91
  a32 := Try.isAgg91
  z32 := Try.sizeOf91
  v32 := Try.zeroValue91
  t35 := Try.underlying98
  a35 := Try.isAgg98
  z35 := Try.sizeOf98
  v35 := Try.zeroValue98
  t36 := Try.underlying99
  a36 := Try.isAgg99
  z36 := Try.sizeOf99
  v36 := Try.zeroValue99
  t41 := Try.underlying103
  a41 := Try.isAgg103
  z41 := Try.sizeOf103
  v41 := Try.zeroValue103
  t44 := Try.underlying106
  a44 := Try.isAgg106
  z44 := Try.sizeOf106
  v44 := Try.zeroValue106
  t46 := Try.underlying36
  a46 := Try.isAgg36
  z46 := Try.sizeOf36
  v46 := Try.zeroValue36
  t53 := Try.underlying116
  a53 := Try.isAgg116
  z53 := Try.sizeOf116
  v53 := Try.zeroValue116
  t57 := Try.underlying120
  a57 := Try.isAgg120
  z57 := Try.sizeOf120
  v57 := Try.zeroValue120
  t63 := Try.underlying123
  a63 := Try.isAgg123
  z63 := Try.sizeOf123
  v63 := Try.zeroValue123
  t64 := Try.underlying124
  a64 := Try.isAgg124
  z64 := Try.sizeOf124
  v64 := Try.zeroValue124 }
def Try.compS_ren : Go.Shelf.Ren := ⟨fun | 44 => 34 | n => n, fun | 25 => 39 | 26 => 9 | 3 => 3 | 4 => 4 | 0 => 0 | n => n, fun | n => n⟩
theorem Try.compS : Go.Proofs.SlLaysN.n44 Try.prog Try.compS_ren := {
  mixed := by kernel_rfl
  f44 := ⟨Try.f34.name, by decide, Try.func34.trans (congrArg some (by kernel_rfl))⟩
  t0 := Try.underlying0
  a0 := Try.isAgg0
  z0 := Try.sizeOf0
  v0 := Try.zeroValue0
  t3 := Try.underlying3
  a3 := Try.isAgg3
  z3 := Try.sizeOf3
  v3 := Try.zeroValue3
  t4 := Try.underlying4
  a4 := Try.isAgg4
  z4 := Try.sizeOf4
  v4 := Try.zeroValue4
  t25 := Try.underlying39
  a25 := Try.isAgg39
  z25 := Try.sizeOf39
  v25 := Try.zeroValue39
  t26 := Try.underlying9
  a26 := Try.isAgg9
  z26 := Try.sizeOf9
  v26 := Try.zeroValue9
  i26 := by kernel_rfl }
namespace Ytakokckokchacaa
set_option linter.unusedVariables false
variable {B : Nat} {w0 : World} {F : List Ch} {A : Option Addr} {c : Nat}
def leS (x y : List UInt8) : Bool := decide (x ≤ y)
theorem sort_d {l : List (List UInt8)} (hl : l.length < 4611686018427387904) :
    Does Try.prog B w0 33 [.slice A l.length c] (.own 9 1 A l.length c (strs l) :: F) (fun r L => r = .tuple #[] ∧ L = .own 9 1 A l.length c (strs (l.mergeSort leS)) :: F) := by
  intro w hw
  obtain ⟨k1, k2, k3⟩ := hw.head
  by_cases h0 : l.length = 0
  · have hl0 : l = [] := List.eq_nil_of_length_eq_zero h0
    subst hl0
    refine (AnyM.slices_Sort_string_none Try.sortS A c w).mono fun e w' ⟨he, hw'⟩ => ?_
    subst hw'
    exact ⟨_, _, he, ⟨rfl, by simp⟩, hw⟩
  · have hc0 : ¬ c = 0 := by omega
    obtain ⟨g, cur, rfl, hbg, hg, hm, hs, ht⟩ := k3.resolve_left hc0
    rw [Nat.mul_one] at ht
    refine (AnyM.slices_Sort_string Try.sortS g 0 c l w (holds_of_block hg ht) ((Array.getElem?_eq_some_iff.1 hg).1) hl).mono fun e w' ⟨he, n, os, hw'⟩ => ?_
    have hlen : (l.mergeSort fun x y => decide (x ≤ y)).length = l.length := List.length_mergeSort _
    have hfp : (Ch.own 9 1 (some ⟨g, 0, none⟩) l.length c (strs l)).fp = some g := by simp [Ch.fp, hc0]
    have hg2 := grownBy_sorted (w := w) (g := g) (n := n) (os := os) (l.mergeSort fun x y => decide (x ≤ y)).toArray
    rw [← hw'] at hg2
    refine ⟨_, _, he, ⟨rfl, rfl⟩, hw.turn (by rw [hfp]; exact hg2) ⟨?_, k2, .inr ⟨g, _, rfl, hbg, by rw [hw']; exact heap_sorted _ hg, hm, by simpa [putCells] using hs, ?_⟩⟩ (.inr (.inl (by simp [Ch.fp])))⟩
    · simp
    · rw [Nat.mul_one, ← hlen]
      exact take_putCells cur _ (by rw [hlen]; omega)
theorem compact_le (zs : List (List UInt8)) : (Lib.compact zs).length ≤ zs.length := by
  unfold Lib.compact Lib.compactUpTo
  rw [List.length_map]
  exact Nat.le_trans (List.length_filter_le _ _) (by simp)
theorem compact_d {l : List (List UInt8)} (hl : l.length < 4611686018427387904) :
    Does Try.prog B w0 34 [.slice A l.length c] (.own 9 1 A l.length c (strs l) :: F) (fun r L => r = .slice A (Lib.compact l).length c ∧ L = .own 9 1 A (Lib.compact l).length c (strs (Lib.compact l)) :: F) := by
  intro w hw
  obtain ⟨k1, k2, k3⟩ := hw.head
  have hle := compact_le l
  by_cases h0 : l.length = 0
  · have hl0 : l = [] := List.eq_nil_of_length_eq_zero h0
    subst hl0
    refine (AnyG.slices_Compact_string_empty Try.compS A c w).mono fun e w' ⟨he, hw'⟩ => ?_
    subst hw'
    exact ⟨_, _, he, ⟨rfl, by simp [Lib.compact, Lib.compactUpTo, strs]⟩, hw⟩
  · have hc0 : ¬ c = 0 := by omega
    obtain ⟨g, cur, rfl, hbg, hg, hm, hs, ht⟩ := k3.resolve_left hc0
    rw [Nat.mul_one] at ht
    refine (AnyG.slices_Compact_string Try.compS g 0 c l w (holds_of_block hg ht) (by omega) k2).mono fun e w' ⟨he, q, hw'⟩ => ?_
    obtain ⟨ys, hys⟩ : ∃ ys, ys = Lib.compact l ++ List.replicate (l.length - (Lib.compact l).length) [] := ⟨_, rfl⟩
    have hyl : ys.length = l.length := by rw [hys]; simp; omega
    rw [← hys] at hw'
    have hfp : (Ch.own 9 1 (some ⟨g, 0, none⟩) l.length c (strs l)).fp = some g := by simp [Ch.fp, hc0]
    have hg2 := grownBy_sorted (w := w) (g := g) (n := q) (os := #[]) ys.toArray
    have hh := heap_sorted (n := q) (os := #[]) ys.toArray hg
    rw [grow_empty, ← hw'] at hg2 hh
    refine ⟨_, _, he, ⟨rfl, rfl⟩, hw.turn (by rw [hfp]; exact hg2) ⟨by simp, by omega, .inr ⟨g, _, rfl, hbg, hh, hm, by simpa [putCells] using hs, ?_⟩⟩ (.inr (.inl (by simp [Ch.fp])))⟩
    have ht2 := take_putCells cur ys (by rw [hyl]; omega)
    have := congrArg (List.take (Lib.compact l).length) ht2
    rw [List.take_take, hyl, Nat.min_eq_left hle] at this
    rw [Nat.mul_one, this, ← List.map_take, hys, List.take_left]
    rfl
end Ytakokckokchacaa
end Go.Proofs
namespace Go.Proofs.Ytakokckokchacaa
open Go.RowKit
set_option linter.unusedVariables false
set_option maxRecDepth 20000
theorem ltT_iff (a b : Txt) : ltT a b ↔ a < b := by
  unfold ltT
  rw [bytesLess_eq]
  simp
/-- each text is below the next ones -/
def StT (l : List Txt) : Prop := l.Pairwise ltT
theorem StT.nil : StT [] := List.Pairwise.nil
theorem StT.ext : ∀ {a b : List Txt}, StT a → StT b → (∀ x, x ∈ a ↔ x ∈ b) → a = b
  | [], [], _, _, _ => rfl
  | [], y :: b, _, _, h => absurd ((h y).2 (by simp)) (by simp)
  | x :: a, [], _, _, h => absurd ((h x).1 (by simp)) (by simp)
  | x :: a, y :: b, ha, hb, h => by
    obtain ⟨ha1, ha2⟩ := List.pairwise_cons.1 ha
    obtain ⟨hb1, hb2⟩ := List.pairwise_cons.1 hb
    have hxy : x = y := by
      rcases List.mem_cons.1 ((h x).1 (by simp)) with e | e
      · exact e
      · rcases List.mem_cons.1 ((h y).2 (by simp)) with e2 | e2
        · exact e2.symm
        · exact absurd (ltT_trans (ha1 y e2) (hb1 x e)) (ltT_irrefl _)
    subst hxy
    congr 1
    refine StT.ext ha2 hb2 fun z => ⟨fun hz => ?_, fun hz => ?_⟩
    · rcases List.mem_cons.1 ((h z).1 (List.mem_cons_of_mem _ hz)) with e | e
      · subst e; exact absurd (ha1 _ hz) (ltT_irrefl _)
      · exact e
    · rcases List.mem_cons.1 ((h z).2 (List.mem_cons_of_mem _ hz)) with e | e
      · subst e; exact absurd (hb1 _ hz) (ltT_irrefl _)
      · exact e
/-! sorted, and runs made single -/
theorem leS_iff (a b : Txt) : leS a b = true ↔ ¬ ltT b a := by
  unfold leS
  rw [decide_eq_true_iff, ltT_iff]
  exact List.not_lt.symm
theorem sort_pw (l : List Txt) : (l.mergeSort leS).Pairwise (fun a b => ¬ ltT b a) := by
  have h := List.pairwise_mergeSort (le := leS) (fun a b c h1 h2 => by
    rw [leS_iff, not_ltT] at *
    exact h1.elim (fun h1 => .inl (ltT_leT h1 h2)) (fun h1 => h1 ▸ h2)) (fun a b => by
    rcases ltT_total a b with h | h | h
    · simp [(leS_iff a b).2 (fun k => ltT_irrefl _ (ltT_trans h k))]
    · subst h; simp [(leS_iff a a).2 (ltT_irrefl _)]
    · simp [(leS_iff b a).2 (fun k => ltT_irrefl _ (ltT_trans h k))]) l
  exact h.imp fun h => (leS_iff _ _).1 h
theorem comp_inv {l : List Txt} (hp : l.Pairwise (fun a b => ¬ ltT b a)) : ∀ m, m ≤ l.length → StT (Lib.compactUpTo l.toArray m) ∧ (∀ x, x ∈ Lib.compactUpTo l.toArray m ↔ x ∈ l.take m)
  | 0, _ => ⟨by simp [StT, Lib.compactUpTo], by simp [Lib.compactUpTo]⟩
  | m + 1, hm => by
    obtain ⟨h1, h2⟩ := comp_inv hp m (by omega)
    rw [Lib.compactUpTo_succ]
    have hlm : m < l.length := by omega
    have hg : l.toArray[m]! = l[m] := by simp [getElem!_pos, hlm]
    have htk : l.take (m + 1) = l.take m ++ [l[m]] := by rw [List.take_add_one, List.getElem?_eq_getElem hlm]; rfl
    by_cases hk : Lib.keeps l.toArray m = true
    · rw [if_pos hk, hg]
      have hkk : m = 0 ∨ l.toArray[m]! ≠ l.toArray[m - 1]! := by simpa [Lib.keeps] using hk
      refine ⟨?_, fun x => ?_⟩
      · refine List.pairwise_append.2 ⟨h1, List.pairwise_singleton _ _, fun a ha b hb => ?_⟩
        rw [List.mem_singleton] at hb
        subst hb
        have ha' := (h2 a).1 ha
        obtain ⟨i, hi, rfl⟩ := List.getElem_of_mem ha'
        rw [List.length_take] at hi
        rw [List.getElem_take]
        have hle : ∀ i j (hi : i < l.length) (hj : j < l.length), i < j → ¬ ltT l[j] l[i] := fun i j hi hj hij => List.pairwise_iff_getElem.1 hp i j hi hj hij
        have hm0 : m ≠ 0 := by omega
        have hne : l[m] ≠ l[m - 1]'(by omega) := by
          have := hkk.resolve_left hm0
          rw [hg] at this
          simpa [getElem!_pos, show m - 1 < l.length by omega] using this
        have hlt : ltT (l[m - 1]'(by omega)) l[m] := by
          rcases ltT_total (l[m - 1]'(by omega)) l[m] with h | h | h
          · exact h
          · exact absurd h.symm hne
          · exact absurd h (hle (m - 1) m (by omega) hlm (by omega))
        by_cases him : i = m - 1
        · subst him; exact hlt
        · exact leT_ltT (not_ltT.1 (hle i (m - 1) (by omega) (by omega) (by omega))) hlt
      · rw [htk, List.mem_append, List.mem_append, h2]
    · rw [if_neg hk, List.append_nil]
      refine ⟨h1, fun x => ?_⟩
      rw [htk, List.mem_append, h2, List.mem_singleton]
      refine ⟨.inl, fun h => h.elim id fun h => ?_⟩
      have hkk : ¬ (m = 0 ∨ l.toArray[m]! ≠ l.toArray[m - 1]!) := by simpa [Lib.keeps] using hk
      have hm0 : m ≠ 0 := fun h => hkk (.inl h)
      have he : l.toArray[m]! = l.toArray[m - 1]! := Classical.not_not.1 fun h => hkk (.inr h)
      rw [hg] at he
      have hg1 : l.toArray[m - 1]! = l[m - 1]'(by omega) := by simp [getElem!_pos, show m - 1 < l.length by omega]
      rw [hg1] at he
      rw [h, he]
      exact List.mem_take_iff_getElem.2 ⟨m - 1, by omega, rfl⟩
/-- a list's texts, each once, rising -/
def setT (l : List Txt) : List Txt := Lib.compact (l.mergeSort leS)
theorem setT_st (l : List Txt) : StT (setT l) := by
  have := (comp_inv (sort_pw l) (l.mergeSort leS).length (Nat.le_refl _)).1
  exact this
theorem setT_mem (l : List Txt) (x : Txt) : x ∈ setT l ↔ x ∈ l := by
  have := (comp_inv (sort_pw l) (l.mergeSort leS).length (Nat.le_refl _)).2 x
  rw [List.take_length, List.mem_mergeSort] at this
  exact this
theorem setT_len (l : List Txt) : (setT l).length ≤ l.length := by
  have := compact_le (l.mergeSort leS)
  rwa [List.length_mergeSort] at this
theorem setT_uniq {l r : List Txt} (h : StT r) (hm : ∀ x, x ∈ r ↔ x ∈ l) : setT l = r := StT.ext (setT_st l) h fun x => (setT_mem l x).trans (hm x).symm
/-- the document's: a text put into a rising list -/
def putL (l : List Txt) (s : Txt) : List Txt := setT (l ++ [s])
theorem StT.put {l : List Txt} (h : StT l) {s : Txt} {k : Nat} (hk : k ≤ l.length) (hlo : ∀ i, i < k → ltT (l.getD i []) s) (hhi : k < l.length → ¬ ltT (l.getD k []) s) :
    putL l s = if k < l.length ∧ l.getD k [] = s then l else l.take k ++ [s] ++ l.drop k := by
  have hgd : ∀ i (hi : i < l.length), l.getD i [] = l[i] := fun i hi => by simp [List.getD, List.getElem?_eq_getElem hi]
  split
  · rename_i he
    refine setT_uniq h fun x => ?_
    rw [List.mem_append, List.mem_singleton]
    refine ⟨.inl, fun hx => hx.elim id fun hx => ?_⟩
    rw [hx, ← he.2, hgd k he.1]
    exact List.getElem_mem _
  · rename_i hne
    refine setT_uniq ?_ fun x => ?_
    · have hlt : k < l.length → ltT s (l.getD k []) := fun hkl => by
        rcases ltT_total s (l.getD k []) with h | h | h
        · exact h
        · exact absurd ⟨hkl, h.symm⟩ hne
        · exact absurd h (hhi hkl)
      have hpw := List.pairwise_iff_getElem.1 h
      refine List.pairwise_append.2 ⟨List.pairwise_append.2 ⟨h.sublist (List.take_sublist _ _), List.pairwise_singleton _ _, fun a ha b hb => ?_⟩, h.sublist (List.drop_sublist _ _), fun a ha b hb => ?_⟩
      · rw [List.mem_singleton] at hb
        subst hb
        obtain ⟨i, hi, rfl⟩ := List.getElem_of_mem ha
        rw [List.length_take] at hi
        rw [List.getElem_take, ← hgd i (by omega)]
        exact hlo i (by omega)
      · obtain ⟨j, hj, rfl⟩ := List.getElem_of_mem hb
        rw [List.length_drop] at hj
        rw [List.getElem_drop]
        have hs : ltT s l[k + j] := by
          have h1 := hlt (by omega)
          rw [hgd k (by omega)] at h1
          rcases Nat.eq_zero_or_pos j with h0 | h0
          · subst h0; exact h1
          · exact ltT_trans h1 (hpw k (k + j) (by omega) (by omega) (by omega))
        rcases List.mem_append.1 ha with ha | ha
        · obtain ⟨i, hi, rfl⟩ := List.getElem_of_mem ha
          rw [List.length_take] at hi
          rw [List.getElem_take, ]
          exact hpw i (k + j) (by omega) (by omega) (by omega)
        · rw [List.mem_singleton] at ha
          subst ha; exact hs
    · rw [List.mem_append, List.mem_append, List.mem_append, List.mem_singleton]
      conv => rhs; rw [← List.take_append_drop k l, List.mem_append]
      constructor
      · rintro ((h | h) | h)
        · exact .inl (.inl h)
        · exact .inr h
        · exact .inl (.inr h)
      · rintro ((h | h) | h)
        · exact .inl (.inl h)
        · exact .inr h
        · exact .inl (.inr h)
/-- the texts whose set a record's terms are: of its text, of its source -/
def rawT (txt src : List UInt8) : List Txt := wordsL txt ++ (wordsL src).map (64 :: ·)
def termsL (txt src : List UInt8) : List Txt := setT (rawT txt src)
end Go.Proofs.Ytakokckokchacaa
namespace Go.Proofs.Ytakokckokchacaa
open Go.RowKit
set_option linter.unusedVariables false
set_option maxRecDepth 20000
variable {B : Nat} {w0 : World} {F : List Ch} {A A1 A2 : Option Addr} {n c c1 c2 g : Nat}
theorem rputT_d {l : List Txt} (hS : StT l) (hl : l.length ≤ 1000000000000) (t : Txt) :
    Does Try.prog B w0 35 [.slice A l.length c, .string ⟨t.toArray⟩] (.own 9 1 A l.length c (strs l) :: F) (fun r L => ∃ A' c', r = .slice A' (putL l t).length c' ∧ L = .own 9 1 A' (putL l t).length c' (strs (putL l t)) :: F) := by
  refine fn_walk Try.func35 48 rfl rfl rfl [(0, .slice A l.length c), (1, .string ⟨t.toArray⟩)] ⟨⟨rfl, rfl⟩, ⟨rfl, rfl⟩, trivial⟩ ?_
  refine vc_seq ?_
  refine vc_region ?_
  refine vl_det (det_assign rfl) rfl ?_
  refine vl_end [(0, _), (1, _)] ⟨rfl, rfl, trivial⟩ ?_
  refine then_next ?_
  refine vc_seq ?_
  refine vc_region ?_
  refine vl_det (det_assign rfl) rfl ?_
  refine vl_end [(0, _), (1, _), (5, _)] ⟨rfl, rfl, rfl, trivial⟩ ?_
  refine then_next ?_
  refine vc_seq ?_
  refine vc_block ?_
  refine vc_loopJ (fun zf zL zm => ∃ (k : Nat), (k ≤ l.length ∧ (∀ i, i < k → ltT (l.getD i []) t)) ∧ l.length - k = zm ∧ Sub zf [(0, .slice A l.length c), (1, .string ⟨t.toArray⟩), (5, .int .i64 k)] ∧ Wk zL (.own 9 1 A l.length c (strs l) :: F)) _ ⟨0, ⟨Nat.zero_le _, fun i h => absurd h (by omega)⟩, rfl, ⟨(by first | rfl | exact int_to (by omega) | exact sl_to (by omega)), (by first | rfl | exact int_to (by omega) | exact sl_to (by omega)), (by first | rfl | exact int_to (by omega) | exact sl_to (by omega)), trivial⟩, .refl _⟩ ?_
  rintro _ _ _ ⟨k, ⟨hk, hlo⟩, rfl, hs, hp⟩
  refine vc_weaken _ hs (vc_wk hp ?_)
  clear hs hp
  refine vc_seq ?_
  refine vc_seq ?_
  refine vc_region ?_
  refine vl_cut 12 18 [(0, _), (1, _), (5, _)] ((k : Int) < l.length ∧ Op.bytesLess (l.getD k []) t = true) ⟨rfl, rfl, rfl, trivial⟩ ?_ ?_
  · skip
    refine vl_det (det_move rfl) rfl ?_
    refine vl_det (det_move rfl) rfl ?_
    refine vl_det (det_len_sl Try.underlying39 rfl) rfl ?_
    refine vl_det (det_lss rfl rfl) rfl ?_
    refine vl_det (det_move rfl) rfl ?_
    refine vl_guardp rfl rfl rfl (fun h11 => ?_) (fun h11 => ?_)
    · skip
      refine vl_det (det_move rfl) rfl ?_
      refine vl_guard_t rfl rfl ?_
      refine vl_det (det_move rfl) rfl ?_
      refine vl_guard_t rfl rfl ?_
      refine vl_det (det_indexAddr (size := 1) Try.underlying39 (by kernel_rfl) rfl rfl rfl (by omega) (by first | (exact Bor.own (by repeat (first | exact List.Mem.head _ | apply List.Mem.tail))) | (repeat (first | assumption | apply Bor.cons)))) rfl ?_
      refine vl_guard_t rfl rfl ?_
      refine vl_det (det_load_str (b := l) (j := k) (by kernel_rfl) rfl (by first | (exact Bor.own (by repeat (first | exact List.Mem.head _ | apply List.Mem.tail))) | (repeat (first | assumption | apply Bor.cons))) (by omega)) rfl ?_
      refine vl_guard_t rfl rfl ?_
      refine vl_det (det_move rfl) rfl ?_
      refine vl_guard_t rfl rfl ?_
      refine vl_det (det_s_lssD rfl rfl) rfl ?_
      refine vl_det (det_pick_t rfl rfl) rfl ?_
      exact vl_cut_end ⟨rfl, rfl, rfl, trivial⟩ (by first | rfl | exact bool_to_t (by first | omega | simp_all) | exact bool_to_f (by first | omega | simp_all) | exact bool_to (by first | omega | simp_all) | exact bool_to_b (by first | omega | simp_all))
    · skip
      refine vl_guard_f rfl rfl rfl rfl ?_
      refine vl_guard_f rfl rfl rfl rfl ?_
      refine vl_guard_f rfl rfl rfl rfl ?_
      refine vl_guard_f rfl rfl rfl rfl ?_
      refine vl_guard_f rfl rfl rfl rfl ?_
      refine vl_det (det_pick_f rfl rfl) rfl ?_
      exact vl_cut_end ⟨rfl, rfl, rfl, trivial⟩ (by first | rfl | exact bool_to_t (by first | omega | simp_all) | exact bool_to_f (by first | omega | simp_all) | exact bool_to (by first | omega | simp_all) | exact bool_to_b (by first | omega | simp_all))
  · skip
    refine vl_end [(0, _), (1, _), (5, _), (18, _)] ⟨rfl, rfl, rfl, rfl, trivial⟩ ?_
    refine then_next ?_
    refine vc_decideU rfl (fun h18 => ?_) (fun h18 => ?_)
    · skip
      refine vc_skip ?_
      refine then_next ?_
      refine vc_block ?_
      refine vc_region ?_
      refine vl_det (det_move rfl) rfl ?_
      refine vl_det (det_add rfl rfl (w_i64 (by omega) (by omega))) rfl ?_
      refine vl_det (det_assign rfl) rfl ?_
      refine vl_end [(0, _), (1, _), (5, _)] ⟨rfl, rfl, rfl, trivial⟩ ?_
      refine in_normal ?_
      refine in_loop_ ⟨_, by omega, k + 1, ⟨by omega, fun i hi => by
  rcases Nat.lt_or_ge i k with h | h
  · exact hlo i h
  · rw [show i = k by omega]; exact h18.2⟩, rfl, ⟨(by first | rfl | exact int_to (by omega) | exact sl_to (by omega)), (by first | rfl | exact int_to (by omega) | exact sl_to (by omega)), (by first | rfl | exact int_to (by omega) | exact sl_to (by omega)), trivial⟩, .refl _⟩
    · skip
      have hput := hS.put hk hlo (fun h h2 => h18 ⟨by omega, h2⟩)
      refine vc_exit ?_
      refine then_exit ?_
      refine loop_exit ?_
      refine in_eq ?_
      refine then_next ?_
      refine vc_seq ?_
      refine vc_seq ?_
      refine vc_region ?_
      refine vl_cut 12 32 [(0, _), (1, _), (5, _)] (k < l.length ∧ l.getD k [] = t) ⟨rfl, rfl, rfl, trivial⟩ ?_ ?_
      · skip
        refine vl_det (det_move rfl) rfl ?_
        refine vl_det (det_move rfl) rfl ?_
        refine vl_det (det_len_sl Try.underlying39 rfl) rfl ?_
        refine vl_det (det_lss rfl rfl) rfl ?_
        refine vl_det (det_move rfl) rfl ?_
        refine vl_guardp rfl rfl rfl (fun h25 => ?_) (fun h25 => ?_)
        · skip
          refine vl_det (det_move rfl) rfl ?_
          refine vl_guard_t rfl rfl ?_
          refine vl_det (det_move rfl) rfl ?_
          refine vl_guard_t rfl rfl ?_
          refine vl_det (det_indexAddr (size := 1) Try.underlying39 (by kernel_rfl) rfl rfl rfl (by omega) (by first | (exact Bor.own (by repeat (first | exact List.Mem.head _ | apply List.Mem.tail))) | (repeat (first | assumption | apply Bor.cons)))) rfl ?_
          refine vl_guard_t rfl rfl ?_
          refine vl_det (det_load_str (b := l) (j := k) (by kernel_rfl) rfl (by first | (exact Bor.own (by repeat (first | exact List.Mem.head _ | apply List.Mem.tail))) | (repeat (first | assumption | apply Bor.cons))) (by omega)) rfl ?_
          refine vl_guard_t rfl rfl ?_
          refine vl_det (det_move rfl) rfl ?_
          refine vl_guard_t rfl rfl ?_
          refine vl_det (det_s_eql rfl rfl) rfl ?_
          refine vl_det (det_pick_t rfl rfl) rfl ?_
          exact vl_cut_end ⟨rfl, rfl, rfl, trivial⟩ (by first | rfl | exact bool_to_t (by first | omega | exact ⟨fun h => ⟨by omega, h⟩, fun h => h.2⟩) | exact bool_to_f (by first | omega | exact ⟨fun h => ⟨by omega, h⟩, fun h => h.2⟩) | exact bool_to (by first | omega | exact ⟨fun h => ⟨by omega, h⟩, fun h => h.2⟩) | exact bool_to_b (by first | omega | exact ⟨fun h => ⟨by omega, h⟩, fun h => h.2⟩))
        · skip
          refine vl_guard_f rfl rfl rfl rfl ?_
          refine vl_guard_f rfl rfl rfl rfl ?_
          refine vl_guard_f rfl rfl rfl rfl ?_
          refine vl_guard_f rfl rfl rfl rfl ?_
          refine vl_guard_f rfl rfl rfl rfl ?_
          refine vl_det (det_pick_f rfl rfl) rfl ?_
          exact vl_cut_end ⟨rfl, rfl, rfl, trivial⟩ (by first | rfl | exact bool_to_t (by first | omega | exact ⟨fun h => ⟨by omega, h⟩, fun h => h.2⟩) | exact bool_to_f (by first | omega | exact ⟨fun h => ⟨by omega, h⟩, fun h => h.2⟩) | exact bool_to (by first | omega | exact ⟨fun h => ⟨by omega, h⟩, fun h => h.2⟩) | exact bool_to_b (by first | omega | exact ⟨fun h => ⟨by omega, h⟩, fun h => h.2⟩))
      · skip
        refine vl_end [(0, _), (1, _), (5, _), (32, _)] ⟨rfl, rfl, rfl, rfl, trivial⟩ ?_
        refine then_next ?_
        refine vc_decideU rfl (fun h32 => ?_) (fun h32 => ?_)
        · skip
          rw [if_pos h32] at hput
          refine vc_seq ?_
          refine vc_region ?_
          refine vl_det (det_move rfl) rfl ?_
          refine vl_det (det_assign rfl) rfl ?_
          refine vl_end [(4, _)] ⟨rfl, trivial⟩ ?_
          refine then_next ?_
          refine vc_ret ?_
          refine then_ret ?_
          refine ret1 rfl rfl ?_
          exact ⟨A, c, by rw [hput], by rw [hput]⟩
        · skip
          rw [if_neg h32] at hput
          refine vc_bor (A := A) (nn := l.length) (c := c) (size := 1) (xs := strs l) (by first | (exact Bor.own (by repeat (first | exact List.Mem.head _ | apply List.Mem.tail))) | (repeat (first | assumption | apply Bor.cons))) fun hcap _ => ?_
          have hb0 : Bor B w0 (.own 9 1 A l.length c (strs l) :: F) 1 (.slice A l.length c) l.length (strs l) := Bor.own (List.Mem.head _)
          have hcut := hb0.cut hk
          have hhd := hb0.head_ hk
          rw [show (strs l).take (k * 1) = strs (l.take k) by rw [Nat.mul_one]; simp [strs]] at hhd
          rw [show (strs l).drop (k * 1) = strs (l.drop k) by rw [Nat.mul_one]; simp [strs]] at hcut
          obtain ⟨A9, hA9⟩ : ∃ A9, A9 = (if c = k then A else A.map (·.add (k * 1))) := ⟨_, rfl⟩
          obtain ⟨c9, hc9⟩ : ∃ c9, c9 = c - k := ⟨_, rfl⟩
          rw [← hA9, ← hc9] at hcut
          refine vc_skip ?_
          refine then_next ?_
          refine vc_seq ?_
          refine vc_nil_row 9 1 none ?_
          refine vc_region ?_
          refine vl_det (det_assign rfl) rfl ?_
          refine vl_end [(0, _), (1, _), (5, _), (6, _)] ⟨rfl, rfl, rfl, rfl, trivial⟩ ?_
          refine then_next ?_
          refine vc_seq ?_
          refine vc_region ?_
          refine vl_det (det_move rfl) rfl ?_
          refine vl_det (det_move rfl) rfl ?_
          refine vl_det (det_move rfl) rfl ?_
          refine vl_det (det_slice_hi (i := k) (size := 1) Try.underlying39 (by kernel_rfl) rfl rfl rfl (by omega)) rfl ?_
          refine vl_eff (eff_app slT39 rfl (by repeat (first | exact .hd | apply Sel.tl)) rfl (by first | (exact Bor.own (by repeat (first | exact List.Mem.head _ | apply List.Mem.tail))) | (repeat (first | assumption | apply Bor.cons))) (by first | exact bv_one _ | exact strs_one _ | exact ints_one _ _ | (simp; done) | (simp [Value.oneCell']; done) | assumption) (by omega) (by omega)) rfl ?_
          rintro _ _ ⟨A38, c38, rfl, rfl⟩
          refine vl_det (det_assign rfl) rfl ?_
          refine vl_end [(0, _), (1, _), (5, _), (6, _)] ⟨rfl, rfl, rfl, rfl, trivial⟩ ?_
          refine then_next ?_
          refine vc_seq ?_
          refine vc_region ?_
          refine vl_det (det_move rfl) rfl ?_
          refine vl_det (det_move rfl) rfl ?_
          refine vl_push slT39 rfl rfl rfl rfl rfl (fun _ => rfl) (by repeat (first | exact .hd | apply Sel.tl)) (by omega) (by omega) ?_
          intro _ A42 c42
          refine vl_det (det_assign rfl) rfl ?_
          refine vl_end [(0, _), (5, _), (6, _)] ⟨rfl, rfl, rfl, trivial⟩ ?_
          refine then_next ?_
          refine vc_seq ?_
          refine vc_region ?_
          refine vl_det (det_move rfl) rfl ?_
          refine vl_det (det_move rfl) rfl ?_
          refine vl_det (det_move rfl) rfl ?_
          refine vl_det (det_slice_lo (i := k) (size := 1) Try.underlying39 (by kernel_rfl) rfl rfl rfl hk) rfl ?_
          rw [← hA9, ← hc9]
          refine vl_eff (eff_app slT39 rfl (by repeat (first | exact .hd | apply Sel.tl)) rfl (by first | (exact Bor.own (by repeat (first | exact List.Mem.head _ | apply List.Mem.tail))) | (repeat (first | assumption | apply Bor.cons))) (by first | exact bv_one _ | exact strs_one _ | exact ints_one _ _ | (simp; done) | (simp [Value.oneCell']; done) | assumption) (by omega) (by omega)) rfl ?_
          rintro _ _ ⟨A47, c47, rfl, rfl⟩
          refine vl_det (det_assign rfl) rfl ?_
          refine vl_end [(4, _)] ⟨rfl, trivial⟩ ?_
          refine then_next ?_
          refine vc_ret ?_
          have hel : 0 + k + 1 + (l.length - k) = (putL l t).length := by rw [hput]; simp; omega
          rw [hel]
          refine ret_wk (L' := .own 9 1 A47 (putL l t).length c47 (strs (putL l t)) :: F) (wk_own rfl (by rw [hput]; simp [strs]) (.skip (.refl _))) ?_
          refine ret1 rfl rfl ?_
          exact ⟨A47, c47, rfl, rfl⟩
theorem putL_set (o : List Txt) (x : Txt) : putL (setT o) x = setT (o ++ [x]) := setT_uniq (setT_st _) fun y => by simp [setT_mem]
end Go.Proofs.Ytakokckokchacaa

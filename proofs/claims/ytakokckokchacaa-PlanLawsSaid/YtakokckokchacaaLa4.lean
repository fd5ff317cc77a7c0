/-
  Texts of one proof, joined: part 4. No condition.
-/
import Derived.Test.YtakokckokchacaaLa3
namespace Go.Proofs.Ytakokckokchacaa
open Go.RowKit
set_option linter.unusedVariables false
set_option maxRecDepth 20000
variable {B : Nat} {w0 : World} {F : List Ch} {A A2 : Option Addr} {n c c2 : Nat}
def maxL : List Nat → Nat
  | [] => 0
  | x :: r => max x (maxL r)
theorem maxL_snoc : ∀ (l : List Nat) (x : Nat), maxL (l ++ [x]) = max (maxL l) x
  | [], x => by simp [maxL]
  | y :: r, x => by simp only [List.cons_append, maxL, maxL_snoc r x]; omega
theorem maxL_le {m : Nat} : ∀ {l : List Nat}, (∀ x ∈ l, x ≤ m) → maxL l ≤ m
  | [], _ => Nat.zero_le _
  | y :: r, h => by
    have h1 := h y (by simp)
    have h2 := maxL_le (l := r) fun x hx => h x (by simp [hx])
    simp only [maxL]; omega
/-- the depths of the queries that lie there, behind more steps -/
def depS : List Nat → List StepC → Option (List Nat)
  | D, [] => some D
  | D, s :: r => if rightS s ∧ takesS s ≤ D.length then depS (D.take (D.length - (takesS s).toNat) ++ [maxL (D.drop (D.length - (takesS s).toNat)) + 1]) r else none
def depthQ (q : List StepC) : Int × Int :=
  if 1000 < q.length then (0, 6) else match depS [] q with
    | none => (0, 10)
    | some D => if D.length = 1 then (((D.getD 0 0 : Nat) : Int), 0) else (0, 10)
theorem depthQ_a {q : List StepC} (h : 1000 < q.length) : depthQ q = (0, 6) := if_pos h
theorem depthQ_n {q : List StepC} (h : ¬ 1000 < q.length) (h2 : depS [] q = none) : depthQ q = (0, 10) := by unfold depthQ; rw [if_neg h, h2]
theorem depthQ_m {q : List StepC} {D : List Nat} (h : ¬ 1000 < q.length) (h2 : depS [] q = some D) (h3 : ¬ D.length = 1) : depthQ q = (0, 10) := by unfold depthQ; rw [if_neg h, h2]; simp only; rw [if_neg h3]
theorem depthQ_1 {q : List StepC} {D : List Nat} (h : ¬ 1000 < q.length) (h2 : depS [] q = some D) (h3 : D.length = 1) : depthQ q = (((D.getD 0 0 : Nat) : Int), 0) := by unfold depthQ; rw [if_neg h, h2]; simp only; rw [if_pos h3]
theorem depS_cons {D : List Nat} {s : StepC} {r : List StepC} : depS D (s :: r) = if rightS s ∧ takesS s ≤ D.length then depS (D.take (D.length - (takesS s).toNat) ++ [maxL (D.drop (D.length - (takesS s).toNat)) + 1]) r else none := rfl
theorem natv_drop (l : List Nat) (k : Nat) : (natv l).drop (k * 1) = natv (l.drop k) := by rw [Nat.mul_one]; simp [natv, List.map_drop]
theorem natv_take (l : List Nat) (k : Nat) : (natv l).take (k * 1) = natv (l.take k) := by rw [Nat.mul_one]; simp [natv, List.map_take]
theorem natv_snoc (l : List Nat) (x : Nat) : natv l ++ [.int .i64 (x : Int)] = natv (l ++ [x]) := by simp [natv]
theorem mem_take_le {m : Nat} {l : List Nat} (h : ∀ x ∈ l, x ≤ m) (k : Nat) : ∀ x ∈ l.take k, x ≤ m := fun x hx => h x (List.mem_of_mem_take hx)
theorem mem_drop_le {m : Nat} {l : List Nat} (h : ∀ x ∈ l, x ≤ m) (k : Nat) : ∀ x ∈ l.drop k, x ≤ m := fun x hx => h x (List.mem_of_mem_drop hx)
theorem dep_le {m k : Nat} {D : List Nat} {i : Nat} (h : ∀ x ∈ D, x ≤ k) (hm : m ≤ k) : ∀ x ∈ D.take i ++ [m + 1], x ≤ k + 1 := fun x hx => by
  rcases List.mem_append.1 hx with hx | hx
  · have := mem_take_le h i x hx; omega
  · rw [List.mem_singleton] at hx; omega
theorem depth_d {q : List StepC} (hb : Bor B w0 F 5 (.slice A q.length c) q.length (stepsV q)) :
    Does Try.prog B w0 23 [.slice A q.length c] F (fun r L => r = .tuple #[.int .i64 (depthQ q).1, .int .i64 (depthQ q).2] ∧ L = F) := by
  refine fn_walk Try.func23 63 rfl rfl rfl [(0, .slice A q.length c)] ⟨⟨rfl, rfl⟩, trivial⟩ ?_
  refine vc_seq ?_
  refine vc_region ?_
  refine vl_det (det_assign rfl) rfl ?_
  refine vl_det (det_assign rfl) rfl ?_
  refine vl_end [(0, _)] ⟨rfl, trivial⟩ ?_
  refine then_next ?_
  refine vc_seq ?_
  refine vc_seq ?_
  refine vc_region ?_
  refine vl_det (det_move rfl) rfl ?_
  refine vl_det (det_len_sl Try.underlying22 rfl) rfl ?_
  refine vl_det (det_gtr rfl rfl) rfl ?_
  refine vl_end [(0, _), (13, _)] ⟨rfl, rfl, trivial⟩ ?_
  refine then_next ?_
  refine vc_decideU rfl (fun h13 => ?_) (fun h13 => ?_)
  · skip
    rw [depthQ_a (by omega)]
    refine vc_seq ?_
    refine vc_region ?_
    refine vl_det (det_assign rfl) rfl ?_
    refine vl_det (det_assign rfl) rfl ?_
    refine vl_end [(2, _), (3, _)] ⟨rfl, rfl, trivial⟩ ?_
    refine then_next ?_
    refine vc_ret ?_
    refine then_ret ?_
    refine ret2 rfl rfl rfl ?_
    exact ⟨rfl, rfl⟩
  · skip
    have hq : ¬ 1000 < q.length := by omega
    have hQ0 := @depthQ_n q hq
    have hQ1 := @depthQ_1 q
    have hQ2 := @depthQ_m q
    obtain ⟨G, hG⟩ : ∃ G, G = depS [] q := ⟨_, rfl⟩
    rw [← hG] at hQ0
    simp only [← hG] at hQ1 hQ2
    refine vc_skip ?_
    refine then_next ?_
    refine vc_seq ?_
    refine vc_nil_row 3 1 none ?_
    refine vc_region ?_
    refine vl_det (det_assign rfl) rfl ?_
    refine vl_end [(0, _), (4, _)] ⟨rfl, rfl, trivial⟩ ?_
    refine then_next ?_
    refine vc_seq ?_
    refine vc_seq ?_
    refine vc_region ?_
    refine vl_det (det_move rfl) rfl ?_
    refine vl_det (det_len_sl Try.underlying22 rfl) rfl ?_
    refine vl_det (det_move rfl) rfl ?_
    refine vl_end [(4, _), (14, _), (15, _), (16, _)] ⟨rfl, rfl, rfl, rfl, trivial⟩ ?_
    refine then_next ?_
    refine vc_block ?_
    refine vc_loopJ (fun zf zL zm => ∃ (k : Nat) (D : List Nat) (A4 : Option Addr) (c4 : Nat), (k ≤ q.length ∧ depS D (q.drop k) = G ∧ D.length ≤ k ∧ (∀ x ∈ D, x ≤ k)) ∧ q.length - k = zm ∧ Sub zf [(4, .slice A4 D.length c4), (14, .slice A q.length c), (15, .int .i64 q.length), (16, .int .i64 k)] ∧ Wk zL (.own 3 1 A4 D.length c4 (natv D) :: F)) _ ⟨0, [], none, 0, ⟨Nat.zero_le _, hG.symm, Nat.zero_le _, fun x hx => absurd hx (by simp)⟩, rfl, ⟨(by first | rfl | exact int_to (by omega) | exact sl_to (by omega)), (by first | rfl | exact int_to (by omega) | exact sl_to (by omega)), (by first | rfl | exact int_to (by omega) | exact sl_to (by omega)), (by first | rfl | exact int_to (by omega) | exact sl_to (by omega)), trivial⟩, .refl _⟩ ?_
    rintro _ _ _ ⟨k, D, A4, c4, ⟨hk, hS, hDl, hDx⟩, rfl, hs, hp⟩
    refine vc_weaken _ hs (vc_wk hp ?_)
    clear hs hp
    refine vc_seq ?_
    refine vc_region ?_
    refine vl_det (det_lss rfl rfl) rfl ?_
    refine vl_end [(4, _), (14, _), (15, _), (16, _), (17, _)] ⟨rfl, rfl, rfl, rfl, rfl, trivial⟩ ?_
    refine then_next ?_
    refine vc_seq ?_
    refine vc_decideU rfl (fun h17 => ?_) (fun h17 => ?_)
    · skip
      rw [drop_getD (show k < q.length by omega) sNil, depS_cons] at hS
      have hone := step_one (q.getD k sNil)
      have hcl := step_cells (q := q) (k := k) (by omega)
      obtain ⟨s, hs⟩ : ∃ s, s = q.getD k sNil := ⟨_, rfl⟩
      rw [← hs] at hS hone hcl
      refine vc_skip ?_
      refine then_next ?_
      refine vc_seq ?_
      refine vc_block ?_
      refine vc_seq ?_
      refine vc_region ?_
      refine vl_det (det_indexAddr (size := 5) Try.underlying22 (by kernel_rfl) rfl rfl rfl (by omega) (by first | (exact Bor.own (by repeat (first | exact List.Mem.head _ | apply List.Mem.tail))) | (repeat (first | assumption | apply Bor.cons)))) rfl ?_
      refine vl_det (det_load_rowa 5 (by kernel_rfl) rfl (by first | (exact Bor.own (by repeat (first | exact List.Mem.head _ | apply List.Mem.tail))) | (repeat (first | assumption | apply Bor.cons))) (by omega) (StepC.cells s) hcl rfl) rfl ?_
      refine vl_eff (eff_alloc_z (zv := (.agg #[.int .i64 0, .int .i64 0, .string ⟨#[]⟩, .int .u64 0, .int .u64 0])) (by kernel_rfl) rfl) rfl ?_
      rintro _ _ ⟨g6, rfl, rfl⟩
      refine vl_eff0 (eff_store_whole 5 (by kernel_rfl) rfl rfl (by first | exact bv_one _ | exact strs_one _ | exact ints_one _ _ | (simp; done) | (simp [Value.oneCell']; done) | assumption) (by repeat (first | exact .hd | apply Sel.tl)) (by first | rfl | (simp; omega) | (simp [*]; done)) (by first | rfl | (simp; omega) | (simp [*]; done))) ?_
      rintro _ _ rfl
      refine vl_end [(4, _), (6, _), (14, _), (15, _), (16, _)] ⟨rfl, rfl, rfl, rfl, rfl, trivial⟩ ?_
      refine then_next ?_
      refine vc_seq ?_
      refine vc_region ?_
      refine vl_det (det_load_whole 5 (by kernel_rfl) rfl (by repeat (first | exact .hd | apply Sel.tl)) (by first | rfl | (simp; omega) | (simp [*]; done))) rfl ?_
      refine vl_call co40 rfl (takes_d s) rfl ?_
      rintro _ _ ⟨rfl, hLL⟩
      obtain rfl := hLL.symm
      refine vl_det (det_assign rfl) rfl ?_
      refine vl_end [(4, _), (6, _), (7, _), (14, _), (15, _), (16, _)] ⟨rfl, rfl, rfl, rfl, rfl, rfl, trivial⟩ ?_
      refine then_next ?_
      refine vc_seq ?_
      refine vc_seq ?_
      refine vc_region ?_
      refine vl_cut 9 30 [(4, _), (7, _), (14, _), (15, _), (16, _)] (¬ rightS s ∨ (D.length : Int) < takesS s) ⟨rfl, rfl, rfl, rfl, rfl, trivial⟩ ?_ ?_
      · skip
        refine vl_det (det_load_whole 5 (by kernel_rfl) rfl (by repeat (first | exact .hd | apply Sel.tl)) (by first | rfl | (simp; omega) | (simp [*]; done))) rfl ?_
        refine vl_call co41 rfl (right_d s) rfl ?_
        rintro _ _ ⟨rfl, hLL⟩
        obtain rfl := hLL.symm
        refine vl_det (det_notd rfl) rfl ?_
        refine vl_det (det_move rfl) rfl ?_
        refine vl_guardn rfl rfl rfl (fun h25 => ?_) (fun h25 => ?_)
        · skip
          refine vl_det (det_move rfl) rfl ?_
          refine vl_guard_t rfl rfl ?_
          refine vl_det (det_move rfl) rfl ?_
          refine vl_guard_t rfl rfl ?_
          refine vl_det (det_len_sl Try.underlying79 rfl) rfl ?_
          refine vl_guard_t rfl rfl ?_
          refine vl_det (det_gtr rfl rfl) rfl ?_
          refine vl_det (det_pick_f rfl rfl) rfl ?_
          exact vl_cut_end ⟨rfl, rfl, rfl, rfl, rfl, trivial⟩ (by first | rfl | exact bool_to_t (by first | exact .inl (by assumption) | exact ⟨fun h => .inr h, fun h => h.elim (fun q => absurd (Classical.not_not.1 (by assumption)) q) id⟩) | exact bool_to_f (by first | exact .inl (by assumption) | exact ⟨fun h => .inr h, fun h => h.elim (fun q => absurd (Classical.not_not.1 (by assumption)) q) id⟩) | exact bool_to (by first | exact .inl (by assumption) | exact ⟨fun h => .inr h, fun h => h.elim (fun q => absurd (Classical.not_not.1 (by assumption)) q) id⟩) | exact bool_to_b (by first | exact .inl (by assumption) | exact ⟨fun h => .inr h, fun h => h.elim (fun q => absurd (Classical.not_not.1 (by assumption)) q) id⟩))
        · skip
          refine vl_guard_f rfl rfl rfl rfl ?_
          refine vl_guard_f rfl rfl rfl rfl ?_
          refine vl_guard_f rfl rfl rfl rfl ?_
          refine vl_det (det_pick_t rfl rfl) rfl ?_
          exact vl_cut_end ⟨rfl, rfl, rfl, rfl, rfl, trivial⟩ (by first | rfl | exact bool_to_t (by first | exact .inl (by assumption) | exact ⟨fun h => .inr h, fun h => h.elim (fun q => absurd (Classical.not_not.1 (by assumption)) q) id⟩) | exact bool_to_f (by first | exact .inl (by assumption) | exact ⟨fun h => .inr h, fun h => h.elim (fun q => absurd (Classical.not_not.1 (by assumption)) q) id⟩) | exact bool_to (by first | exact .inl (by assumption) | exact ⟨fun h => .inr h, fun h => h.elim (fun q => absurd (Classical.not_not.1 (by assumption)) q) id⟩) | exact bool_to_b (by first | exact .inl (by assumption) | exact ⟨fun h => .inr h, fun h => h.elim (fun q => absurd (Classical.not_not.1 (by assumption)) q) id⟩))
      · skip
        refine vl_end [(4, _), (7, _), (14, _), (15, _), (16, _), (30, _)] ⟨rfl, rfl, rfl, rfl, rfl, rfl, trivial⟩ ?_
        refine then_next ?_
        refine vc_decideU rfl (fun h30 => ?_) (fun h30 => ?_)
        · skip
          rw [if_neg (fun h => h30.elim (fun q => q h.1) fun q => by omega)] at hS
          rw [hQ0 hS.symm]
          refine vc_seq ?_
          refine vc_region ?_
          refine vl_det (det_assign rfl) rfl ?_
          refine vl_det (det_assign rfl) rfl ?_
          refine vl_end [(2, _), (3, _)] ⟨rfl, rfl, trivial⟩ ?_
          refine then_next ?_
          refine vc_ret ?_
          refine then_ret ?_
          refine in_ret ?_
          refine then_ret ?_
          refine loop_ret ?_
          refine in_ret ?_
          refine then_ret ?_
          refine ret_wk (L' := F) (.skip (.skip (.refl _))) ?_
          refine ret2 rfl rfl rfl ?_
          exact ⟨rfl, rfl⟩
        · skip
          have hrs : rightS s := Classical.byContradiction fun h => h30 (.inl h)
          have htk : takesS s ≤ D.length := by have := fun h => h30 (.inr h); omega
          have htg := takesS_ge hrs
          rw [if_pos ⟨hrs, htk⟩] at hS
          obtain ⟨i, hi⟩ : ∃ i, i = D.length - (takesS s).toNat := ⟨_, rfl⟩
          rw [← hi] at hS
          have hiT : (D.length : Int) - takesS s = i := by omega
          have hiD : i ≤ D.length := by omega
          have hbd : ∀ {L : List Ch}, .own 3 1 A4 D.length c4 (natv D) ∈ L → Bor B w0 L 1 (.slice (if c4 = i then A4 else A4.map (·.add (i * 1))) (D.length - i) (c4 - i)) (D.length - i) (natv (D.drop i)) := fun h => by
            have := (Bor.own h).cut (B := B) (w0 := w0) hiD; rwa [natv_drop] at this
          have hdl : (D.drop i).length = D.length - i := List.length_drop
          refine vc_skip ?_
          refine then_next ?_
          refine vc_seq ?_
          refine vc_region ?_
          refine vl_det (det_assign rfl) rfl ?_
          refine vl_end [(4, _), (7, _), (8, _), (14, _), (15, _), (16, _)] ⟨rfl, rfl, rfl, rfl, rfl, rfl, trivial⟩ ?_
          refine then_next ?_
          refine vc_seq ?_
          refine vc_seq ?_
          refine vc_region ?_
          refine vl_det (det_move rfl) rfl ?_
          refine vl_det (det_move rfl) rfl ?_
          refine vl_det (det_len_sl Try.underlying79 rfl) rfl ?_
          refine vl_det (det_move rfl) rfl ?_
          refine vl_det (det_sub rfl rfl (r := (i : Int)) ((w_i64 (by omega) (by omega)).trans hiT)) rfl ?_
          refine vl_det (det_slice_lo (i := i) (size := 1) Try.underlying79 (by kernel_rfl) rfl rfl rfl hiD) rfl ?_
          refine vl_det (det_len_sl Try.underlying79 rfl) rfl ?_
          refine vl_det (det_move rfl) rfl ?_
          refine vl_end [(4, _), (7, _), (8, _), (14, _), (15, _), (16, _), (36, _), (37, _), (38, _)] ⟨rfl, rfl, rfl, rfl, rfl, rfl, rfl, rfl, rfl, trivial⟩ ?_
          refine then_next ?_
          refine vc_block ?_
          refine vc_loopJ (fun zf zL zm => ∃ (j m : Nat), (j ≤ D.length - i ∧ m = maxL ((D.drop i).take j) ∧ m ≤ k) ∧ D.length - i - j = zm ∧ Sub zf [(4, .slice A4 D.length c4), (7, .int .i64 (takesS s)), (8, .int .i64 m), (14, .slice A q.length c), (15, .int .i64 q.length), (16, .int .i64 k), (36, .slice (if c4 = i then A4 else A4.map (·.add (i * 1))) (D.length - i) (c4 - i)), (37, .int .i64 ((D.length - i : Nat) : Int)), (38, .int .i64 j)] ∧ Wk zL (.own 3 1 A4 D.length c4 (natv D) :: F)) _ ⟨0, 0, ⟨Nat.zero_le _, rfl, Nat.zero_le _⟩, rfl, ⟨(by first | rfl | exact int_to (by omega) | exact sl_to (by omega)), (by first | rfl | exact int_to (by omega) | exact sl_to (by omega)), (by first | rfl | exact int_to (by omega) | exact sl_to (by omega)), (by first | rfl | exact int_to (by omega) | exact sl_to (by omega)), (by first | rfl | exact int_to (by omega) | exact sl_to (by omega)), (by first | rfl | exact int_to (by omega) | exact sl_to (by omega)), (by first | rfl | exact int_to (by omega) | exact sl_to (by omega)), (by first | rfl | exact int_to (by omega) | exact sl_to (by omega)), (by first | rfl | exact int_to (by omega) | exact sl_to (by omega)), trivial⟩, .skip (.refl _)⟩ ?_
          rintro _ _ _ ⟨j, m, ⟨hj, hm, hmk⟩, rfl, hs, hp⟩
          refine vc_weaken _ hs (vc_wk hp ?_)
          clear hs hp
          refine vc_seq ?_
          refine vc_region ?_
          refine vl_det (det_lss rfl rfl) rfl ?_
          refine vl_end [(4, _), (7, _), (8, _), (14, _), (15, _), (16, _), (36, _), (37, _), (38, _), (39, _)] ⟨rfl, rfl, rfl, rfl, rfl, rfl, rfl, rfl, rfl, rfl, trivial⟩ ?_
          refine then_next ?_
          refine vc_seq ?_
          refine vc_decideU rfl (fun h39 => ?_) (fun h39 => ?_)
          · skip
            have hxl := mem_drop_le hDx i _ (getD_mem (show j < (D.drop i).length by omega) 0)
            have hsn : (D.drop i).take (j + 1) = (D.drop i).take j ++ [(D.drop i).getD j 0] := take_getD (by omega) 0
            refine vc_skip ?_
            refine then_next ?_
            refine vc_seq ?_
            refine vc_block ?_
            refine vc_seq ?_
            refine vc_region ?_
            refine vl_det (det_indexAddr (size := 1) Try.underlying79 (by kernel_rfl) rfl rfl rfl (by omega) (hbd (.head _))) rfl ?_
            refine vl_det (det_load_row (by kernel_rfl) rfl (hbd (.head _)) (by omega) (natv_get (l := D.drop i) (k := j) (by omega))) rfl ?_
            refine vl_det (det_assign rfl) rfl ?_
            refine vl_end [(4, _), (7, _), (8, _), (10, _), (14, _), (15, _), (16, _), (36, _), (37, _), (38, _)] ⟨rfl, rfl, rfl, rfl, rfl, rfl, rfl, rfl, rfl, rfl, trivial⟩ ?_
            refine then_next ?_
            refine vc_region ?_
            refine vl_det (det_move rfl) rfl ?_
            refine vl_det (det_move rfl) rfl ?_
            refine vl_det (det_max rfl rfl) rfl ?_
            refine vl_det (det_assign rfl) rfl ?_
            refine vl_end [(4, _), (7, _), (8, _), (14, _), (15, _), (16, _), (36, _), (37, _), (38, _)] ⟨rfl, rfl, rfl, rfl, rfl, rfl, rfl, rfl, rfl, trivial⟩ ?_
            refine in_normal ?_
            refine then_next ?_
            refine vc_region ?_
            refine vl_det (det_add rfl rfl (w_i64 (by omega) (by omega))) rfl ?_
            refine vl_det (det_move rfl) rfl ?_
            refine vl_end [(4, _), (7, _), (8, _), (14, _), (15, _), (16, _), (36, _), (37, _), (38, _)] ⟨rfl, rfl, rfl, rfl, rfl, rfl, rfl, rfl, rfl, trivial⟩ ?_
            refine in_loop_ ⟨_, by omega, j + 1, max m ((D.drop i).getD j 0), ⟨by omega, by rw [hsn, maxL_snoc, hm], by omega⟩, rfl, ⟨(by first | rfl | exact int_to (by omega) | exact sl_to (by omega)), (by first | rfl | exact int_to (by omega) | exact sl_to (by omega)), (by first | rfl | exact int_to (by omega) | exact sl_to (by omega)), (by first | rfl | exact int_to (by omega) | exact sl_to (by omega)), (by first | rfl | exact int_to (by omega) | exact sl_to (by omega)), (by first | rfl | exact int_to (by omega) | exact sl_to (by omega)), (by first | rfl | exact int_to (by omega) | exact sl_to (by omega)), (by first | rfl | exact int_to (by omega) | exact sl_to (by omega)), (by first | rfl | exact int_to (by omega) | exact sl_to (by omega)), trivial⟩, .refl _⟩
          · skip
            obtain rfl : j = D.length - i := by omega
            rw [List.take_of_length_le (by omega)] at hm
            rw [← hm] at hS
            refine vc_exit ?_
            refine then_exit ?_
            refine loop_exit ?_
            refine in_eq ?_
            refine then_next ?_
            refine vc_bor (Bor.own (B := B) (w0 := w0) (.head _)) fun hcap _ => ?_
            refine vc_region ?_
            refine vl_det (det_move rfl) rfl ?_
            refine vl_det (det_move rfl) rfl ?_
            refine vl_det (det_len_sl Try.underlying79 rfl) rfl ?_
            refine vl_det (det_move rfl) rfl ?_
            refine vl_det (det_sub rfl rfl (r := (i : Int)) ((w_i64 (by omega) (by omega)).trans hiT)) rfl ?_
            refine vl_det (det_slice_hi (i := i) (size := 1) Try.underlying79 (by kernel_rfl) rfl rfl rfl (by omega)) rfl ?_
            refine vl_det (det_move rfl) rfl ?_
            refine vl_det (det_add rfl rfl (w_i64 (by omega) (by omega))) rfl ?_
            refine vl_cut_row i (by repeat (first | exact .hd | apply Sel.tl)) hiD ?_
            rw [natv_take]
            refine vl_push slT79 rfl rfl rfl rfl rfl (fun _ => rfl) (by repeat (first | exact .hd | apply Sel.tl)) (by omega) (by omega) ?_
            intro _ A55 c55
            refine vl_det (det_assign rfl) rfl ?_
            refine vl_end [(4, _), (14, _), (15, _), (16, _)] ⟨rfl, rfl, rfl, rfl, trivial⟩ ?_
            refine in_normal ?_
            refine then_next ?_
            refine vc_region ?_
            refine vl_det (det_add rfl rfl (w_i64 (by omega) (by omega))) rfl ?_
            refine vl_det (det_move rfl) rfl ?_
            refine vl_end [(4, _), (14, _), (15, _), (16, _)] ⟨rfl, rfl, rfl, rfl, trivial⟩ ?_
            have hel : i + 1 = (D.take i ++ [m + 1]).length := by rw [List.length_append, List.length_take]; simp; omega
            refine in_loop_ ⟨_, by omega, k + 1, D.take i ++ [m + 1], A55, c55, ⟨by omega, hS, by omega, dep_le hDx hmk⟩, rfl, ⟨(by first | rfl | exact int_to (by omega) | exact sl_to (by omega)), (by first | rfl | exact int_to (by omega) | exact sl_to (by omega)), (by first | rfl | exact int_to (by omega) | exact sl_to (by omega)), (by first | rfl | exact int_to (by omega) | exact sl_to (by omega)), trivial⟩, wk_own hel (natv_snoc (D.take i) (m + 1)) (.refl _)⟩
    · skip
      rw [List.drop_of_length_le (by omega), depS] at hS
      refine vc_exit ?_
      refine then_exit ?_
      refine loop_exit ?_
      refine in_eq ?_
      refine then_next ?_
      refine vc_seq ?_
      refine vc_seq ?_
      refine vc_region ?_
      refine vl_det (det_move rfl) rfl ?_
      refine vl_det (det_len_sl Try.underlying79 rfl) rfl ?_
      refine vl_det (det_neq rfl rfl) rfl ?_
      refine vl_end [(4, _), (59, _)] ⟨rfl, rfl, trivial⟩ ?_
      refine then_next ?_
      refine vc_decideU rfl (fun h59 => ?_) (fun h59 => ?_)
      · skip
        rw [hQ2 hq hS.symm (by omega)]
        refine vc_seq ?_
        refine vc_region ?_
        refine vl_det (det_assign rfl) rfl ?_
        refine vl_det (det_assign rfl) rfl ?_
        refine vl_end [(2, _), (3, _)] ⟨rfl, rfl, trivial⟩ ?_
        refine then_next ?_
        refine vc_ret ?_
        refine then_ret ?_
        refine ret_wk (L' := F) (.skip (.refl _)) ?_
        refine ret2 rfl rfl rfl ?_
        exact ⟨rfl, rfl⟩
      · skip
        rw [hQ1 hq hS.symm (by omega)]
        refine vc_skip ?_
        refine then_next ?_
        refine vc_seq ?_
        refine vc_region ?_
        refine vl_det (det_move rfl) rfl ?_
        refine vl_det (det_indexAddr (i := 0) (size := 1) Try.underlying79 (by kernel_rfl) rfl rfl rfl (by omega) (by first | (exact Bor.own (by repeat (first | exact List.Mem.head _ | apply List.Mem.tail))) | (repeat (first | assumption | apply Bor.cons)))) rfl ?_
        refine vl_det (det_load_row (by kernel_rfl) rfl (by first | (exact Bor.own (by repeat (first | exact List.Mem.head _ | apply List.Mem.tail))) | (repeat (first | assumption | apply Bor.cons))) (by omega) (natv_get (l := D) (k := 0) (by omega))) rfl ?_
        refine vl_det (det_assign rfl) rfl ?_
        refine vl_det (det_assign rfl) rfl ?_
        refine vl_end [(2, _), (3, _)] ⟨rfl, rfl, trivial⟩ ?_
        refine then_next ?_
        refine vc_ret ?_
        refine ret_wk (L' := F) (.skip (.refl _)) ?_
        refine ret2 rfl rfl rfl ?_
        exact ⟨rfl, rfl⟩
/-- may a query be? -/
def checkQ (q : List StepC) : Int := if (depthQ q).2 = 0 ∧ 64 < (depthQ q).1 then 11 else (depthQ q).2
theorem check_d {q : List StepC} (hb : Bor B w0 F 5 (.slice A q.length c) q.length (stepsV q)) :
    Does Try.prog B w0 16 [.slice A q.length c] F (fun r L => r = .int .i64 (checkQ q) ∧ L = F) := by
  refine fn_walk Try.func16 17 rfl rfl rfl [(0, .slice A q.length c)] ⟨⟨rfl, rfl⟩, trivial⟩ ?_
  refine vc_seq ?_
  refine vc_region ?_
  refine vl_det (det_assign rfl) rfl ?_
  refine vl_end [(0, _)] ⟨rfl, trivial⟩ ?_
  refine then_next ?_
  refine vc_seq ?_
  refine vc_region ?_
  refine vl_det (det_move rfl) rfl ?_
  refine vl_call co23 rfl (depth_d (by first | (exact Bor.own (by repeat (first | exact List.Mem.head _ | apply List.Mem.tail))) | (repeat (first | assumption | apply Bor.cons)))) rfl ?_
  rintro _ _ ⟨rfl, hLL⟩
  obtain rfl := hLL.symm
  refine vl_det (det_move rfl) rfl ?_
  refine vl_det (det_extract rfl rfl) rfl ?_
  refine vl_det (det_extract rfl rfl) rfl ?_
  refine vl_det (det_assign rfl) rfl ?_
  refine vl_det (det_assign rfl) rfl ?_
  refine vl_end [(3, _), (4, _)] ⟨rfl, rfl, trivial⟩ ?_
  refine then_next ?_
  refine vc_seq ?_
  refine vc_seq ?_
  refine vc_region ?_
  refine vl_cut 6 15 [(4, _)] ((depthQ q).2 = 0 ∧ 64 < (depthQ q).1) ⟨rfl, trivial⟩ ?_ ?_
  · skip
    refine vl_det (det_move rfl) rfl ?_
    refine vl_det (det_eql rfl rfl) rfl ?_
    refine vl_det (det_move rfl) rfl ?_
    refine vl_guardp rfl rfl rfl (fun h12 => ?_) (fun h12 => ?_)
    · skip
      refine vl_det (det_move rfl) rfl ?_
      refine vl_guard_t rfl rfl ?_
      refine vl_det (det_gtr rfl rfl) rfl ?_
      refine vl_det (det_pick_t rfl rfl) rfl ?_
      exact vl_cut_end ⟨rfl, trivial⟩ (by first | rfl | exact bool_to_t (by first | omega | simp_all) | exact bool_to_f (by first | omega | simp_all) | exact bool_to (by first | omega | simp_all) | exact bool_to_b (by first | omega | simp_all))
    · skip
      refine vl_guard_f rfl rfl rfl rfl ?_
      refine vl_det (det_pick_f rfl rfl) rfl ?_
      exact vl_cut_end ⟨rfl, trivial⟩ (by first | rfl | exact bool_to_t (by first | omega | simp_all) | exact bool_to_f (by first | omega | simp_all) | exact bool_to (by first | omega | simp_all) | exact bool_to_b (by first | omega | simp_all))
  · skip
    refine vl_end [(4, _), (15, _)] ⟨rfl, rfl, trivial⟩ ?_
    refine then_next ?_
    refine vc_decideU rfl (fun h15 => ?_) (fun h15 => ?_)
    · skip
      refine vc_seq ?_
      refine vc_region ?_
      refine vl_det (det_assign rfl) rfl ?_
      refine vl_end [(2, _)] ⟨rfl, trivial⟩ ?_
      refine then_next ?_
      refine vc_ret ?_
      refine then_ret ?_
      refine ret1 rfl rfl ?_
      exact ⟨by rw [show checkQ q = 11 from if_pos h15], rfl⟩
    · skip
      refine vc_skip ?_
      refine then_next ?_
      refine vc_seq ?_
      refine vc_region ?_
      refine vl_det (det_move rfl) rfl ?_
      refine vl_det (det_assign rfl) rfl ?_
      refine vl_end [(2, _)] ⟨rfl, trivial⟩ ?_
      refine then_next ?_
      refine vc_ret ?_
      refine ret1 rfl rfl ?_
      exact ⟨by rw [show checkQ q = _ from if_neg h15], rfl⟩
theorem rdepth_d {q : List StepC} (hb : Bor B w0 F 5 (.slice A q.length c) q.length (stepsV q)) :
    Does Try.prog B w0 29 [.slice A q.length c] F (fun r L => r = .tuple #[.int .i64 (depthQ q).1, .int .i64 (depthQ q).2] ∧ L = F) := by
  refine fn_walk Try.func29 72 rfl rfl rfl [(0, .slice A q.length c)] ⟨⟨rfl, rfl⟩, trivial⟩ ?_
  refine vc_seq ?_
  refine vc_region ?_
  refine vl_det (det_assign rfl) rfl ?_
  refine vl_det (det_assign rfl) rfl ?_
  refine vl_end [(0, _)] ⟨rfl, trivial⟩ ?_
  refine then_next ?_
  refine vc_seq ?_
  refine vc_seq ?_
  refine vc_region ?_
  refine vl_det (det_move rfl) rfl ?_
  refine vl_det (det_len_sl Try.underlying22 rfl) rfl ?_
  refine vl_det (det_gtr rfl rfl) rfl ?_
  refine vl_end [(0, _), (10, _)] ⟨rfl, rfl, trivial⟩ ?_
  refine then_next ?_
  refine vc_decideU rfl (fun h10 => ?_) (fun h10 => ?_)
  · skip
    rw [depthQ_a (by omega)]
    refine vc_seq ?_
    refine vc_region ?_
    refine vl_det (det_assign rfl) rfl ?_
    refine vl_det (det_assign rfl) rfl ?_
    refine vl_end [(2, _), (3, _)] ⟨rfl, rfl, trivial⟩ ?_
    refine then_next ?_
    refine vc_ret ?_
    refine then_ret ?_
    refine ret2 rfl rfl rfl ?_
    exact ⟨rfl, rfl⟩
  · skip
    have hq : ¬ 1000 < q.length := by omega
    have hQ0 := @depthQ_n q hq
    have hQ1 := @depthQ_1 q
    have hQ2 := @depthQ_m q
    obtain ⟨G, hG⟩ : ∃ G, G = depS [] q := ⟨_, rfl⟩
    rw [← hG] at hQ0
    simp only [← hG] at hQ1 hQ2
    refine vc_skip ?_
    refine then_next ?_
    refine vc_seq ?_
    refine vc_nil_row 3 1 none ?_
    refine vc_region ?_
    refine vl_det (det_assign rfl) rfl ?_
    refine vl_end [(0, _), (4, _)] ⟨rfl, rfl, trivial⟩ ?_
    refine then_next ?_
    refine vc_seq ?_
    refine vc_seq ?_
    refine vc_region ?_
    refine vl_det (det_assign rfl) rfl ?_
    refine vl_end [(0, _), (4, _), (5, _)] ⟨rfl, rfl, rfl, trivial⟩ ?_
    refine then_next ?_
    refine vc_block ?_
    refine vc_loopJ (fun zf zL zm => ∃ (k : Nat) (D : List Nat) (A4 : Option Addr) (c4 : Nat), (k ≤ q.length ∧ depS D (q.drop k) = G ∧ D.length ≤ k ∧ (∀ x ∈ D, x ≤ k)) ∧ q.length - k = zm ∧ Sub zf [(0, .slice A q.length c), (4, .slice A4 D.length c4), (5, .int .i64 k)] ∧ Wk zL (.own 3 1 A4 D.length c4 (natv D) :: F)) _ ⟨0, [], none, 0, ⟨Nat.zero_le _, hG.symm, Nat.zero_le _, fun x hx => absurd hx (by simp)⟩, rfl, ⟨(by first | rfl | exact int_to (by omega) | exact sl_to (by omega)), (by first | rfl | exact int_to (by omega) | exact sl_to (by omega)), (by first | rfl | exact int_to (by omega) | exact sl_to (by omega)), trivial⟩, .refl _⟩ ?_
    rintro _ _ _ ⟨k, D, A4, c4, ⟨hk, hS, hDl, hDx⟩, rfl, hs, hp⟩
    refine vc_weaken _ hs (vc_wk hp ?_)
    clear hs hp
    refine vc_seq ?_
    refine vc_seq ?_
    refine vc_region ?_
    refine vl_det (det_move rfl) rfl ?_
    refine vl_det (det_move rfl) rfl ?_
    refine vl_det (det_len_sl Try.underlying22 rfl) rfl ?_
    refine vl_det (det_lss rfl rfl) rfl ?_
    refine vl_end [(0, _), (4, _), (5, _), (14, _)] ⟨rfl, rfl, rfl, rfl, trivial⟩ ?_
    refine then_next ?_
    refine vc_decideU rfl (fun h14 => ?_) (fun h14 => ?_)
    · skip
      rw [drop_getD (show k < q.length by omega) sNil, depS_cons] at hS
      have hone := step_one (q.getD k sNil)
      have hcl := step_cells (q := q) (k := k) (by omega)
      obtain ⟨s, hs⟩ : ∃ s, s = q.getD k sNil := ⟨_, rfl⟩
      rw [← hs] at hS hone hcl
      refine vc_skip ?_
      refine then_next ?_
      refine vc_seq ?_
      refine vc_block ?_
      refine vc_seq ?_
      refine vc_seq ?_
      refine vc_region ?_
      refine vl_cut 16 32 [(0, _), (4, _), (5, _)] (¬ rightS s ∨ (D.length : Int) < takesS s) ⟨rfl, rfl, rfl, trivial⟩ ?_ ?_
      · skip
        refine vl_det (det_move rfl) rfl ?_
        refine vl_det (det_move rfl) rfl ?_
        refine vl_det (det_indexAddr (size := 5) Try.underlying22 (by kernel_rfl) rfl rfl rfl (by omega) (by first | (exact Bor.own (by repeat (first | exact List.Mem.head _ | apply List.Mem.tail))) | (repeat (first | assumption | apply Bor.cons)))) rfl ?_
        refine vl_det (det_load_rowa 5 (by kernel_rfl) rfl (by first | (exact Bor.own (by repeat (first | exact List.Mem.head _ | apply List.Mem.tail))) | (repeat (first | assumption | apply Bor.cons))) (by omega) (StepC.cells s) hcl rfl) rfl ?_
        refine vl_call co46 rfl (rright_d s) rfl ?_
        rintro _ _ ⟨rfl, hLL⟩
        obtain rfl := hLL.symm
        refine vl_det (det_notd rfl) rfl ?_
        refine vl_det (det_move rfl) rfl ?_
        refine vl_guardn rfl rfl rfl (fun h23 => ?_) (fun h23 => ?_)
        · skip
          refine vl_det (det_move rfl) rfl ?_
          refine vl_guard_t rfl rfl ?_
          refine vl_det (det_move rfl) rfl ?_
          refine vl_guard_t rfl rfl ?_
          refine vl_det (det_indexAddr (size := 5) Try.underlying22 (by kernel_rfl) rfl rfl rfl (by omega) (by first | (exact Bor.own (by repeat (first | exact List.Mem.head _ | apply List.Mem.tail))) | (repeat (first | assumption | apply Bor.cons)))) rfl ?_
          refine vl_guard_t rfl rfl ?_
          refine vl_det (det_load_rowa 5 (by kernel_rfl) rfl (by first | (exact Bor.own (by repeat (first | exact List.Mem.head _ | apply List.Mem.tail))) | (repeat (first | assumption | apply Bor.cons))) (by omega) (StepC.cells s) hcl rfl) rfl ?_
          refine vl_guard_t rfl rfl ?_
          refine vl_call co32 rfl (rtakes_d s (Classical.not_not.1 (by assumption))) rfl ?_
          rintro _ _ ⟨rfl, hLL⟩
          obtain rfl := hLL.symm
          refine vl_guard_t rfl rfl ?_
          refine vl_det (det_move rfl) rfl ?_
          refine vl_guard_t rfl rfl ?_
          refine vl_det (det_len_sl Try.underlying79 rfl) rfl ?_
          refine vl_guard_t rfl rfl ?_
          refine vl_det (det_gtr rfl rfl) rfl ?_
          refine vl_det (det_pick_f rfl rfl) rfl ?_
          exact vl_cut_end ⟨rfl, rfl, rfl, trivial⟩ (by first | rfl | exact bool_to_t (by first | exact .inl (by assumption) | exact ⟨fun h => .inr h, fun h => h.elim (fun q => absurd (Classical.not_not.1 (by assumption)) q) id⟩) | exact bool_to_f (by first | exact .inl (by assumption) | exact ⟨fun h => .inr h, fun h => h.elim (fun q => absurd (Classical.not_not.1 (by assumption)) q) id⟩) | exact bool_to (by first | exact .inl (by assumption) | exact ⟨fun h => .inr h, fun h => h.elim (fun q => absurd (Classical.not_not.1 (by assumption)) q) id⟩) | exact bool_to_b (by first | exact .inl (by assumption) | exact ⟨fun h => .inr h, fun h => h.elim (fun q => absurd (Classical.not_not.1 (by assumption)) q) id⟩))
        · skip
          refine vl_guard_f rfl rfl rfl rfl ?_
          refine vl_guard_f rfl rfl rfl rfl ?_
          refine vl_guard_f rfl rfl rfl rfl ?_
          refine vl_guard_f rfl rfl rfl rfl ?_
          refine vl_guard_f rfl rfl rfl rfl ?_
          refine vl_guard_f rfl rfl rfl rfl ?_
          refine vl_guard_f rfl rfl rfl rfl ?_
          refine vl_det (det_pick_t rfl rfl) rfl ?_
          exact vl_cut_end ⟨rfl, rfl, rfl, trivial⟩ (by first | rfl | exact bool_to_t (by first | exact .inl (by assumption) | exact ⟨fun h => .inr h, fun h => h.elim (fun q => absurd (Classical.not_not.1 (by assumption)) q) id⟩) | exact bool_to_f (by first | exact .inl (by assumption) | exact ⟨fun h => .inr h, fun h => h.elim (fun q => absurd (Classical.not_not.1 (by assumption)) q) id⟩) | exact bool_to (by first | exact .inl (by assumption) | exact ⟨fun h => .inr h, fun h => h.elim (fun q => absurd (Classical.not_not.1 (by assumption)) q) id⟩) | exact bool_to_b (by first | exact .inl (by assumption) | exact ⟨fun h => .inr h, fun h => h.elim (fun q => absurd (Classical.not_not.1 (by assumption)) q) id⟩))
      · skip
        refine vl_end [(0, _), (4, _), (5, _), (32, _)] ⟨rfl, rfl, rfl, rfl, trivial⟩ ?_
        refine then_next ?_
        refine vc_decideU rfl (fun h32 => ?_) (fun h32 => ?_)
        · skip
          rw [if_neg (fun h => h32.elim (fun q => q h.1) fun q => by omega)] at hS
          rw [hQ0 hS.symm]
          refine vc_seq ?_
          refine vc_region ?_
          refine vl_det (det_assign rfl) rfl ?_
          refine vl_det (det_assign rfl) rfl ?_
          refine vl_end [(2, _), (3, _)] ⟨rfl, rfl, trivial⟩ ?_
          refine then_next ?_
          refine vc_ret ?_
          refine then_ret ?_
          refine in_ret ?_
          refine then_ret ?_
          refine loop_ret ?_
          refine in_ret ?_
          refine then_ret ?_
          refine ret_wk (L' := F) (.skip (.refl _)) ?_
          refine ret2 rfl rfl rfl ?_
          exact ⟨rfl, rfl⟩
        · skip
          have hrs : rightS s := Classical.byContradiction fun h => h32 (.inl h)
          have htk : takesS s ≤ D.length := by have := fun h => h32 (.inr h); omega
          have htg := takesS_ge hrs
          rw [if_pos ⟨hrs, htk⟩] at hS
          obtain ⟨i, hi⟩ : ∃ i, i = D.length - (takesS s).toNat := ⟨_, rfl⟩
          rw [← hi] at hS
          refine vc_skip ?_
          refine then_next ?_
          refine vc_seq ?_
          refine vc_region ?_
          refine vl_det (det_assign rfl) rfl ?_
          refine vl_end [(0, _), (4, _), (5, _), (6, _)] ⟨rfl, rfl, rfl, rfl, trivial⟩ ?_
          refine then_next ?_
          refine vc_seq ?_
          refine vc_seq ?_
          refine vc_region ?_
          refine vl_det (det_assign rfl) rfl ?_
          refine vl_end [(0, _), (4, _), (5, _), (6, _), (7, _)] ⟨rfl, rfl, rfl, rfl, rfl, trivial⟩ ?_
          refine then_next ?_
          refine vc_block ?_
          refine vc_bor (Bor.own (B := B) (w0 := w0) (.head _)) fun hcap _ => ?_
          refine vc_loopJ (fun zf zL zm => ∃ (y z m : Nat) (c5 : Nat), (z = D.length - y ∧ (y : Int) ≤ takesS s ∧ m = maxL (D.drop z) ∧ m ≤ k ∧ z ≤ c5) ∧ (takesS s).toNat - y = zm ∧ Sub zf [(0, .slice A q.length c), (4, .slice A4 z c5), (5, .int .i64 k), (6, .int .i64 m), (7, .int .i64 y)] ∧ Wk zL (.own 3 1 A4 z c5 (natv (D.take z)) :: F)) _ ⟨0, D.length, 0, c4, ⟨rfl, htg, by simp [maxL], Nat.zero_le _, hcap⟩, rfl, ⟨(by first | rfl | exact int_to (by omega) | exact sl_to (by omega)), (by first | rfl | exact int_to (by omega) | exact sl_to (by omega)), (by first | rfl | exact int_to (by omega) | exact sl_to (by omega)), (by first | rfl | exact int_to (by omega) | exact sl_to (by omega)), (by first | rfl | exact int_to (by omega) | exact sl_to (by omega)), trivial⟩, wk_own rfl (by rw [List.take_length]) (.refl _)⟩ ?_
          rintro _ _ _ ⟨y, z, m, c5, ⟨hz, hy, hm, hmk, hzc⟩, rfl, hs, hp⟩
          refine vc_weaken _ hs (vc_wk hp ?_)
          clear hs hp
          refine vc_seq ?_
          refine vc_seq ?_
          refine vc_region ?_
          refine vl_det (det_move rfl) rfl ?_
          refine vl_det (det_move rfl) rfl ?_
          refine vl_det (det_move rfl) rfl ?_
          refine vl_det (det_indexAddr (size := 5) Try.underlying22 (by kernel_rfl) rfl rfl rfl (by omega) (by first | (exact Bor.own (by repeat (first | exact List.Mem.head _ | apply List.Mem.tail))) | (repeat (first | assumption | apply Bor.cons)))) rfl ?_
          refine vl_det (det_load_rowa 5 (by kernel_rfl) rfl (by first | (exact Bor.own (by repeat (first | exact List.Mem.head _ | apply List.Mem.tail))) | (repeat (first | assumption | apply Bor.cons))) (by omega) (StepC.cells s) hcl rfl) rfl ?_
          refine vl_call co32 rfl (rtakes_d s hrs) rfl ?_
          rintro _ _ ⟨rfl, hLL⟩
          obtain rfl := hLL.symm
          refine vl_det (det_lss rfl rfl) rfl ?_
          refine vl_end [(0, _), (4, _), (5, _), (6, _), (7, _), (39, _)] ⟨rfl, rfl, rfl, rfl, rfl, rfl, trivial⟩ ?_
          refine then_next ?_
          refine vc_decideU rfl (fun h39 => ?_) (fun h39 => ?_)
          · skip
            have hz1 : 1 ≤ z := by omega
            have hdl : (D.take z).length = z := by rw [List.length_take]; omega
            have hge : (D.take z).getD (z - 1) 0 = D.getD (z - 1) 0 := by simp [List.getD_eq_getElem?_getD, show z - 1 < z by omega]
            have hng := natv_get (l := D.take z) (k := z - 1) (by omega)
            rw [hge] at hng
            have hxl := hDx _ (getD_mem (show z - 1 < D.length by omega) 0)
            have hdr : D.drop (z - 1) = D.getD (z - 1) 0 :: D.drop z := by rw [drop_getD (show z - 1 < D.length by omega) 0, show z - 1 + 1 = z by omega]
            have hmx : maxL (D.drop (z - 1)) = max (D.getD (z - 1) 0) m := by rw [hdr, hm]; rfl
            have htt : (D.take z).take (z - 1) = D.take (z - 1) := by rw [List.take_take, Nat.min_eq_left (by omega)]
            refine vc_skip ?_
            refine then_next ?_
            refine vc_seq ?_
            refine vc_block ?_
            refine vc_seq ?_
            refine vc_seq ?_
            refine vc_region ?_
            refine vl_det (det_move rfl) rfl ?_
            refine vl_det (det_move rfl) rfl ?_
            refine vl_det (det_len_sl Try.underlying79 rfl) rfl ?_
            refine vl_det (det_sub rfl rfl (w_i64 (by omega) (by omega))) rfl ?_
            refine vl_det (det_indexAddr (i := z - 1) (size := 1) Try.underlying79 (by kernel_rfl) rfl rfl (by omega) (by omega) (by first | (exact Bor.own (by repeat (first | exact List.Mem.head _ | apply List.Mem.tail))) | (repeat (first | assumption | apply Bor.cons)))) rfl ?_
            refine vl_det (det_load_row (by kernel_rfl) rfl (by first | (exact Bor.own (by repeat (first | exact List.Mem.head _ | apply List.Mem.tail))) | (repeat (first | assumption | apply Bor.cons))) (by omega) hng) rfl ?_
            refine vl_det (det_move rfl) rfl ?_
            refine vl_det (det_gtr rfl rfl) rfl ?_
            refine vl_end [(0, _), (4, _), (5, _), (6, _), (7, _), (49, _)] ⟨rfl, rfl, rfl, rfl, rfl, rfl, trivial⟩ ?_
            refine then_next ?_
            refine vc_decideU rfl (fun h49 => ?_) (fun h49 => ?_)
            · skip
              refine vc_region ?_
              refine vl_det (det_move rfl) rfl ?_
              refine vl_det (det_move rfl) rfl ?_
              refine vl_det (det_len_sl Try.underlying79 rfl) rfl ?_
              refine vl_det (det_sub rfl rfl (w_i64 (by omega) (by omega))) rfl ?_
              refine vl_det (det_indexAddr (i := z - 1) (size := 1) Try.underlying79 (by kernel_rfl) rfl rfl (by omega) (by omega) (by first | (exact Bor.own (by repeat (first | exact List.Mem.head _ | apply List.Mem.tail))) | (repeat (first | assumption | apply Bor.cons)))) rfl ?_
              refine vl_det (det_load_row (by kernel_rfl) rfl (by first | (exact Bor.own (by repeat (first | exact List.Mem.head _ | apply List.Mem.tail))) | (repeat (first | assumption | apply Bor.cons))) (by omega) hng) rfl ?_
              refine vl_det (det_assign rfl) rfl ?_
              refine vl_end [(0, _), (4, _), (5, _), (6, _), (7, _)] ⟨rfl, rfl, rfl, rfl, rfl, trivial⟩ ?_
              refine then_next ?_
              refine vc_region ?_
              refine vl_det (det_move rfl) rfl ?_
              refine vl_det (det_move rfl) rfl ?_
              refine vl_det (det_len_sl Try.underlying79 rfl) rfl ?_
              refine vl_det (det_sub rfl rfl (w_i64 (by omega) (by omega))) rfl ?_
              refine vl_cut_row (z - 1) (by repeat (first | exact .hd | apply Sel.tl)) (by omega) ?_
              rw [natv_take, htt]
              refine vl_det (det_slice_hi (i := z - 1) (size := 1) Try.underlying79 (by kernel_rfl) rfl rfl (by omega) (by omega)) rfl ?_
              refine vl_det (det_assign rfl) rfl ?_
              refine vl_end [(0, _), (4, _), (5, _), (6, _), (7, _)] ⟨rfl, rfl, rfl, rfl, rfl, trivial⟩ ?_
              refine in_normal ?_
              refine then_next ?_
              refine vc_region ?_
              refine vl_det (det_move rfl) rfl ?_
              refine vl_det (det_add rfl rfl (w_i64 (by omega) (by omega))) rfl ?_
              refine vl_det (det_assign rfl) rfl ?_
              refine vl_end [(0, _), (4, _), (5, _), (6, _), (7, _)] ⟨rfl, rfl, rfl, rfl, rfl, trivial⟩ ?_
              refine in_loop_ ⟨_, by omega, y + 1, z - 1, D.getD (z - 1) 0, c5, ⟨by omega, by omega, by rw [hmx]; omega, by omega, by omega⟩, rfl, ⟨(by first | rfl | exact int_to (by omega) | exact sl_to (by omega)), (by first | rfl | exact int_to (by omega) | exact sl_to (by omega)), (by first | rfl | exact int_to (by omega) | exact sl_to (by omega)), (by first | rfl | exact int_to (by omega) | exact sl_to (by omega)), (by first | rfl | exact int_to (by omega) | exact sl_to (by omega)), trivial⟩, .refl _⟩
            · skip
              refine vc_skip ?_
              refine then_next ?_
              refine vc_region ?_
              refine vl_det (det_move rfl) rfl ?_
              refine vl_det (det_move rfl) rfl ?_
              refine vl_det (det_len_sl Try.underlying79 rfl) rfl ?_
              refine vl_det (det_sub rfl rfl (w_i64 (by omega) (by omega))) rfl ?_
              refine vl_cut_row (z - 1) (by repeat (first | exact .hd | apply Sel.tl)) (by omega) ?_
              rw [natv_take, htt]
              refine vl_det (det_slice_hi (i := z - 1) (size := 1) Try.underlying79 (by kernel_rfl) rfl rfl (by omega) (by omega)) rfl ?_
              refine vl_det (det_assign rfl) rfl ?_
              refine vl_end [(0, _), (4, _), (5, _), (6, _), (7, _)] ⟨rfl, rfl, rfl, rfl, rfl, trivial⟩ ?_
              refine in_normal ?_
              refine then_next ?_
              refine vc_region ?_
              refine vl_det (det_move rfl) rfl ?_
              refine vl_det (det_add rfl rfl (w_i64 (by omega) (by omega))) rfl ?_
              refine vl_det (det_assign rfl) rfl ?_
              refine vl_end [(0, _), (4, _), (5, _), (6, _), (7, _)] ⟨rfl, rfl, rfl, rfl, rfl, trivial⟩ ?_
              refine in_loop_ ⟨_, by omega, y + 1, z - 1, m, c5, ⟨by omega, by omega, by rw [hmx]; omega, by omega, by omega⟩, rfl, ⟨(by first | rfl | exact int_to (by omega) | exact sl_to (by omega)), (by first | rfl | exact int_to (by omega) | exact sl_to (by omega)), (by first | rfl | exact int_to (by omega) | exact sl_to (by omega)), (by first | rfl | exact int_to (by omega) | exact sl_to (by omega)), (by first | rfl | exact int_to (by omega) | exact sl_to (by omega)), trivial⟩, .refl _⟩
          · skip
            have hzi : z = i := by omega
            rw [hzi] at hm ⊢
            rw [← hm] at hS
            refine vc_exit ?_
            refine then_exit ?_
            refine loop_exit ?_
            refine in_eq ?_
            refine then_next ?_
            refine vc_region ?_
            refine vl_det (det_move rfl) rfl ?_
            refine vl_det (det_move rfl) rfl ?_
            refine vl_det (det_add rfl rfl (w_i64 (by omega) (by omega))) rfl ?_
            refine vl_push slT79 rfl rfl rfl rfl rfl (fun _ => rfl) (by repeat (first | exact .hd | apply Sel.tl)) (by omega) (by omega) ?_
            intro _ A65 c65
            refine vl_det (det_assign rfl) rfl ?_
            refine vl_end [(0, _), (4, _), (5, _)] ⟨rfl, rfl, rfl, trivial⟩ ?_
            refine in_normal ?_
            refine then_next ?_
            refine vc_region ?_
            refine vl_det (det_move rfl) rfl ?_
            refine vl_det (det_add rfl rfl (w_i64 (by omega) (by omega))) rfl ?_
            refine vl_det (det_assign rfl) rfl ?_
            refine vl_end [(0, _), (4, _), (5, _)] ⟨rfl, rfl, rfl, trivial⟩ ?_
            have hel : i + 1 = (D.take i ++ [m + 1]).length := by rw [List.length_append, List.length_take]; simp; omega
            refine in_loop_ ⟨_, by omega, k + 1, D.take i ++ [m + 1], A65, c65, ⟨by omega, hS, by omega, dep_le hDx hmk⟩, rfl, ⟨(by first | rfl | exact int_to (by omega) | exact sl_to (by omega)), (by first | rfl | exact int_to (by omega) | exact sl_to (by omega)), (by first | rfl | exact int_to (by omega) | exact sl_to (by omega)), trivial⟩, wk_own hel (natv_snoc (D.take i) (m + 1)) (.refl _)⟩
    · skip
      rw [List.drop_of_length_le (by omega), depS] at hS
      refine vc_exit ?_
      refine then_exit ?_
      refine loop_exit ?_
      refine in_eq ?_
      refine then_next ?_
      refine vc_seq ?_
      refine vc_seq ?_
      refine vc_region ?_
      refine vl_det (det_move rfl) rfl ?_
      refine vl_det (det_len_sl Try.underlying79 rfl) rfl ?_
      refine vl_det (det_neq rfl rfl) rfl ?_
      refine vl_end [(4, _), (68, _)] ⟨rfl, rfl, trivial⟩ ?_
      refine then_next ?_
      refine vc_decideU rfl (fun h68 => ?_) (fun h68 => ?_)
      · skip
        rw [hQ2 hq hS.symm (by omega)]
        refine vc_seq ?_
        refine vc_region ?_
        refine vl_det (det_assign rfl) rfl ?_
        refine vl_det (det_assign rfl) rfl ?_
        refine vl_end [(2, _), (3, _)] ⟨rfl, rfl, trivial⟩ ?_
        refine then_next ?_
        refine vc_ret ?_
        refine then_ret ?_
        refine ret_wk (L' := F) (.skip (.refl _)) ?_
        refine ret2 rfl rfl rfl ?_
        exact ⟨rfl, rfl⟩
      · skip
        rw [hQ1 hq hS.symm (by omega)]
        refine vc_skip ?_
        refine then_next ?_
        refine vc_seq ?_
        refine vc_region ?_
        refine vl_det (det_move rfl) rfl ?_
        refine vl_det (det_indexAddr (i := 0) (size := 1) Try.underlying79 (by kernel_rfl) rfl rfl rfl (by omega) (by first | (exact Bor.own (by repeat (first | exact List.Mem.head _ | apply List.Mem.tail))) | (repeat (first | assumption | apply Bor.cons)))) rfl ?_
        refine vl_det (det_load_row (by kernel_rfl) rfl (by first | (exact Bor.own (by repeat (first | exact List.Mem.head _ | apply List.Mem.tail))) | (repeat (first | assumption | apply Bor.cons))) (by omega) (natv_get (l := D) (k := 0) (by omega))) rfl ?_
        refine vl_det (det_assign rfl) rfl ?_
        refine vl_det (det_assign rfl) rfl ?_
        refine vl_end [(2, _), (3, _)] ⟨rfl, rfl, trivial⟩ ?_
        refine then_next ?_
        refine vc_ret ?_
        refine ret_wk (L' := F) (.skip (.refl _)) ?_
        refine ret2 rfl rfl rfl ?_
        exact ⟨rfl, rfl⟩
theorem rcheck_d {q : List StepC} (hb : Bor B w0 F 5 (.slice A q.length c) q.length (stepsV q)) :
    Does Try.prog B w0 10 [.slice A q.length c] F (fun r L => r = .int .i64 (checkQ q) ∧ L = F) := by
  refine fn_walk Try.func10 17 rfl rfl rfl [(0, .slice A q.length c)] ⟨⟨rfl, rfl⟩, trivial⟩ ?_
  refine vc_seq ?_
  refine vc_region ?_
  refine vl_det (det_assign rfl) rfl ?_
  refine vl_end [(0, _)] ⟨rfl, trivial⟩ ?_
  refine then_next ?_
  refine vc_seq ?_
  refine vc_region ?_
  refine vl_det (det_move rfl) rfl ?_
  refine vl_call co29 rfl (rdepth_d (by first | (exact Bor.own (by repeat (first | exact List.Mem.head _ | apply List.Mem.tail))) | (repeat (first | assumption | apply Bor.cons)))) rfl ?_
  rintro _ _ ⟨rfl, hLL⟩
  obtain rfl := hLL.symm
  refine vl_det (det_move rfl) rfl ?_
  refine vl_det (det_extract rfl rfl) rfl ?_
  refine vl_det (det_extract rfl rfl) rfl ?_
  refine vl_det (det_assign rfl) rfl ?_
  refine vl_det (det_assign rfl) rfl ?_
  refine vl_end [(3, _), (4, _)] ⟨rfl, rfl, trivial⟩ ?_
  refine then_next ?_
  refine vc_seq ?_
  refine vc_seq ?_
  refine vc_region ?_
  refine vl_cut 6 15 [(4, _)] ((depthQ q).2 = 0 ∧ 64 < (depthQ q).1) ⟨rfl, trivial⟩ ?_ ?_
  · skip
    refine vl_det (det_move rfl) rfl ?_
    refine vl_det (det_eql rfl rfl) rfl ?_
    refine vl_det (det_move rfl) rfl ?_
    refine vl_guardp rfl rfl rfl (fun h12 => ?_) (fun h12 => ?_)
    · skip
      refine vl_det (det_move rfl) rfl ?_
      refine vl_guard_t rfl rfl ?_
      refine vl_det (det_gtr rfl rfl) rfl ?_
      refine vl_det (det_pick_t rfl rfl) rfl ?_
      exact vl_cut_end ⟨rfl, trivial⟩ (by first | rfl | exact bool_to_t (by first | omega | simp_all) | exact bool_to_f (by first | omega | simp_all) | exact bool_to (by first | omega | simp_all) | exact bool_to_b (by first | omega | simp_all))
    · skip
      refine vl_guard_f rfl rfl rfl rfl ?_
      refine vl_det (det_pick_f rfl rfl) rfl ?_
      exact vl_cut_end ⟨rfl, trivial⟩ (by first | rfl | exact bool_to_t (by first | omega | simp_all) | exact bool_to_f (by first | omega | simp_all) | exact bool_to (by first | omega | simp_all) | exact bool_to_b (by first | omega | simp_all))
  · skip
    refine vl_end [(4, _), (15, _)] ⟨rfl, rfl, trivial⟩ ?_
    refine then_next ?_
    refine vc_decideU rfl (fun h15 => ?_) (fun h15 => ?_)
    · skip
      refine vc_seq ?_
      refine vc_region ?_
      refine vl_det (det_assign rfl) rfl ?_
      refine vl_end [(2, _)] ⟨rfl, trivial⟩ ?_
      refine then_next ?_
      refine vc_ret ?_
      refine then_ret ?_
      refine ret1 rfl rfl ?_
      exact ⟨by rw [show checkQ q = 11 from if_pos h15], rfl⟩
    · skip
      refine vc_skip ?_
      refine then_next ?_
      refine vc_seq ?_
      refine vc_region ?_
      refine vl_det (det_move rfl) rfl ?_
      refine vl_det (det_assign rfl) rfl ?_
      refine vl_end [(2, _)] ⟨rfl, trivial⟩ ?_
      refine then_next ?_
      refine vc_ret ?_
      refine ret1 rfl rfl ?_
      exact ⟨by rw [show checkQ q = _ from if_neg h15], rfl⟩
theorem qsame_d {l l2 : List StepC} (h1 : Bor B w0 F 5 (.slice A l.length c) l.length (stepsV l)) (h2 : Bor B w0 F 5 (.slice A2 l2.length c2) l2.length (stepsV l2)) (hl : l.length ≤ 1000000000) :
    Does Try.prog B w0 12 [.slice A l.length c, .slice A2 l2.length c2] F (fun r L => r = .bool (decide (l = l2)) ∧ L = F) := by
  refine fn_walk Try.func12 26 rfl rfl rfl [(0, .slice A l.length c), (1, .slice A2 l2.length c2)] ⟨⟨rfl, rfl⟩, ⟨rfl, rfl⟩, trivial⟩ ?_
  refine vc_seq ?_
  refine vc_region ?_
  refine vl_det (det_assign rfl) rfl ?_
  refine vl_end [(0, _), (1, _)] ⟨rfl, rfl, trivial⟩ ?_
  refine then_next ?_
  refine vc_seq ?_
  refine vc_seq ?_
  refine vc_region ?_
  refine vl_det (det_move rfl) rfl ?_
  refine vl_det (det_len_sl Try.underlying22 rfl) rfl ?_
  refine vl_det (det_move rfl) rfl ?_
  refine vl_det (det_len_sl Try.underlying22 rfl) rfl ?_
  refine vl_det (det_neq rfl rfl) rfl ?_
  refine vl_end [(0, _), (1, _), (10, _)] ⟨rfl, rfl, rfl, trivial⟩ ?_
  refine then_next ?_
  refine vc_decideU rfl (fun h10 => ?_) (fun h10 => ?_)
  · skip
    refine vc_seq ?_
    refine vc_region ?_
    refine vl_det (det_assign rfl) rfl ?_
    refine vl_end [(4, _)] ⟨rfl, trivial⟩ ?_
    refine then_next ?_
    refine vc_ret ?_
    refine then_ret ?_
    refine ret1 rfl rfl ?_
    exact ⟨by rw [decide_eq_false (fun h => by rw [h] at h10; exact h10 rfl)], rfl⟩
  · skip
    refine vc_skip ?_
    refine then_next ?_
    refine vc_seq ?_
    refine vc_seq ?_
    refine vc_region ?_
    refine vl_det (det_assign rfl) rfl ?_
    refine vl_end [(0, _), (1, _), (5, _)] ⟨rfl, rfl, rfl, trivial⟩ ?_
    refine then_next ?_
    refine vc_block ?_
    refine vc_loopJ (fun zf zL zm => ∃ (k : Nat), (k ≤ l.length ∧ l.take k = l2.take k) ∧ l.length - k = zm ∧ Sub zf [(0, .slice A l.length c), (1, .slice A2 l2.length c2), (5, .int .i64 k)] ∧ Wk zL (F)) _ ⟨0, ⟨Nat.zero_le _, rfl⟩, rfl, ⟨(by first | rfl | exact int_to (by omega) | exact sl_to (by omega)), (by first | rfl | exact int_to (by omega) | exact sl_to (by omega)), (by first | rfl | exact int_to (by omega) | exact sl_to (by omega)), trivial⟩, .refl _⟩ ?_
    rintro _ _ _ ⟨k, ⟨hk, heq⟩, rfl, hs, hp⟩
    refine vc_weaken _ hs (vc_wk hp ?_)
    clear hs hp
    refine vc_seq ?_
    refine vc_seq ?_
    refine vc_region ?_
    refine vl_det (det_move rfl) rfl ?_
    refine vl_det (det_move rfl) rfl ?_
    refine vl_det (det_len_sl Try.underlying22 rfl) rfl ?_
    refine vl_det (det_lss rfl rfl) rfl ?_
    refine vl_end [(0, _), (1, _), (5, _), (14, _)] ⟨rfl, rfl, rfl, rfl, trivial⟩ ?_
    refine then_next ?_
    refine vc_decideU rfl (fun h14 => ?_) (fun h14 => ?_)
    · skip
      refine vc_skip ?_
      refine then_next ?_
      refine vc_seq ?_
      refine vc_block ?_
      refine vc_seq ?_
      refine vq_region (by kernel_rfl) (by kernel_rfl) ?_
      refine vq_det (det_move rfl) rfl ?_
      refine vq_det (det_move rfl) rfl ?_
      refine vq_det (det_indexAddr (size := 5) Try.underlying22 (by kernel_rfl) rfl rfl rfl (by omega) (by first | (exact Bor.own (by repeat (first | exact List.Mem.head _ | apply List.Mem.tail))) | (repeat (first | assumption | apply Bor.cons)))) rfl ?_
      refine vq_det (det_load_rowa 5 (by kernel_rfl) rfl (by first | (exact Bor.own (by repeat (first | exact List.Mem.head _ | apply List.Mem.tail))) | (repeat (first | assumption | apply Bor.cons))) (by omega) (StepC.cells (l.getD k sNil)) (step_cells (by omega)) rfl) rfl ?_
      refine vq_det (det_move rfl) rfl ?_
      refine vq_det (det_move rfl) rfl ?_
      refine vq_det (det_indexAddr (size := 5) Try.underlying22 (by kernel_rfl) rfl rfl rfl (by omega) (by first | (exact Bor.own (by repeat (first | exact List.Mem.head _ | apply List.Mem.tail))) | (repeat (first | assumption | apply Bor.cons)))) rfl ?_
      refine vq_det (det_load_rowa 5 (by kernel_rfl) rfl (by first | (exact Bor.own (by repeat (first | exact List.Mem.head _ | apply List.Mem.tail))) | (repeat (first | assumption | apply Bor.cons))) (by omega) (StepC.cells (l2.getD k sNil)) (step_cells (by omega)) rfl) rfl ?_
      refine vq_det (det_step_neq rfl (l.getD k sNil) (l2.getD k sNil) rfl rfl) rfl ?_
      refine vq_end [(0, _), (1, _), (5, _), (25, _)] ⟨rfl, rfl, rfl, rfl, trivial⟩ ?_
      refine then_next ?_
      refine vc_decideU rfl (fun h25 => ?_) (fun h25 => ?_)
      · skip
        refine vc_seq ?_
        refine vc_region ?_
        refine vl_det (det_assign rfl) rfl ?_
        refine vl_end [(4, _)] ⟨rfl, trivial⟩ ?_
        refine then_next ?_
        refine vc_ret ?_
        refine in_ret ?_
        refine then_ret ?_
        refine loop_ret ?_
        refine in_ret ?_
        refine then_ret ?_
        refine ret1 rfl rfl ?_
        exact ⟨by rw [decide_eq_false (fun h => by rw [h] at h25; exact h25 rfl)], rfl⟩
      · skip
        refine vc_skip ?_
        refine in_normal ?_
        refine then_next ?_
        refine vc_region ?_
        refine vl_det (det_move rfl) rfl ?_
        refine vl_det (det_add rfl rfl (w_i64 (by omega) (by omega))) rfl ?_
        refine vl_det (det_assign rfl) rfl ?_
        refine vl_end [(0, _), (1, _), (5, _)] ⟨rfl, rfl, rfl, trivial⟩ ?_
        refine in_loop_ ⟨_, by omega, k + 1, ⟨by omega, by rw [take_getD (by omega) sNil, take_getD (by omega) sNil, heq]; exact congrArg (fun z => l2.take k ++ [z]) (Classical.not_not.1 h25)⟩, rfl, ⟨(by first | rfl | exact int_to (by omega) | exact sl_to (by omega)), (by first | rfl | exact int_to (by omega) | exact sl_to (by omega)), (by first | rfl | exact int_to (by omega) | exact sl_to (by omega)), trivial⟩, .refl _⟩
    · skip
      refine vc_exit ?_
      refine then_exit ?_
      refine loop_exit ?_
      refine in_eq ?_
      refine then_next ?_
      refine vc_seq ?_
      refine vc_region ?_
      refine vl_det (det_assign rfl) rfl ?_
      refine vl_end [(4, _)] ⟨rfl, trivial⟩ ?_
      refine then_next ?_
      refine vc_ret ?_
      refine ret1 rfl rfl ?_
      have e : l = l2 := by
        have := heq
        rwa [List.take_of_length_le (by omega), List.take_of_length_le (by omega)] at this
      exact ⟨by rw [decide_eq_true e], rfl⟩
end Go.Proofs.Ytakokckokchacaa
namespace Go.Proofs.Ytakokckokchacaa
open Go.RowKit
set_option linter.unusedVariables false
set_option maxRecDepth 20000
/-- a query as_ a tree; 'nil' and 'cons' are lists of them -/
inductive Qt where
  | leaf (s : StepC)
  | not (k : Qt)
  | group (op : Int) (ks : Qt)
  | nil
  | cons (k ks : Qt)
def Qt.isN : Qt → Prop
  | .leaf _ => True
  | .not _ => True
  | .group _ _ => True
  | _ => False
def Qt.isL : Qt → Prop
  | .nil => True
  | .cons _ _ => True
  | _ => False
def Qt.len : Qt → Nat
  | .cons _ r => r.len + 1
  | _ => 0
def Qt.st : Qt → List StepC
  | .leaf s => [s]
  | .not k => k.st ++ [(5, 0, [], 0, 0)]
  | .group op ks => ks.st ++ [(op, (ks.len : Int), [], 0, 0)]
  | .nil => []
  | .cons k r => k.st ++ r.st
def Qt.wf : Qt → Prop
  | .leaf s => rightS s ∧ s.1 ≤ 4
  | .not k => k.isN ∧ k.wf
  | .group op ks => (op = 6 ∨ op = 7) ∧ 2 ≤ ks.len ∧ ks.isL ∧ ks.wf
  | .nil => True
  | .cons k r => k.isN ∧ k.wf ∧ r.isL ∧ r.wf
def Qt.dep : Qt → Nat
  | .leaf _ => 1
  | .not k => k.dep + 1
  | .group _ ks => ks.dep + 1
  | .nil => 0
  | .cons k r => max k.dep r.dep
def toL : Qt → List Qt
  | .cons k r => k :: toL r
  | _ => []
def ofL : List Qt → Qt
  | [] => .nil
  | k :: r => .cons k (ofL r)
theorem toL_ofL : ∀ l : List Qt, toL (ofL l) = l
  | [] => rfl
  | k :: r => by simp [ofL, toL, toL_ofL r]
theorem ofL_toL : ∀ {ks : Qt}, ks.isL → ks.wf → ofL (toL ks) = ks
  | .nil, _, _ => rfl
  | .cons k r, _, h => by simp only [toL, ofL, ofL_toL h.2.2.1 h.2.2.2]
theorem ofL_isL : ∀ l : List Qt, (ofL l).isL
  | [] => trivial
  | _ :: _ => trivial
theorem ofL_len : ∀ l : List Qt, (ofL l).len = l.length
  | [] => rfl
  | k :: r => by simp [ofL, Qt.len, ofL_len r]
theorem toL_len : ∀ ks : Qt, (toL ks).length = ks.len
  | .nil => rfl
  | .cons k r => by simp [toL, Qt.len, toL_len r]
  | .leaf _ => rfl
  | .not _ => rfl
  | .group _ _ => rfl
theorem ofL_st : ∀ l : List Qt, (ofL l).st = l.flatMap Qt.st
  | [] => rfl
  | k :: r => by simp [ofL, Qt.st, ofL_st r]
theorem ofL_dep : ∀ l : List Qt, (ofL l).dep = maxL (l.map Qt.dep)
  | [] => rfl
  | k :: r => by simp [ofL, Qt.dep, ofL_dep r, maxL]
theorem ofL_wf : ∀ {l : List Qt}, (∀ t ∈ l, t.isN ∧ t.wf) → (ofL l).wf
  | [], _ => trivial
  | k :: r, h => ⟨(h k (by simp)).1, (h k (by simp)).2, ofL_isL r, ofL_wf fun t ht => h t (by simp [ht])⟩
theorem toL_wf : ∀ {ks : Qt}, ks.wf → ∀ t ∈ toL ks, t.isN ∧ t.wf
  | .cons k r, h, t, ht => by
    simp only [toL, List.mem_cons] at ht
    rcases ht with rfl | ht
    · exact ⟨h.1, h.2.1⟩
    · exact toL_wf h.2.2.2 t ht
  | .nil, _, t, ht => absurd ht (by simp [toL])
  | .leaf _, _, t, ht => absurd ht (by simp [toL])
  | .not _, _, t, ht => absurd ht (by simp [toL])
  | .group _ _, _, t, ht => absurd ht (by simp [toL])
theorem toL_st {ks : Qt} (h : ks.isL) (hw : ks.wf) : ks.st = (toL ks).flatMap Qt.st := by
  rw [← ofL_st, ofL_toL h hw]
theorem toL_dep {ks : Qt} (h : ks.isL) (hw : ks.wf) : ks.dep = maxL ((toL ks).map Qt.dep) := by
  rw [← ofL_dep, ofL_toL h hw]
/-- by what holds of the parts -/
theorem Qt.ind {P : Qt → Prop} (h1 : ∀ s, rightS s → s.1 ≤ 4 → P (.leaf s)) (h2 : ∀ k : Qt, k.isN → k.wf → P k → P (.not k)) (h3 : ∀ op (l : List Qt), (op = 6 ∨ op = 7) → 2 ≤ l.length → (∀ t ∈ l, t.isN ∧ t.wf) → (∀ t ∈ l, P t) → P (.group op (ofL l))) :
    ∀ t : Qt, t.wf → (t.isN → P t) ∧ (∀ k ∈ toL t, P k)
  | .leaf s, h => ⟨fun _ => h1 s h.1 h.2, fun k hk => absurd hk (by simp [toL])⟩
  | .not k, h => ⟨fun _ => h2 k h.1 h.2 ((Qt.ind h1 h2 h3 k h.2).1 h.1), fun k hk => absurd hk (by simp [toL])⟩
  | .group op ks, h => ⟨fun _ => by
      have := h3 op (toL ks) h.1 (by rw [toL_len]; exact h.2.1) (toL_wf h.2.2.2) (Qt.ind h1 h2 h3 ks h.2.2.2).2
      rwa [ofL_toL h.2.2.1 h.2.2.2] at this, fun k hk => absurd hk (by simp [toL])⟩
  | .nil, _ => ⟨fun h => h.elim, fun k hk => absurd hk (by simp [toL])⟩
  | .cons k r, h => ⟨fun h => h.elim, fun x hx => by
      simp only [toL, List.mem_cons] at hx
      rcases hx with hk | hx
      · rw [hk]; exact (Qt.ind h1 h2 h3 k h.2.1).1 h.1
      · exact (Qt.ind h1 h2 h3 r h.2.2.2).2 x hx⟩
theorem st_ne : ∀ {t : Qt}, t.isN → t.st ≠ []
  | .leaf _, _ => by simp [Qt.st]
  | .not _, _ => by simp [Qt.st]
  | .group _ _, _ => by simp [Qt.st]
/-! steps made a tree -/
def stepT (S : List Qt) (s : StepC) : List Qt :=
  if s.1 = 5 then S.take (S.length - 1) ++ [.not (S.getD (S.length - 1) .nil)]
  else if s.1 = 6 ∨ s.1 = 7 then S.take (S.length - s.2.1.toNat) ++ [.group s.1 (ofL (S.drop (S.length - s.2.1.toNat)))]
  else S ++ [.leaf s]
def parS : List Qt → List StepC → List Qt
  | S, [] => S
  | S, s :: r => parS (stepT S s) r
theorem parS_cons {S : List Qt} {s : StepC} {r : List StepC} : parS S (s :: r) = parS (stepT S s) r := rfl
theorem stepT_ok {S : List Qt} {s : StepC} (hS : ∀ t ∈ S, t.isN ∧ t.wf) (hr : rightS s) (ht : takesS s ≤ S.length) :
    (∀ t ∈ stepT S s, t.isN ∧ t.wf) ∧ (stepT S s).map Qt.dep = (S.map Qt.dep).take (S.length - (takesS s).toNat) ++ [maxL ((S.map Qt.dep).drop (S.length - (takesS s).toNat)) + 1] ∧ (stepT S s).flatMap Qt.st = S.flatMap Qt.st ++ [s] := by
  obtain ⟨op, nn, wd, fr, to⟩ := s
  by_cases h5 : op = 5
  · have hT : takesS (op, nn, wd, fr, to) = 1 := by unfold takesS; simp [h5]
    have hE : stepT S (op, nn, wd, fr, to) = S.take (S.length - 1) ++ [.not (S.getD (S.length - 1) .nil)] := by unfold stepT; simp [h5]
    rw [hT] at ht ⊢
    rw [hE]
    have hlt : S.length - 1 < S.length := by omega
    have hd : S.drop (S.length - 1) = [S.getD (S.length - 1) .nil] := by rw [drop_getD hlt .nil, List.drop_of_length_le (by omega)]
    have hm := hS _ (getD_mem hlt .nil)
    refine ⟨fun t ht => ?_, ?_, ?_⟩
    · rcases List.mem_append.1 ht with ht | ht
      · exact hS t (List.mem_of_mem_take ht)
      · rw [List.mem_singleton] at ht; subst ht; exact ⟨trivial, hm.1, hm.2⟩
    · rw [List.map_append, List.map_take, List.map_singleton, ← List.map_drop]
      simp only [Int.toNat_one]
      rw [hd]
      simp [Qt.dep, maxL]
    · have hs := (right_n h5).1 hr
      rw [hs, h5, List.flatMap_append, List.flatMap_singleton]
      conv => rhs; rw [← List.take_append_drop (S.length - 1) S, hd, List.flatMap_append, List.flatMap_singleton]
      simp [Qt.st]
  · by_cases h6 : op = 6 ∨ op = 7
    · have hT : takesS (op, nn, wd, fr, to) = nn := by unfold takesS; simp [h5, h6]
      have hE : stepT S (op, nn, wd, fr, to) = S.take (S.length - nn.toNat) ++ [.group op (ofL (S.drop (S.length - nn.toNat)))] := by unfold stepT; simp [h5, h6]
      rw [hT] at ht ⊢
      rw [hE]
      obtain ⟨hs, hn⟩ := (right_g h6).1 hr
      have hl : (S.drop (S.length - nn.toNat)).length = nn.toNat := by rw [List.length_drop]; omega
      refine ⟨fun t ht => ?_, ?_, ?_⟩
      · rcases List.mem_append.1 ht with ht | ht
        · exact hS t (List.mem_of_mem_take ht)
        · rw [List.mem_singleton] at ht; subst ht
          exact ⟨trivial, h6, by rw [ofL_len, hl]; omega, ofL_isL _, ofL_wf fun t ht => hS t (List.mem_of_mem_drop ht)⟩
      · rw [List.map_append, List.map_take, List.map_singleton, ← List.map_drop]
        simp [Qt.dep, ofL_dep]
      · rw [hs, List.flatMap_append, List.flatMap_singleton]
        conv => rhs; rw [← List.take_append_drop (S.length - nn.toNat) S, List.flatMap_append]
        simp only [Qt.st, ofL_st, ofL_len, hl]
        rw [show ((nn.toNat : Nat) : Int) = nn by omega, List.append_assoc]
    · have hT : takesS (op, nn, wd, fr, to) = 0 := by unfold takesS; simp [h5, h6]
      have hE : stepT S (op, nn, wd, fr, to) = S ++ [.leaf (op, nn, wd, fr, to)] := by unfold stepT; simp [h5, h6]
      rw [hT, hE]
      have h4 : op ≤ 4 := by unfold rightS at hr; simp only at hr; omega
      refine ⟨fun t ht => ?_, ?_, ?_⟩
      · rcases List.mem_append.1 ht with ht | ht
        · exact hS t ht
        · rw [List.mem_singleton] at ht; subst ht; exact ⟨trivial, hr, h4⟩
      · rw [List.map_append, List.map_singleton]
        simp only [Int.toNat_zero, Nat.sub_zero]
        rw [List.take_of_length_le (by simp), List.drop_of_length_le (by simp)]
        rfl
      · rw [List.flatMap_append, List.flatMap_singleton]; rfl
theorem parS_ok : ∀ (q : List StepC) (S : List Qt) (G : List Nat), (∀ t ∈ S, t.isN ∧ t.wf) → depS (S.map Qt.dep) q = some G →
    (∀ t ∈ parS S q, t.isN ∧ t.wf) ∧ (parS S q).map Qt.dep = G ∧ (parS S q).flatMap Qt.st = S.flatMap Qt.st ++ q
  | [], S, G, hS, h => by
    simp only [depS, Option.some.injEq] at h
    exact ⟨hS, h, by simp [parS]⟩
  | s :: r, S, G, hS, h => by
    rw [depS_cons] at h
    split at h
    · rename_i hc
      rw [List.length_map] at hc h
      obtain ⟨h1, h2, h3⟩ := stepT_ok hS hc.1 hc.2
      rw [← h2] at h
      obtain ⟨h4, h5, h6⟩ := parS_ok r (stepT S s) G h1 h
      exact ⟨h4, h5, by rw [parS_cons, h6, h3, List.append_assoc]; rfl⟩
    · cases h
theorem check_ok {q : List StepC} (h : checkQ q = 0) : ∃ t : Qt, q.length ≤ 1000 ∧ depS [] q = some [t.dep] ∧ parS [] q = [t] ∧ t.isN ∧ t.wf ∧ t.st = q ∧ t.dep ≤ 64 := by
  unfold checkQ at h
  split at h
  · exact absurd h (by decide)
  · rename_i hc
    have hq : ¬ 1000 < q.length := fun h' => by rw [depthQ_a h'] at h; exact absurd h (by decide)
    cases hd : depS [] q with
    | none => rw [depthQ_n hq hd] at h; exact absurd h (by decide)
    | some D =>
      have h1 : D.length = 1 := Classical.byContradiction fun h' => by rw [depthQ_m hq hd h'] at h; exact absurd h (by decide)
      obtain ⟨d, rfl⟩ : ∃ d, D = [d] := List.length_eq_one_iff.1 h1
      obtain ⟨h2, h3, h4⟩ := parS_ok q [] [d] (by simp) hd
      obtain ⟨t, ht⟩ : ∃ t, parS [] q = [t] := List.length_eq_one_iff.1 (by have := congrArg List.length h3; simpa using this)
      rw [ht] at h2 h3 h4
      have h5 := h2 t (by simp)
      simp at h3 h4
      rw [depthQ_1 hq hd h1] at hc
      simp at hc
      exact ⟨t, by omega, by rw [h3], ht, h5.1, h5.2, h4, by omega⟩
/-! a tree's steps are right -/
theorem dep_st (t : Qt) (hw : t.wf) : (t.isN → ∀ D r, depS D (t.st ++ r) = depS (D ++ [t.dep]) r) ∧ (∀ k ∈ toL t, ∀ D r, depS D (k.st ++ r) = depS (D ++ [k.dep]) r) := by
  refine Qt.ind (P := fun t => ∀ D r, depS D (t.st ++ r) = depS (D ++ [t.dep]) r) (fun s h1 h2 D r => ?_) (fun k h1 h2 ih D r => ?_) (fun op l h1 h2 h3 ih D r => ?_) t hw
  · have hT : takesS s = 0 := by unfold takesS; rw [if_neg (by omega), if_neg (by omega)]
    show depS D (s :: r) = _
    rw [depS_cons, hT, if_pos ⟨h1, by omega⟩]
    simp only [Int.toNat_zero, Nat.sub_zero]
    rw [List.take_of_length_le (Nat.le_refl _), List.drop_of_length_le (Nat.le_refl _)]
    rfl
  · have hr : rightS ((5, 0, [], 0, 0) : StepC) := (right_n rfl).2 rfl
    show depS D ((k.st ++ [(5, 0, [], 0, 0)]) ++ r) = _
    rw [List.append_assoc, ih, List.singleton_append, depS_cons, if_pos ⟨hr, by simp [takesS]; omega⟩]
    have hT : takesS ((5, 0, [], 0, 0) : StepC) = 1 := rfl
    rw [hT]
    simp [maxL, Qt.dep]
  · have hl : ∀ (l : List Qt) (D : List Nat) (r : List StepC), (∀ t ∈ l, ∀ D r, depS D (t.st ++ r) = depS (D ++ [t.dep]) r) → depS D (l.flatMap Qt.st ++ r) = depS (D ++ l.map Qt.dep) r := by
      intro l
      induction l with
      | nil => intro D r _; simp
      | cons k l ihl =>
        intro D r h
        rw [List.flatMap_cons, List.append_assoc, h k (by simp), ihl _ _ fun t ht => h t (by simp [ht])]
        simp
    have hr : rightS ((op, (l.length : Int), [], 0, 0) : StepC) := (right_g h1).2 ⟨rfl, by omega⟩
    have hT : takesS ((op, (l.length : Int), [], 0, 0) : StepC) = l.length := by unfold takesS; rw [if_neg (by simp only; omega), if_pos h1]
    show depS D (((ofL l).st ++ [(op, ((ofL l).len : Int), [], 0, 0)]) ++ r) = _
    rw [ofL_st, ofL_len, List.append_assoc, hl l D _ ih, List.singleton_append, depS_cons, hT, if_pos ⟨hr, by simp; omega⟩]
    simp [Qt.dep, ofL_dep]
theorem depS_st {t : Qt} (h1 : t.isN) (h2 : t.wf) : depS [] t.st = some [t.dep] := by
  have := (dep_st t h2).1 h1 [] []
  rw [List.append_nil] at this
  rw [this]; rfl
theorem depthQ_st {t : Qt} (h1 : t.isN) (h2 : t.wf) (h3 : t.st.length ≤ 1000) : depthQ t.st = ((t.dep : Int), 0) := by
  rw [depthQ_1 (by omega) (depS_st h1 h2) rfl]; rfl
theorem checkQ_st {t : Qt} (h1 : t.isN) (h2 : t.wf) (h3 : t.st.length ≤ 1000) (h4 : t.dep ≤ 64) : checkQ t.st = 0 := by
  unfold checkQ
  rw [depthQ_st h1 h2 h3, if_neg (by simp only; omega)]
end Go.Proofs.Ytakokckokchacaa
namespace Go.Proofs.Ytakokckokchacaa
open Go.RowKit
set_option linter.unusedVariables false
set_option maxRecDepth 20000
variable {B : Nat} {w0 : World} {F L M : List Ch} {A A2 : Option Addr} {n c c2 g : Nat}
/-- a node, or a list of nodes, as_ values -/
def NV (B : Nat) (w0 : World) (L : List Ch) : Qt → List Value → Prop
  | .leaf s, us => us = [.iface 88 (.agg (StepC.cells s).toArray)]
  | .not k, us => ∃ u, us = [.iface 64 (.agg #[u])] ∧ NV B w0 L k [u]
  | .group op ks, us => ∃ A c vs, us = [.iface 67 (.agg #[.int .i64 op, .slice A ks.len c])] ∧ Bor B w0 L 1 (.slice A ks.len c) ks.len vs ∧ NV B w0 L ks vs
  | .nil, us => us = []
  | .cons k r, us => ∃ u vs, us = u :: vs ∧ NV B w0 L k [u] ∧ NV B w0 L r vs
theorem NV.mono (hs : L.Sublist M) : ∀ {t : Qt} {us : List Value}, NV B w0 L t us → NV B w0 M t us
  | .leaf s, us, h => h
  | .not k, us, ⟨u, h1, h2⟩ => ⟨u, h1, NV.mono hs h2⟩
  | .group op ks, us, ⟨A, c, vs, h1, h2, h3⟩ => ⟨A, c, vs, h1, h2.mono hs, NV.mono hs h3⟩
  | .nil, us, h => h
  | .cons k r, us, ⟨u, vs, h1, h2, h3⟩ => ⟨u, vs, h1, NV.mono hs h2, NV.mono hs h3⟩
theorem NV.perm (hs : L.Perm M) : ∀ {t : Qt} {us : List Value}, NV B w0 L t us → NV B w0 M t us
  | .leaf s, us, h => h
  | .not k, us, ⟨u, h1, h2⟩ => ⟨u, h1, NV.perm hs h2⟩
  | .group op ks, us, ⟨A, c, vs, h1, h2, h3⟩ => ⟨A, c, vs, h1, h2.perm hs, NV.perm hs h3⟩
  | .nil, us, h => h
  | .cons k r, us, ⟨u, vs, h1, h2, h3⟩ => ⟨u, vs, h1, NV.perm hs h2, NV.perm hs h3⟩
theorem NV.cons_ {x : Ch} {t : Qt} {us : List Value} (h : NV B w0 L t us) : NV B w0 (x :: L) t us := h.mono (.cons _ (.refl _))
theorem NV.one : ∀ {t : Qt} {us : List Value}, NV B w0 L t us → ∀ u ∈ us, u.oneCell' = true
  | .leaf s, us, h, u, hu => by rw [show us = _ from h, List.mem_singleton] at hu; rw [hu]; rfl
  | .not k, us, ⟨_, h1, _⟩, u, hu => by rw [h1, List.mem_singleton] at hu; rw [hu]; rfl
  | .group op ks, us, ⟨_, _, _, h1, _⟩, u, hu => by rw [h1, List.mem_singleton] at hu; rw [hu]; rfl
  | .nil, us, h, u, hu => by rw [show us = _ from h] at hu; simp at hu
  | .cons k r, us, ⟨x, vs, h1, h2, h3⟩, u, hu => by
    rw [h1] at hu
    rcases List.mem_cons.1 hu with hu | hu
    · exact NV.one h2 u (by rw [hu]; simp)
    · exact NV.one h3 u hu
/-! lists -/
abbrev NVs (B : Nat) (w0 : World) (L : List Ch) (S : List Qt) (us : List Value) : Prop := NV B w0 L (ofL S) us
theorem NVs.len : ∀ {S : List Qt} {us : List Value}, NVs B w0 L S us → us.length = S.length
  | [], us, h => by rw [show us = _ from h]; rfl
  | k :: r, us, ⟨x, vs, h1, h2, h3⟩ => by rw [h1, List.length_cons, List.length_cons, NVs.len (S := r) h3]
theorem NVs.get : ∀ {S : List Qt} {us : List Value}, NVs B w0 L S us → ∀ {k : Nat}, k < S.length → ∃ u, us[k]? = some u ∧ NV B w0 L (S.getD k .nil) [u]
  | [], us, h, k, hk => absurd hk (by simp)
  | t :: r, us, ⟨x, vs, h1, h2, h3⟩, 0, _ => ⟨x, by rw [h1]; rfl, h2⟩
  | t :: r, us, ⟨x, vs, h1, h2, h3⟩, k + 1, hk => by
    obtain ⟨u, e1, e2⟩ := NVs.get (S := r) h3 (k := k) (by simpa using hk)
    exact ⟨u, by rw [h1]; simpa using e1, by simpa using e2⟩
theorem NVs.append : ∀ {S T : List Qt} {us vs : List Value}, NVs B w0 L S us → NVs B w0 L T vs → NVs B w0 L (S ++ T) (us ++ vs)
  | [], T, us, vs, h, h' => by rw [show us = _ from h]; exact h'
  | t :: r, T, us, vs, ⟨x, ws, h1, h2, h3⟩, h' => ⟨x, ws ++ vs, by rw [h1]; rfl, h2, NVs.append (S := r) h3 h'⟩
theorem NVs.sing {t : Qt} {u : Value} (h : NV B w0 L t [u]) : NVs B w0 L [t] [u] := ⟨u, [], rfl, h, rfl⟩
theorem NVs.take : ∀ {S : List Qt} {us : List Value}, NVs B w0 L S us → ∀ k, NVs B w0 L (S.take k) (us.take k)
  | [], us, h, k => by rw [show us = _ from h]; first | (simp; done) | (simp; exact rfl)
  | t :: r, us, h, 0 => by first | (simp; done) | (simp; exact rfl)
  | t :: r, us, ⟨x, vs, h1, h2, h3⟩, k + 1 => by rw [h1]; exact ⟨x, vs.take k, rfl, h2, NVs.take (S := r) h3 k⟩
theorem NVs.drop : ∀ {S : List Qt} {us : List Value}, NVs B w0 L S us → ∀ k, NVs B w0 L (S.drop k) (us.drop k)
  | [], us, h, k => by rw [show us = _ from h]; first | (simp; done) | (simp; exact rfl)
  | t :: r, us, h, 0 => by simpa using h
  | t :: r, us, ⟨x, vs, h1, h2, h3⟩, k + 1 => by rw [h1]; exact NVs.drop (S := r) h3 k
theorem nv_group {op : Int} {l : List Qt} {u : Value} (h : NV B w0 L (.group op (ofL l)) [u]) : ∃ A c vs, u = .iface 67 (.agg #[.int .i64 op, .slice A l.length c]) ∧ Bor B w0 L 1 (.slice A l.length c) l.length vs ∧ NVs B w0 L l vs := by
  obtain ⟨A, c, vs, h1, h2, h3⟩ := h
  rw [ofL_len] at h1 h2
  exact ⟨A, c, vs, by simpa using h1, h2, h3⟩
theorem nv_group_mk {op : Int} {l : List Qt} {A : Option Addr} {c : Nat} {vs : List Value} (h2 : Bor B w0 L 1 (.slice A l.length c) l.length vs) (h3 : NVs B w0 L l vs) : NV B w0 L (.group op (ofL l)) [.iface 67 (.agg #[.int .i64 op, .slice A l.length c])] :=
  ⟨A, c, vs, by rw [ofL_len], by rw [ofL_len]; exact h2, h3⟩
/-- a method's name, off the program's table -/
noncomputable def nmOf (k : Nat) : String := match Try.prog.info? 64 with
  | some i => (match i.methods[k]? with
    | some m => m.name
    | none => "")
  | none => ""
noncomputable def nmFlat : String := nmOf 0
noncomputable def nmMeans : String := nmOf 1
noncomputable def nmSteps : String := nmOf 2
theorem nclone_d {vs : List Value} {m : Nat} (hb : Bor B w0 F 1 (.slice A m c) m vs) (h1 : ∀ u ∈ vs, u.oneCell' = true) (hn : m ≤ 1000000) :
    Does Try.prog B w0 47 [.slice A m c] F (fun r L => ∃ A' c', r = .slice A' m c' ∧ L = .own 58 1 A' m c' vs :: F) := by
  rcases A with _ | ad
  · refine Does.bor hb fun _ hl => ?_
    have hnil : m = 0 → vs = [] := fun h0 => List.eq_nil_of_length_eq_zero (by rw [hl, h0])
    refine fun w hw => ?_
    obtain ⟨A', c', hv, hc, hl2, hr⟩ := hb w hw
    injection hv with q1 q2 q3
    subst q1
    have h0 : m = 0 := by
      rcases Nat.eq_zero_or_pos m with h | h
      · exact h
      · obtain ⟨ad, e, _⟩ := hr h; cases e
    subst h0
    rw [hnil rfl]
    refine (show Does Try.prog B w0 47 [.slice none 0 c] F (fun r L => ∃ A' c', r = .slice A' 0 c' ∧ L = .own 58 1 A' 0 c' [] :: F) from ?_) w hw
    refine fn_walk Try.func47 8 rfl rfl rfl [(0, .slice none 0 c)] ⟨⟨rfl, rfl⟩, trivial⟩ ?_
    refine vc_seq ?_
    refine vc_region ?_
    refine vl_det (det_assign rfl) rfl ?_
    refine vl_end [(0, _)] ⟨rfl, trivial⟩ ?_
    refine then_next ?_
    refine vc_seq ?_
    refine vc_seq ?_
    refine vc_region ?_
    refine vl_det (det_move rfl) rfl ?_
    refine vl_det (det_sl_nil Try.underlying65 rfl rfl) rfl ?_
    refine vl_end [(0, _), (4, _)] ⟨rfl, rfl, trivial⟩ ?_
    refine then_next ?_
    refine vc_cond_t rfl ?_
    refine vc_seq ?_
    refine vc_region ?_
    refine vl_det (det_assign rfl) rfl ?_
    refine vl_end [(2, _)] ⟨rfl, trivial⟩ ?_
    refine then_next ?_
    refine vc_ret ?_
    refine then_ret ?_
    refine ret_nil_row 58 1 none ?_
    refine ret1 rfl rfl ?_
    exact ⟨none, 0, rfl, rfl⟩
  · skip
    refine fn_walk Try.func47 8 rfl rfl rfl [(0, .slice (some ad) m c)] ⟨⟨rfl, rfl⟩, trivial⟩ ?_
    refine vc_seq ?_
    refine vc_region ?_
    refine vl_det (det_assign rfl) rfl ?_
    refine vl_end [(0, _)] ⟨rfl, trivial⟩ ?_
    refine then_next ?_
    refine vc_seq ?_
    refine vc_seq ?_
    refine vc_region ?_
    refine vl_det (det_move rfl) rfl ?_
    refine vl_det (det_sl_nil Try.underlying65 rfl rfl) rfl ?_
    refine vl_end [(0, _), (4, _)] ⟨rfl, rfl, trivial⟩ ?_
    refine then_next ?_
    refine vc_cond_f rfl ?_
    refine vc_skip ?_
    refine then_next ?_
    refine vc_seq ?_
    refine vc_region ?_
    refine vl_eff (eff_build_empty slT65) rfl ?_
    rintro _ _ ⟨A5, rfl, rfl⟩
    refine vl_det (det_move rfl) rfl ?_
    refine vl_eff (eff_app slT65 rfl (by repeat (first | exact .hd | apply Sel.tl)) rfl (by first | (exact Bor.own (by repeat (first | exact List.Mem.head _ | apply List.Mem.tail))) | (repeat (first | assumption | apply Bor.cons))) h1 (by omega) (by omega)) rfl ?_
    rintro _ _ ⟨A7, c7, rfl, rfl⟩
    refine vl_det (det_assign rfl) rfl ?_
    refine vl_end [(2, _)] ⟨rfl, trivial⟩ ?_
    refine then_next ?_
    refine vc_ret ?_
    rw [Nat.zero_add, List.nil_append]
    refine ret1 rfl rfl ?_
    exact ⟨_, _, rfl, rfl⟩
/-! steps -/
theorem steps_leaf (s : StepC) : Does Try.prog B w0 116 [.agg (StepC.cells s).toArray] F (fun r L => ∃ A c, r = .slice A 1 c ∧ L = .own 38 5 A 1 c (stepsV [s]) :: F) := by
  refine fn_walk Try.func116 6 rfl rfl rfl [(0, .agg (StepC.cells s).toArray)] ⟨⟨rfl, rfl⟩, trivial⟩ ?_
  refine vc_seq ?_
  refine vc_region ?_
  refine vl_eff (eff_box rfl rfl) rfl ?_
  rintro _ _ ⟨g1, rfl, rfl⟩
  refine vl_det (det_assign rfl) rfl ?_
  refine vl_end [(1, _)] ⟨rfl, trivial⟩ ?_
  refine then_next ?_
  refine vc_seq ?_
  refine vc_region ?_
  refine vl_det (det_fieldAddr_ Try.underlying88 rfl (by kernel_rfl) rfl rfl) rfl ?_
  refine vl_det (det_load_whole 5 (by kernel_rfl) rfl (by repeat (first | exact .hd | apply Sel.tl)) rfl) rfl ?_
  refine vl_eff (eff_build1s (us := StepC.cells s) slT22 rfl rfl rfl (by omega)) rfl ?_
  rintro _ _ ⟨A5, rfl, rfl⟩
  refine vl_det (det_assign rfl) rfl ?_
  refine vl_end [(2, _)] ⟨rfl, trivial⟩ ?_
  refine then_next ?_
  refine vc_ret ?_
  refine ret_wk (L' := .own 38 5 A5 1 1 (stepsV [s]) :: F) (wk_own rfl (steps_sing s).symm (.skip (.refl _))) ?_
  refine ret1 rfl rfl ?_
  exact ⟨A5, 1, rfl, rfl⟩
def StQ (B : Nat) (w0 : World) (t : Qt) : Prop := t.st.length ≤ 1000000 → ∀ (L : List Ch) (u : Value), NV B w0 L t [u] → DoesM Try.prog B w0 u nmSteps [] L (fun r L' => ∃ A c, r = .slice A t.st.length c ∧ L' = .own 38 5 A t.st.length c (stepsV t.st) :: L)
theorem steps_not {k : Qt} {u : Value} (hk : NV B w0 F k [u]) (hl : k.st.length ≤ 1000000) (ih : StQ B w0 k) : Does Try.prog B w0 105 [.agg #[u]] F (fun r L => ∃ A c, r = .slice A (Qt.not k).st.length c ∧ L = .own 38 5 A (Qt.not k).st.length c (stepsV (Qt.not k).st) :: F) := by
  have h1 := hk.one u (by simp)
  have hls : (Qt.not k).st.length = k.st.length + 1 := by simp [Qt.st]
  have hv : stepsV (Qt.not k).st = stepsV k.st ++ StepC.cells (5, 0, [], 0, 0) := by show stepsV (k.st ++ _) = _; rw [steps_app, steps_sing]
  rw [hls, hv]
  refine fn_walk Try.func105 9 rfl rfl rfl [(0, .agg #[u])] ⟨⟨rfl, rfl⟩, trivial⟩ ?_
  refine vc_seq ?_
  refine vc_region ?_
  refine vl_eff (eff_box rfl rfl) rfl ?_
  rintro _ _ ⟨g1, rfl, rfl⟩
  refine vl_det (det_assign rfl) rfl ?_
  refine vl_end [(1, _)] ⟨rfl, trivial⟩ ?_
  refine then_next ?_
  refine vc_seq ?_
  refine vc_region ?_
  refine vl_det (det_fieldAddr_ Try.underlying64 rfl (by kernel_rfl) rfl rfl) rfl ?_
  refine vl_det (det_load_blk (by kernel_rfl) rfl (by repeat (first | exact .hd | apply Sel.tl)) rfl) rfl ?_
  refine vl_invoke (by kernel_rfl) rfl rfl (ih hl _ u hk.cons_) rfl ?_
  rintro _ _ ⟨A5, c5, rfl, hLL⟩
  obtain rfl := hLL.symm
  refine vl_det (det_buildp [(0, _)] [.int .i64 0, .int .i64 0, .string ⟨#[]⟩, .int .u64 0, .int .u64 0] [0] [_, _, _, _, _] rfl rfl (by kernel_rfl)) rfl ?_
  refine vl_pushs slT22 rfl rfl rfl (by omega) (by first | exact bv_one _ | exact strs_one _ | exact ints_one _ _ | (simp; done) | (simp [Value.oneCell']; done) | assumption) rfl rfl rfl (fun _ => rfl) (by repeat (first | exact .hd | apply Sel.tl)) (by omega) (by omega) ?_
  intro _ A8 c8
  refine vl_det (det_assign rfl) rfl ?_
  refine vl_end [(2, _)] ⟨rfl, trivial⟩ ?_
  refine then_next ?_
  refine vc_ret ?_
  refine ret_wk (L' := .own 38 5 A8 (k.st.length + 1) c8 (stepsV k.st ++ StepC.cells (5, 0, [], 0, 0)) :: F) (.cons (.skip (.refl _))) ?_
  refine ret1 rfl rfl ?_
  exact ⟨A8, c8, rfl, rfl⟩
theorem steps_group {op : Int} {l : List Qt} {vs : List Value} (hb : Bor B w0 F 1 (.slice A l.length c) l.length vs) (hl : NVs B w0 F l vs) (hst : (l.flatMap Qt.st).length + 1 ≤ 1000000) (hn : l.length ≤ 1000000) (ih : ∀ t ∈ l, StQ B w0 t) :
    Does Try.prog B w0 108 [.agg #[.int .i64 op, .slice A l.length c]] F (fun r L => ∃ A' c', r = .slice A' (Qt.group op (ofL l)).st.length c' ∧ L = .own 38 5 A' (Qt.group op (ofL l)).st.length c' (stepsV (Qt.group op (ofL l)).st) :: F) := by
  have hS : (Qt.group op (ofL l)).st = l.flatMap Qt.st ++ [(op, (l.length : Int), [], 0, 0)] := by show (ofL l).st ++ _ = _; rw [ofL_st, ofL_len]
  have hls : (Qt.group op (ofL l)).st.length = (l.flatMap Qt.st).length + 1 := by rw [hS]; simp
  have hv : stepsV (Qt.group op (ofL l)).st = stepsV (l.flatMap Qt.st) ++ StepC.cells (op, (l.length : Int), [], 0, 0) := by rw [hS, steps_app, steps_sing]
  rw [hls, hv]
  have htk : ∀ i, i < l.length → (l.take (i + 1)).flatMap Qt.st = (l.take i).flatMap Qt.st ++ (l.getD i .nil).st := fun i hi => by
    rw [take_getD hi .nil, List.flatMap_append, List.flatMap_singleton]
  have hle : ∀ i, i ≤ l.length → ((l.take i).flatMap Qt.st).length ≤ (l.flatMap Qt.st).length := fun i hi => by
    conv => rhs; rw [← List.take_append_drop i l, List.flatMap_append, List.length_append]
    omega
  refine fn_walk Try.func108 27 rfl rfl rfl [(0, .agg #[.int .i64 op, .slice A l.length c])] ⟨⟨rfl, rfl⟩, trivial⟩ ?_
  refine vc_seq ?_
  refine vc_region ?_
  refine vl_eff (eff_box rfl rfl) rfl ?_
  rintro _ _ ⟨g1, rfl, rfl⟩
  refine vl_det (det_assign rfl) rfl ?_
  refine vl_end [(1, _)] ⟨rfl, trivial⟩ ?_
  refine then_next ?_
  refine vc_seq ?_
  refine vc_region ?_
  refine vl_det (det_assign rfl) rfl ?_
  refine vl_end [(1, _), (3, _)] ⟨rfl, rfl, trivial⟩ ?_
  refine then_next ?_
  refine vc_seq ?_
  refine vc_seq ?_
  refine vc_nil_row 38 5 none ?_
  refine vc_region ?_
  refine vl_det (det_fieldAddr_ Try.underlying67 rfl (by kernel_rfl) rfl rfl) rfl ?_
  refine vl_det (det_load_blk (by kernel_rfl) rfl (by repeat (first | exact .hd | apply Sel.tl)) rfl) rfl ?_
  refine vl_det (det_len_sl Try.underlying65 rfl) rfl ?_
  refine vl_det (det_move rfl) rfl ?_
  refine vl_end [(1, _), (3, _), (7, _), (8, _), (9, _)] ⟨rfl, rfl, rfl, rfl, rfl, trivial⟩ ?_
  refine then_next ?_
  refine vc_block ?_
  refine vc_loopJ (fun zf zL zm => ∃ (i : Nat) (A3 : Option Addr) (c3 : Nat), (i ≤ l.length) ∧ l.length - i = zm ∧ Sub zf [(1, .pointer (some ⟨g1, 0, none⟩)), (3, .slice A3 ((l.take i).flatMap Qt.st).length c3), (7, .slice A l.length c), (8, .int .i64 l.length), (9, .int .i64 i)] ∧ Wk zL (.own 38 5 A3 ((l.take i).flatMap Qt.st).length c3 (stepsV ((l.take i).flatMap Qt.st)) :: .blk g1 67 [.int .i64 op, .slice A l.length c] :: F)) _ ⟨0, none, 0, Nat.zero_le _, rfl, ⟨(by first | rfl | exact int_to (by omega) | exact sl_to (by omega)), (by first | rfl | exact int_to (by omega) | exact sl_to (by omega)), (by first | rfl | exact int_to (by omega) | exact sl_to (by omega)), (by first | rfl | exact int_to (by omega) | exact sl_to (by omega)), (by first | rfl | exact int_to (by omega) | exact sl_to (by omega)), trivial⟩, .refl _⟩ ?_
  rintro _ _ _ ⟨i, A3, c3, hi, rfl, hs, hp⟩
  refine vc_weaken _ hs (vc_wk hp ?_)
  clear hs hp
  refine vc_seq ?_
  refine vc_region ?_
  refine vl_det (det_lss rfl rfl) rfl ?_
  refine vl_end [(1, _), (3, _), (7, _), (8, _), (9, _), (10, _)] ⟨rfl, rfl, rfl, rfl, rfl, rfl, trivial⟩ ?_
  refine then_next ?_
  refine vc_seq ?_
  refine vc_decideU rfl (fun h10 => ?_) (fun h10 => ?_)
  · skip
    obtain ⟨u, hu, hku⟩ := hl.get (k := i) (by omega)
    have hti := htk i (by omega)
    have hl1 := hle i (by omega)
    have hl2 := hle (i + 1) (by omega)
    rw [hti, List.length_append] at hl2
    have hih := ih _ (getD_mem (show i < l.length by omega) .nil)
    obtain ⟨k, hk⟩ : ∃ k, k = l.getD i .nil := ⟨_, rfl⟩
    rw [← hk] at hku hti hl2 hih
    have hu1 : vs[i * 1]? = some u := by rw [Nat.mul_one]; exact hu
    refine vc_skip ?_
    refine then_next ?_
    refine vc_seq ?_
    refine vc_block ?_
    refine vc_seq ?_
    refine vc_region ?_
    refine vl_det (det_indexAddr (size := 1) Try.underlying65 (by kernel_rfl) rfl rfl rfl (by omega) (by first | (exact Bor.own (by repeat (first | exact List.Mem.head _ | apply List.Mem.tail))) | (repeat (first | assumption | apply Bor.cons)))) rfl ?_
    refine vl_det (det_load_row (by kernel_rfl) rfl (by first | (exact Bor.own (by repeat (first | exact List.Mem.head _ | apply List.Mem.tail))) | (repeat (first | assumption | apply Bor.cons))) (by omega) hu1) rfl ?_
    refine vl_det (det_assign rfl) rfl ?_
    refine vl_end [(1, _), (3, _), (5, _), (7, _), (8, _), (9, _)] ⟨rfl, rfl, rfl, rfl, rfl, rfl, trivial⟩ ?_
    refine then_next ?_
    refine vc_region ?_
    refine vl_det (det_move rfl) rfl ?_
    refine vl_det (det_move rfl) rfl ?_
    refine vl_invoke (by kernel_rfl) rfl rfl (hih (by omega) _ u hku.cons_.cons_) rfl ?_
    rintro _ _ ⟨A15, c15, rfl, hLL⟩
    obtain rfl := hLL.symm
    refine vl_eff (eff_app slT22 rfl (by repeat (first | exact .hd | apply Sel.tl)) rfl (by first | (exact Bor.own (by repeat (first | exact List.Mem.head _ | apply List.Mem.tail))) | (repeat (first | assumption | apply Bor.cons))) (steps_one _) (by omega) (by omega)) rfl ?_
    rintro _ _ ⟨A16, c16, rfl, rfl⟩
    refine vl_det (det_assign rfl) rfl ?_
    refine vl_end [(1, _), (3, _), (7, _), (8, _), (9, _)] ⟨rfl, rfl, rfl, rfl, rfl, trivial⟩ ?_
    refine in_normal ?_
    refine then_next ?_
    refine vc_region ?_
    refine vl_det (det_add rfl rfl (w_i64 (by omega) (by omega))) rfl ?_
    refine vl_det (det_move rfl) rfl ?_
    refine vl_end [(1, _), (3, _), (7, _), (8, _), (9, _)] ⟨rfl, rfl, rfl, rfl, rfl, trivial⟩ ?_
    have hel : ((l.take i).flatMap Qt.st).length + k.st.length = ((l.take (i + 1)).flatMap Qt.st).length := by rw [hti, List.length_append]
    refine in_loop_ ⟨_, by omega, i + 1, A16, c16, by omega, rfl, ⟨(by first | rfl | exact int_to (by omega) | exact sl_to (by omega)), (by first | rfl | exact int_to (by omega) | exact sl_to (by omega)), (by first | rfl | exact int_to (by omega) | exact sl_to (by omega)), (by first | rfl | exact int_to (by omega) | exact sl_to (by omega)), (by first | rfl | exact int_to (by omega) | exact sl_to (by omega)), trivial⟩, .skip (wk_own hel (by rw [hti, steps_app]) (.refl _))⟩
  · skip
    obtain rfl : i = l.length := by omega
    rw [List.take_length]
    refine vc_exit ?_
    refine then_exit ?_
    refine loop_exit ?_
    refine in_eq ?_
    refine then_next ?_
    refine vc_seq ?_
    refine vc_region ?_
    refine vl_det (det_move rfl) rfl ?_
    refine vl_det (det_fieldAddr_ Try.underlying67 rfl (by kernel_rfl) rfl rfl) rfl ?_
    refine vl_det (det_load_blk (by kernel_rfl) rfl (by repeat (first | exact .hd | apply Sel.tl)) rfl) rfl ?_
    refine vl_det (det_fieldAddr_ Try.underlying67 rfl (by kernel_rfl) rfl rfl) rfl ?_
    refine vl_det (det_load_blk (by kernel_rfl) rfl (by repeat (first | exact .hd | apply Sel.tl)) rfl) rfl ?_
    refine vl_det (det_len_sl Try.underlying65 rfl) rfl ?_
    refine vl_det (det_buildp [(0, _), (1, _)] [.int .i64 0, .int .i64 0, .string ⟨#[]⟩, .int .u64 0, .int .u64 0] [0, 1] [_, _, _, _, _] rfl rfl (by kernel_rfl)) rfl ?_
    refine vl_pushs slT22 rfl rfl rfl (by omega) (by first | exact bv_one _ | exact strs_one _ | exact ints_one _ _ | (simp; done) | (simp [Value.oneCell']; done) | assumption) rfl rfl rfl (fun _ => rfl) (by repeat (first | exact .hd | apply Sel.tl)) (by omega) (by omega) ?_
    intro _ A26 c26
    refine vl_det (det_assign rfl) rfl ?_
    refine vl_end [(2, _)] ⟨rfl, trivial⟩ ?_
    refine then_next ?_
    refine vc_ret ?_
    refine ret_wk (L' := .own 38 5 A26 ((l.flatMap Qt.st).length + 1) c26 (stepsV (l.flatMap Qt.st) ++ StepC.cells (op, (l.length : Int), [], 0, 0)) :: F) (.cons (.skip (.refl _))) ?_
    refine ret1 rfl rfl ?_
    exact ⟨A26, c26, rfl, rfl⟩
theorem st_pos {t : Qt} (h : t.isN) : 1 ≤ t.st.length := List.length_pos_iff.2 (st_ne h)
theorem flat_len {l : List Qt} (h : ∀ t ∈ l, t.isN ∧ t.wf) : l.length ≤ (l.flatMap Qt.st).length := by
  induction l with
  | nil => simp
  | cons k r ih =>
    have h1 := st_pos (h k (by simp)).1
    have h2 := ih fun t ht => h t (by simp [ht])
    rw [List.flatMap_cons, List.length_append, List.length_cons]; omega
theorem mem_flat_len {l : List Qt} {t : Qt} (h : t ∈ l) : t.st.length ≤ (l.flatMap Qt.st).length := by
  induction l with
  | nil => simp at h
  | cons k r ih =>
    rw [List.flatMap_cons, List.length_append]
    rcases List.mem_cons.1 h with h | h
    · rw [h]; omega
    · have := ih h; omega
theorem steps_m {t : Qt} (h1 : t.isN) (h2 : t.wf) : StQ B w0 t := by
  refine (Qt.ind (P := fun t => StQ B w0 t) (fun s h1 h2 => ?_) (fun k h1 h2 ih => ?_) (fun op l h1 h2 h3 ih => ?_) t h2).1 h1
  · intro hl L u hu
    obtain rfl : u = _ := by simpa using (show [u] = _ from hu)
    exact ⟨_, _, _, _, rfl, fun w => by kernel_rfl, co116, steps_leaf s⟩
  · intro hl L u hu
    obtain ⟨x, hx, hk⟩ := hu
    obtain rfl : u = _ := by simpa using hx
    have hl' : k.st.length ≤ 1000000 := by simp [Qt.st] at hl; omega
    exact ⟨_, _, _, _, rfl, fun w => by kernel_rfl, co105, steps_not hk hl' ih⟩
  · intro hl L u hu
    obtain ⟨A, c, vs, rfl, hb, hv⟩ := nv_group hu
    have hS : (Qt.group op (ofL l)).st = l.flatMap Qt.st ++ [(op, (l.length : Int), [], 0, 0)] := by show (ofL l).st ++ _ = _; rw [ofL_st, ofL_len]
    have hl' : (l.flatMap Qt.st).length + 1 ≤ 1000000 := by rw [hS] at hl; simpa using hl
    have hn := flat_len h3
    exact ⟨_, _, _, _, rfl, fun w => by kernel_rfl, co108, steps_group hb hv hl' (by omega) ih⟩
end Go.Proofs.Ytakokckokchacaa
namespace Go.Proofs.Ytakokckokchacaa
open Go.RowKit
set_option linter.unusedVariables false
set_option maxRecDepth 20000
def isG : Qt → Bool
  | .group _ _ => true
  | _ => false
def gop : Qt → Int
  | .group op _ => op
  | _ => 0
def gks : Qt → List Qt
  | .group _ ks => toL ks
  | _ => []
def isNt : Qt → Bool
  | .not _ => true
  | _ => false
def nkid : Qt → Qt
  | .not k => k
  | _ => .nil
def notT (x : Qt) : Qt := if isNt x = true then nkid x else .not x
/-- a node is put behind those that there are, if its like isn't there -/
def addQ (S : List Qt) (t : Qt) : List Qt := if S.any (fun z => decide (z.st = t.st)) = true then S else S ++ [t]
def gath (op : Int) (S : List Qt) (x : Qt) : List Qt := if isG x = true ∧ gop x = op then (gks x).foldl addQ S else addQ S x
def mkG (op : Int) (S : List Qt) : Qt := if S.length = 1 then S.getD 0 .nil else .group op (ofL S)
def flatT : Qt → Qt
  | .leaf s => .leaf s
  | .not k => notT (flatT k)
  | .group op ks => mkG op ((toL (flatT ks)).foldl (gath op) [])
  | .nil => .nil
  | .cons k r => .cons (flatT k) (flatT r)
theorem flatT_ofL : ∀ l : List Qt, toL (flatT (ofL l)) = l.map flatT
  | [] => rfl
  | k :: r => by simp [ofL, flatT, toL, flatT_ofL r]
theorem flatT_group (op : Int) (l : List Qt) : flatT (.group op (ofL l)) = mkG op ((l.map flatT).foldl (gath op) []) := by
  show mkG op ((toL (flatT (ofL l))).foldl (gath op) []) = _
  rw [flatT_ofL]
theorem isG_iff {x : Qt} (hw : x.wf) : isG x = true → ∃ op l, x = .group op (ofL l) ∧ (op = 6 ∨ op = 7) ∧ 2 ≤ l.length ∧ ∀ t ∈ l, t.isN ∧ t.wf := by
  cases x with
  | group op ks => intro _; exact ⟨op, toL ks, by rw [ofL_toL hw.2.2.1 hw.2.2.2], hw.1, by rw [toL_len]; exact hw.2.1, toL_wf hw.2.2.2⟩
  | _ => intro h; cases h
theorem gks_group (op : Int) (l : List Qt) : gks (.group op (ofL l)) = l := toL_ofL l
theorem gks_wf {x : Qt} (hw : x.wf) : ∀ t ∈ gks x, t.isN ∧ t.wf := by
  cases x with
  | group op ks => exact toL_wf hw.2.2.2
  | _ => intro t ht; simp [gks] at ht
def szL (S : List Qt) : Nat := (S.flatMap Qt.st).length
theorem szL_app (S T : List Qt) : szL (S ++ T) = szL S + szL T := by unfold szL; rw [List.flatMap_append, List.length_append]
theorem szL_one (t : Qt) : szL [t] = t.st.length := by unfold szL; rw [List.flatMap_singleton]
theorem szL_cons (t : Qt) (S : List Qt) : szL (t :: S) = t.st.length + szL S := by unfold szL; rw [List.flatMap_cons, List.length_append]
theorem szL_gks {x : Qt} (hw : x.wf) (hn : x.isN) : szL (gks x) ≤ x.st.length := by
  cases x with
  | group op ks =>
    show ((toL ks).flatMap Qt.st).length ≤ (ks.st ++ _).length
    rw [toL_st hw.2.2.1 hw.2.2.2, List.length_append]; omega
  | _ => simp [gks, szL]
theorem addQ_mem {S : List Qt} {x t : Qt} (h : t ∈ addQ S x) : t ∈ S ∨ t = x := by
  unfold addQ at h
  split at h
  · exact .inl h
  · rcases List.mem_append.1 h with h | h
    · exact .inl h
    · exact .inr (List.mem_singleton.1 h)
theorem addQ_sz (S : List Qt) (x : Qt) : szL (addQ S x) ≤ szL S + x.st.length := by
  unfold addQ
  split
  · omega
  · rw [szL_app, szL_one]; omega
theorem addQ_ne (S : List Qt) (x : Qt) : addQ S x ≠ [] := by
  unfold addQ
  split
  · rename_i h; intro e; rw [e] at h; simp at h
  · simp
theorem fold_mem : ∀ {l S : List Qt} {t : Qt}, t ∈ l.foldl addQ S → t ∈ S ∨ t ∈ l
  | [], S, t, h => .inl h
  | x :: r, S, t, h => by
    rcases fold_mem (l := r) h with h | h
    · rcases addQ_mem h with h | h
      · exact .inl h
      · exact .inr (by simp [h])
    · exact .inr (by simp [h])
theorem fold_sz : ∀ (l S : List Qt), szL (l.foldl addQ S) ≤ szL S + szL l
  | [], S => Nat.le_add_right _ _
  | x :: r, S => by
    have h1 := fold_sz r (addQ S x)
    have h2 := addQ_sz S x
    rw [List.foldl_cons, szL_cons]; omega
theorem fold_ne : ∀ {l S : List Qt}, S ≠ [] → l.foldl addQ S ≠ []
  | [], S, h => h
  | x :: r, S, h => fold_ne (l := r) (addQ_ne S x)
theorem gath_mem {op : Int} {S : List Qt} {x t : Qt} (h : t ∈ gath op S x) : t ∈ S ∨ (t = x ∨ t ∈ gks x) := by
  unfold gath at h
  split at h
  · rcases fold_mem h with h | h
    · exact .inl h
    · exact .inr (.inr h)
  · rcases addQ_mem h with h | h
    · exact .inl h
    · exact .inr (.inl h)
theorem gath_sz {op : Int} {S : List Qt} {x : Qt} (hw : x.wf) (hn : x.isN) : szL (gath op S x) ≤ szL S + x.st.length := by
  unfold gath
  split
  · have h1 := fold_sz (gks x) S
    have h2 := szL_gks hw hn
    omega
  · exact addQ_sz S x
theorem gath_ne {op : Int} {S : List Qt} {x : Qt} (hw : x.wf) : gath op S x ≠ [] := by
  unfold gath
  split
  · rename_i h
    obtain ⟨o, l, rfl, _, h2, _⟩ := isG_iff hw h.1
    rw [gks_group]
    match l, h2 with
    | a :: r, _ => exact fold_ne (l := r) (addQ_ne S a)
  · exact addQ_ne S x
theorem gath_wf {op : Int} {S : List Qt} {x : Qt} (hS : ∀ t ∈ S, t.isN ∧ t.wf) (hn : x.isN) (hw : x.wf) : ∀ t ∈ gath op S x, t.isN ∧ t.wf := fun t ht => by
  rcases gath_mem ht with h | h | h
  · exact hS t h
  · rw [h]; exact ⟨hn, hw⟩
  · exact gks_wf hw t h
theorem gaths_wf {op : Int} : ∀ (l S : List Qt), (∀ t ∈ l, t.isN ∧ t.wf) → (∀ t ∈ S, t.isN ∧ t.wf) → ∀ t ∈ l.foldl (gath op) S, t.isN ∧ t.wf
  | [], S, _, hS => hS
  | x :: r, S, hl, hS => gaths_wf r (gath op S x) (fun t ht => hl t (by simp [ht])) (gath_wf hS (hl x (by simp)).1 (hl x (by simp)).2)
theorem gaths_sz {op : Int} : ∀ (l S : List Qt), (∀ t ∈ l, t.isN ∧ t.wf) → szL (l.foldl (gath op) S) ≤ szL S + szL l
  | [], S, _ => Nat.le_add_right _ _
  | x :: r, S, hl => by
    have h1 := gaths_sz (op := op) r (gath op S x) (fun t ht => hl t (by simp [ht]))
    have h2 := gath_sz (op := op) (S := S) (hl x (by simp)).2 (hl x (by simp)).1
    rw [List.foldl_cons, szL_cons]; omega
theorem gaths_ne {op : Int} {l : List Qt} (h : l ≠ []) (hl : ∀ t ∈ l, t.isN ∧ t.wf) : l.foldl (gath op) [] ≠ [] := by
  obtain ⟨a, x, rfl⟩ : ∃ a x, l = a ++ [x] := by
    rcases List.eq_nil_or_concat l with e | ⟨a, x, e⟩
    · exact absurd e h
    · exact ⟨a, x, by rw [e, List.concat_eq_append]⟩
  rw [List.foldl_append]
  exact gath_ne (hl x (by simp)).2
theorem gaths_dep {op : Int} {m : Nat} : ∀ (l S : List Qt), (∀ t ∈ l, t.wf ∧ t.isN ∧ t.dep ≤ m) → (∀ t ∈ S, t.dep ≤ m) → ∀ t ∈ l.foldl (gath op) S, t.dep ≤ m
  | [], S, _, hS => hS
  | x :: r, S, hl, hS => gaths_dep r (gath op S x) (fun t ht => hl t (by simp [ht])) fun t ht => by
    obtain ⟨h1, h2, h3⟩ := hl x (by simp)
    rcases gath_mem ht with h | h | h
    · exact hS t h
    · rw [h]; exact h3
    · cases x with
      | group o ks =>
        have h4 := toL_dep h1.2.2.1 h1.2.2.2
        have h5 : ∀ (l : List Nat) (y : Nat), y ∈ l → y ≤ maxL l := by
          intro l
          induction l with
          | nil => intro y hy; simp at hy
          | cons a r ih =>
            intro y hy
            rcases List.mem_cons.1 hy with e | hy
            · rw [e]; simp only [maxL]; omega
            · have := ih y hy; simp only [maxL]; omega
        have h6 := h5 _ _ (List.mem_map_of_mem (f := Qt.dep) (show t ∈ toL ks from h))
        have h7 : (Qt.group o ks).dep = ks.dep + 1 := rfl
        omega
      | _ => simp [gks] at h
theorem flatT_ok (t : Qt) (hw : t.wf) : (t.isN → (flatT t).isN ∧ (flatT t).wf ∧ (flatT t).st.length ≤ t.st.length ∧ (flatT t).dep ≤ t.dep) ∧ (∀ k ∈ toL t, (flatT k).isN ∧ (flatT k).wf ∧ (flatT k).st.length ≤ k.st.length ∧ (flatT k).dep ≤ k.dep) := by
  refine Qt.ind (P := fun t => (flatT t).isN ∧ (flatT t).wf ∧ (flatT t).st.length ≤ t.st.length ∧ (flatT t).dep ≤ t.dep) (fun s h1 h2 => ⟨trivial, ⟨h1, h2⟩, Nat.le_refl _, Nat.le_refl _⟩) (fun k h1 h2 ih => ?_) (fun op l h1 h2 h3 ih => ?_) t hw
  · obtain ⟨i1, i2, i3, i4⟩ := ih
    show (notT (flatT k)).isN ∧ (notT (flatT k)).wf ∧ (notT (flatT k)).st.length ≤ (k.st ++ _).length ∧ (notT (flatT k)).dep ≤ k.dep + 1
    rw [List.length_append]
    generalize flatT k = x at *
    unfold notT
    split
    · cases x with
      | not j =>
        have h5 : (Qt.not j).st.length = j.st.length + 1 := by simp [Qt.st]
        have h6 : (Qt.not j).dep = j.dep + 1 := rfl
        exact ⟨i2.1, i2.2, by show j.st.length ≤ _; omega, by show j.dep ≤ _; omega⟩
      | _ => rename_i h; cases h
    · exact ⟨trivial, ⟨i1, i2⟩, by simp [Qt.st]; omega, by show x.dep + 1 ≤ _; omega⟩
  · rw [flatT_group]
    have hl : ∀ t ∈ l.map flatT, t.isN ∧ t.wf := fun t ht => by
      obtain ⟨k, hk, rfl⟩ := List.mem_map.1 ht
      exact ⟨(ih k hk).1, (ih k hk).2.1⟩
    have hsz : szL (l.map flatT) ≤ szL l := by
      clear h2 h3 hl
      induction l with
      | nil => exact Nat.le_refl _
      | cons k r ihr =>
        have h4 := ihr (fun t ht => ih t (by simp [ht]))
        have h5 := (ih k (by simp)).2.2.1
        rw [List.map_cons, szL_cons, szL_cons]; omega
    have hdp : ∀ t ∈ l.map flatT, t.wf ∧ t.isN ∧ t.dep ≤ maxL (l.map Qt.dep) := fun t ht => by
      obtain ⟨k, hk, rfl⟩ := List.mem_map.1 ht
      refine ⟨(ih k hk).2.1, (ih k hk).1, Nat.le_trans (ih k hk).2.2.2 ?_⟩
      have h5 : ∀ (l : List Nat) (y : Nat), y ∈ l → y ≤ maxL l := by
        intro l
        induction l with
        | nil => intro y hy; simp at hy
        | cons a r ih =>
          intro y hy
          rcases List.mem_cons.1 hy with e | hy
          · rw [e]; simp only [maxL]; omega
          · have := ih y hy; simp only [maxL]; omega
      exact h5 _ _ (List.mem_map_of_mem hk)
    have g1 := gaths_wf (op := op) (l.map flatT) [] hl (by simp)
    have g2 := gaths_sz (op := op) (l.map flatT) [] hl
    have g3 := gaths_ne (op := op) (l := l.map flatT) (by intro e; have := congrArg List.length e; simp at this; rw [this] at h2; simp at h2) hl
    have g4 := gaths_dep (op := op) (m := maxL (l.map Qt.dep)) (l.map flatT) [] hdp (by simp)
    have hst : (Qt.group op (ofL l)).st.length = szL l + 1 := by show ((ofL l).st ++ _).length = _; rw [ofL_st]; simp [szL]
    have hde : (Qt.group op (ofL l)).dep = maxL (l.map Qt.dep) + 1 := by show (ofL l).dep + 1 = _; rw [ofL_dep]
    rw [hst, hde]
    have e0 : szL [] = 0 := rfl
    generalize (l.map flatT).foldl (gath op) [] = S at *
    unfold mkG
    split
    · rename_i hS
      obtain ⟨x, rfl⟩ := List.length_eq_one_iff.1 hS
      have h5 := g1 x (by simp)
      have h6 := g4 x (by simp)
      rw [szL_one] at g2
      exact ⟨h5.1, h5.2, by show x.st.length ≤ _; omega, by show x.dep ≤ _; omega⟩
    · rename_i hS
      have h5 := List.length_pos_iff.2 g3
      refine ⟨trivial, ⟨h1, by rw [ofL_len]; omega, ofL_isL _, ofL_wf g1⟩, ?_, ?_⟩
      · show ((ofL S).st ++ _).length ≤ _
        rw [ofL_st, List.length_append]
        unfold szL at g2
        simp only [List.length_singleton]
        unfold szL at *
        omega
      · show (ofL S).dep + 1 ≤ _
        rw [ofL_dep]
        have := maxL_le (l := S.map Qt.dep) (m := maxL (l.map Qt.dep)) fun y hy => by
          obtain ⟨k, hk, rfl⟩ := List.mem_map.1 hy
          exact g4 k hk
        omega
end Go.Proofs.Ytakokckokchacaa

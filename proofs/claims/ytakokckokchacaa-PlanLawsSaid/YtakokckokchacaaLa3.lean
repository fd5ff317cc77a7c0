/-
  Texts of one proof, joined: part 3. No condition.
-/
import Derived.Test.YtakokckokchacaaLa2
namespace Go.Proofs.Ytakokckokchacaa
open Go.RowKit
set_option linter.unusedVariables false
set_option maxRecDepth 20000
variable {B : Nat} {w0 : World} {F : List Ch} {A A2 : Option Addr} {n c c2 : Nat}
/-- a step: Op, N, Word, From, To -/
abbrev StepC := Int × Int × Txt × Nat × Nat
def StepC.cells (s : StepC) : List Value := [.int .i64 s.1, .int .i64 s.2.1, .string ⟨s.2.2.1.toArray⟩, .int .u64 (s.2.2.2.1 : Int), .int .u64 (s.2.2.2.2 : Int)]
def sNil : StepC := (0, 0, [], 0, 0)
def stepsV (q : List StepC) : List Value := q.flatMap StepC.cells
theorem step_one (s : StepC) : ∀ u ∈ StepC.cells s, u.oneCell' = true := by
  intro u hu
  unfold StepC.cells at hu
  simp only [List.mem_cons, List.not_mem_nil, or_false] at hu
  rcases hu with rfl | rfl | rfl | rfl | rfl <;> rfl
theorem steps_one (q : List StepC) : ∀ u ∈ stepsV q, u.oneCell' = true := fun u hu => by
  obtain ⟨x, _, hx⟩ := List.mem_flatMap.1 hu
  exact step_one x u hx
theorem steps_app (a b : List StepC) : stepsV (a ++ b) = stepsV a ++ stepsV b := by unfold stepsV; rw [List.flatMap_append]
theorem steps_cons (s : StepC) (r : List StepC) : stepsV (s :: r) = StepC.cells s ++ stepsV r := by unfold stepsV; rw [List.flatMap_cons]
theorem steps_sing (s : StepC) : stepsV [s] = StepC.cells s := by rw [steps_cons]; simp [stepsV]
theorem steps_drop : ∀ (q : List StepC) (k : Nat), (stepsV q).drop (k * 5) = stepsV (q.drop k)
  | [], k => by simp [stepsV]
  | s :: r, 0 => by simp
  | s :: r, k + 1 => by
    rw [List.drop_succ_cons, steps_cons, ← steps_drop r k, Nat.add_mul, Nat.one_mul, Nat.add_comm, List.drop_append]
    simp [StepC.cells]
theorem step_cells {q : List StepC} {k : Nat} (h : k < q.length) : ∀ j u, (StepC.cells (q.getD k sNil))[j]? = some u → (stepsV q)[k * 5 + j]? = some u := fun j u hj => by
  have e : (stepsV q)[k * 5 + j]? = (stepsV (q.drop k))[j]? := by rw [← steps_drop, List.getElem?_drop]
  rw [e, drop_getD h sNil, steps_cons, List.getElem?_append_left ((List.getElem?_eq_some_iff.1 hj).1)]
  exact hj
theorem step_eq_run (x y : StepC) (w : World) : (Op.equalIn 10000 38 (.agg (StepC.cells x).toArray) (.agg (StepC.cells y).toArray)).run Try.prog w = .ok (decide (x = y)) w := by
  have p0 := fun (z : StepC) w => run_part_sc (P := Try.prog) (t := 3) (xs := (StepC.cells z).toArray) (off := 0) (v := .int .i64 z.1) (by kernel_rfl) rfl w
  have p1 := fun (z : StepC) w => run_part_sc (P := Try.prog) (t := 3) (xs := (StepC.cells z).toArray) (off := 1) (v := .int .i64 z.2.1) (by kernel_rfl) rfl w
  have p2 := fun (z : StepC) w => run_part_sc (P := Try.prog) (t := 9) (xs := (StepC.cells z).toArray) (off := 2) (v := .string ⟨z.2.2.1.toArray⟩) (by kernel_rfl) rfl w
  have p3 := fun (z : StepC) w => run_part_sc (P := Try.prog) (t := 36) (xs := (StepC.cells z).toArray) (off := 3) (v := .int .u64 (z.2.2.2.1 : Int)) (by kernel_rfl) rfl w
  have p4 := fun (z : StepC) w => run_part_sc (P := Try.prog) (t := 36) (xs := (StepC.cells z).toArray) (off := 4) (v := .int .u64 (z.2.2.2.2 : Int)) (by kernel_rfl) rfl w
  have q0 := fun (a b : Int) w => run_equalIn_int (P := Try.prog) w 9998 3 .i64 .i64 a b Try.underlying3
  have q1 := fun (a b : Int) w => run_equalIn_int (P := Try.prog) w 9998 36 .u64 .u64 a b Try.underlying36
  have q2 := fun (a b : ByteArray) w => run_equalIn_string (P := Try.prog) w 9998 9 a b Try.underlying9
  rw [run_equalIn_agg w 9999 _ _ _ (by kernel_rfl) (by kernel_rfl)]
  simp only [Program.fieldsOf, Try.underlying38]
  simp [Op.eqFields, p0, p1, p2, p3, p4]
  rw [q0]
  obtain ⟨a, b, s, f, t⟩ := x
  obtain ⟨a', b', s', f', t'⟩ := y
  by_cases h0 : a = a'
  · have e0 : (a == a') = true := by simp [h0]
    simp only [e0, Result.andThen_ok]
    rw [q0]
    by_cases h1 : b = b'
    · have e1 : (b == b') = true := by simp [h1]
      simp only [e1, Result.andThen_ok]
      rw [q2, bytes_eq]
      by_cases h2 : s = s'
      · simp only [decide_eq_true h2, Result.andThen_ok]
        rw [q1]
        by_cases h3 : f = f'
        · have e3 : ((f : Int) == f') = true := by simp [h3]
          simp only [e3, Result.andThen_ok]
          rw [q1]
          by_cases h4 : t = t'
          · simp [h0, h1, h2, h3, h4]
          · have h' : ((t : Int) == t') = false := by rw [beq_eq_false_iff_ne]; omega
            simp [h0, h1, h2, h3, h4, h']
        · have h' : ((f : Int) == f') = false := by rw [beq_eq_false_iff_ne]; omega
          simp [h3, h']
      · simp [h2]
    · have h' : (b == b') = false := by rw [beq_eq_false_iff_ne]; exact h1
      simp [h1, h']
  · have h' : (a == a') = false := by rw [beq_eq_false_iff_ne]; exact h0
    simp [h0, h']
section
variable {C : Cx} {fr : Fr} {L : List Ch} {x y : Operand} {ty yt : TypeId} {p q : StepC}
theorem det_step_neq (hP : C.P = Try.prog) (p q : StepC) (h1 : ev fr x = some (.agg (StepC.cells p).toArray)) (h2 : ev fr y = some (.agg (StepC.cells q).toArray)) : Det C fr L (.binOp .neq 38 x y yt) ty (.bool (decide (¬ p = q))) := fun a w ha hw d pos af g => by
  have he : (eqGuard .neq 38 x y (.agg (StepC.cells p).toArray) (.agg (StepC.cells q).toArray)).run C.P w = .ok () w := by rw [hP]; exact run_eqGuard_agg w .neq _ x y _ _ (by kernel_rfl)
  have e1 : (binOp .neq 38 (.agg (StepC.cells p).toArray) (.agg (StepC.cells q).toArray)).run C.P w = .ok (.bool (decide (¬ p = q))) w := by
    rw [hP, run_neq_struct, step_eq_run]
    simp
  simp only [execOp, ha.tmp h1, ha.tmp h2, Sem.run_bind, he, e1, Result.andThen_ok, Sem.run_pure]
theorem det_step_eql (hP : C.P = Try.prog) (p q : StepC) (h1 : ev fr x = some (.agg (StepC.cells p).toArray)) (h2 : ev fr y = some (.agg (StepC.cells q).toArray)) : Det C fr L (.binOp .eql 38 x y yt) ty (.bool (decide (p = q))) := fun a w ha hw d pos af g => by
  have he : (eqGuard .eql 38 x y (.agg (StepC.cells p).toArray) (.agg (StepC.cells q).toArray)).run C.P w = .ok () w := by rw [hP]; exact run_eqGuard_agg w .eql _ x y _ _ (by kernel_rfl)
  have e1 : (binOp .eql 38 (.agg (StepC.cells p).toArray) (.agg (StepC.cells q).toArray)).run C.P w = .ok (.bool (decide (p = q))) w := by
    rw [hP, run_eql_struct, step_eq_run]
    simp
  simp only [execOp, ha.tmp h1, ha.tmp h2, Sem.run_bind, he, e1, Result.andThen_ok, Sem.run_pure]
end
/-- may a step be, by itself? -/
def rightS (s : StepC) : Prop :=
  ((s.1 = 1 ∨ s.1 = 2) ∧ s.2.1 = 0 ∧ s.2.2.2.1 = 0 ∧ s.2.2.2.2 = 0 ∧ termL s.2.2.1 = true) ∨ ((s.1 = 3 ∨ s.1 = 4) ∧ s.2.1 = 0 ∧ s.2.2.1 = []) ∨
  (s.1 = 5 ∧ s.2.1 = 0 ∧ s.2.2.1 = [] ∧ s.2.2.2.1 = 0 ∧ s.2.2.2.2 = 0) ∨ ((s.1 = 6 ∨ s.1 = 7) ∧ 2 ≤ s.2.1 ∧ s.2.2.1 = [] ∧ s.2.2.2.1 = 0 ∧ s.2.2.2.2 = 0)
instance (s : StepC) : Decidable (rightS s) := inferInstanceAs (Decidable (_ ∨ _ ∨ _ ∨ _))
/-- how many queries a right step takes -/
def takesS (s : StepC) : Int := if s.1 = 5 then 1 else if s.1 = 6 ∨ s.1 = 7 then s.2.1 else 0
theorem takesS_ge {s : StepC} (h : rightS s) : 0 ≤ takesS s := by
  unfold takesS rightS at *
  split
  · omega
  · split
    · rcases h with h | h | h | h <;> omega
    · omega
theorem takes_d (s : StepC) : Does Try.prog B w0 40 [.agg (StepC.cells s).toArray] F (fun r L => r = .int .i64 (takesS s) ∧ L = F) := by
  obtain ⟨op, nn, wd, fr, to⟩ := s
  have hT : takesS (op, nn, wd, fr, to) = if op = 5 then 1 else if op = 6 ∨ op = 7 then nn else 0 := rfl
  rw [hT]
  refine fn_walk Try.func40 12 rfl rfl rfl [(0, .agg #[.int .i64 op, .int .i64 nn, .string ⟨wd.toArray⟩, .int .u64 (fr : Int), .int .u64 (to : Int)])] ⟨⟨rfl, rfl⟩, trivial⟩ ?_
  refine vc_seq ?_
  refine vc_region ?_
  refine vl_eff (eff_box rfl rfl) rfl ?_
  rintro _ _ ⟨g1, rfl, rfl⟩
  refine vl_det (det_assign rfl) rfl ?_
  refine vl_end [(1, _)] ⟨rfl, trivial⟩ ?_
  refine then_next ?_
  refine vc_seq ?_
  refine vc_seq ?_
  refine vc_region ?_
  refine vl_det (det_fieldAddr_ Try.underlying38 rfl (by kernel_rfl) rfl rfl) rfl ?_
  refine vl_det (det_load_blk (by kernel_rfl) rfl (by repeat (first | exact .hd | apply Sel.tl)) rfl) rfl ?_
  refine vl_end [(1, _), (4, _)] ⟨rfl, rfl, trivial⟩ ?_
  refine then_next ?_
  refine vc_block ?_
  refine vc_seq ?_
  refine vc_region ?_
  refine vl_det (det_eql rfl rfl) rfl ?_
  refine vl_det (det_assign rfl) rfl ?_
  refine vl_end [(1, _), (4, _), (5, _)] ⟨rfl, rfl, rfl, trivial⟩ ?_
  refine then_next ?_
  refine vc_decideU rfl (fun h5 => ?_) (fun h5 => ?_)
  · skip
    refine vc_seq ?_
    refine vc_region ?_
    refine vl_det (det_assign rfl) rfl ?_
    refine vl_end [(2, _)] ⟨rfl, trivial⟩ ?_
    refine then_next ?_
    refine vc_ret ?_
    refine in_ret ?_
    refine then_ret ?_
    refine ret_wk (L' := F) (.skip (.refl _)) ?_
    refine ret1 rfl rfl ?_
    exact ⟨by rw [if_pos h5], rfl⟩
  · skip
    refine vc_seq ?_
    refine vc_seq ?_
    refine vc_region ?_
    refine vl_det (det_eql rfl rfl) rfl ?_
    refine vl_det (det_assign rfl) rfl ?_
    refine vl_end [(1, _), (4, _), (7, _)] ⟨rfl, rfl, rfl, trivial⟩ ?_
    refine then_next ?_
    refine vc_decideU rfl (fun h7 => ?_) (fun h7 => ?_)
    · skip
      refine vc_skip ?_
      refine then_next ?_
      refine vc_cond_t rfl ?_
      refine vc_seq ?_
      refine vc_region ?_
      refine vl_det (det_fieldAddr_ Try.underlying38 rfl (by kernel_rfl) rfl rfl) rfl ?_
      refine vl_det (det_load_blk (by kernel_rfl) rfl (by repeat (first | exact .hd | apply Sel.tl)) rfl) rfl ?_
      refine vl_det (det_assign rfl) rfl ?_
      refine vl_end [(2, _)] ⟨rfl, trivial⟩ ?_
      refine then_next ?_
      refine vc_ret ?_
      refine in_ret ?_
      refine then_ret ?_
      refine ret_wk (L' := F) (.skip (.refl _)) ?_
      refine ret1 rfl rfl ?_
      exact ⟨by rw [if_neg h5, if_pos (.inl h7)], rfl⟩
    · skip
      refine vc_region ?_
      refine vl_det (det_eql rfl rfl) rfl ?_
      refine vl_det (det_assign rfl) rfl ?_
      refine vl_end [(1, _), (7, _)] ⟨rfl, rfl, trivial⟩ ?_
      refine then_next ?_
      refine vc_decideU rfl (fun h7 => ?_) (fun h7 => ?_)
      · skip
        refine vc_seq ?_
        refine vc_region ?_
        refine vl_det (det_fieldAddr_ Try.underlying38 rfl (by kernel_rfl) rfl rfl) rfl ?_
        refine vl_det (det_load_blk (by kernel_rfl) rfl (by repeat (first | exact .hd | apply Sel.tl)) rfl) rfl ?_
        refine vl_det (det_assign rfl) rfl ?_
        refine vl_end [(2, _)] ⟨rfl, trivial⟩ ?_
        refine then_next ?_
        refine vc_ret ?_
        refine in_ret ?_
        refine then_ret ?_
        refine ret_wk (L' := F) (.skip (.refl _)) ?_
        refine ret1 rfl rfl ?_
        exact ⟨by rw [if_neg h5, if_pos (by first | exact .inl (by assumption) | exact .inr (by assumption))], rfl⟩
      · skip
        refine vc_skip ?_
        refine in_normal ?_
        refine then_next ?_
        refine vc_seq ?_
        refine vc_region ?_
        refine vl_det (det_assign rfl) rfl ?_
        refine vl_end [(2, _)] ⟨rfl, trivial⟩ ?_
        refine then_next ?_
        refine vc_ret ?_
        refine ret_wk (L' := F) (.skip (.refl _)) ?_
        refine ret1 rfl rfl ?_
        exact ⟨by rw [if_neg h5, if_neg (by rintro (h | h) <;> contradiction)], rfl⟩
theorem rtakes_d (s : StepC) (h : rightS s) : Does Try.prog B w0 32 [.agg (StepC.cells s).toArray] F (fun r L => r = .int .i64 (takesS s) ∧ L = F) := by
  obtain ⟨op, nn, wd, fr, to⟩ := s
  have hT : takesS (op, nn, wd, fr, to) = if op = 5 then 1 else nn := by
    unfold takesS
    simp only
    split
    · rfl
    · split
      · rfl
      · unfold rightS at h; simp only at h; rcases h with h | h | h | h <;> omega
  rw [hT]
  refine fn_walk Try.func32 8 rfl rfl rfl [(0, .agg #[.int .i64 op, .int .i64 nn, .string ⟨wd.toArray⟩, .int .u64 (fr : Int), .int .u64 (to : Int)])] ⟨⟨rfl, rfl⟩, trivial⟩ ?_
  refine vc_seq ?_
  refine vc_region ?_
  refine vl_eff (eff_box rfl rfl) rfl ?_
  rintro _ _ ⟨g1, rfl, rfl⟩
  refine vl_det (det_assign rfl) rfl ?_
  refine vl_end [(1, _)] ⟨rfl, trivial⟩ ?_
  refine then_next ?_
  refine vc_seq ?_
  refine vc_seq ?_
  refine vc_region ?_
  refine vl_det (det_fieldAddr_ Try.underlying38 rfl (by kernel_rfl) rfl rfl) rfl ?_
  refine vl_det (det_load_blk (by kernel_rfl) rfl (by repeat (first | exact .hd | apply Sel.tl)) rfl) rfl ?_
  refine vl_det (det_eql rfl rfl) rfl ?_
  refine vl_end [(1, _), (5, _)] ⟨rfl, rfl, trivial⟩ ?_
  refine then_next ?_
  refine vc_decideU rfl (fun h5 => ?_) (fun h5 => ?_)
  · skip
    refine vc_seq ?_
    refine vc_region ?_
    refine vl_det (det_assign rfl) rfl ?_
    refine vl_end [(2, _)] ⟨rfl, trivial⟩ ?_
    refine then_next ?_
    refine vc_ret ?_
    refine then_ret ?_
    refine ret_wk (L' := F) (.skip (.refl _)) ?_
    refine ret1 rfl rfl ?_
    exact ⟨by rw [if_pos h5], rfl⟩
  · skip
    refine vc_skip ?_
    refine then_next ?_
    refine vc_seq ?_
    refine vc_region ?_
    refine vl_det (det_fieldAddr_ Try.underlying38 rfl (by kernel_rfl) rfl rfl) rfl ?_
    refine vl_det (det_load_blk (by kernel_rfl) rfl (by repeat (first | exact .hd | apply Sel.tl)) rfl) rfl ?_
    refine vl_det (det_assign rfl) rfl ?_
    refine vl_end [(2, _)] ⟨rfl, trivial⟩ ?_
    refine then_next ?_
    refine vc_ret ?_
    refine ret_wk (L' := F) (.skip (.refl _)) ?_
    refine ret1 rfl rfl ?_
    exact ⟨by rw [if_neg h5], rfl⟩
end Go.Proofs.Ytakokckokchacaa
namespace Go.Proofs.Ytakokckokchacaa
open Go.RowKit
set_option linter.unusedVariables false
def natv (l : List Nat) : List Value := l.map fun (n : Nat) => Value.int .i64 (n : Int)
@[simp] theorem natv_append (l k : List Nat) : natv (l ++ k) = natv l ++ natv k := by simp [natv]
@[simp] theorem natv_length (l : List Nat) : (natv l).length = l.length := by simp [natv]
theorem natv_get {l : List Nat} {k : Nat} (h : k < l.length) : (natv l)[k * 1]? = some (.int .i64 (l.getD k 0 : Nat)) := by
  simp [natv, List.getD, List.getElem?_eq_getElem h]
end Go.Proofs.Ytakokckokchacaa
namespace Go.Proofs.Ytakokckokchacaa
open Go.RowKit
set_option linter.unusedVariables false
set_option maxRecDepth 20000
variable {B : Nat} {w0 : World} {F : List Ch} {A A2 : Option Addr} {n c c2 : Nat}
section
variable {op nn : Int} {wd : Txt} {fr to : Nat}
theorem right_w (h : op = 1 ∨ op = 2) : rightS (op, nn, wd, fr, to) ↔ ((op, nn, wd, fr, to) : StepC) = (op, 0, wd, 0, 0) ∧ termL wd = true := by
  unfold rightS
  simp only [Prod.mk.injEq, true_and]
  constructor
  · rintro (h1 | h1 | h1 | h1)
    · exact ⟨⟨h1.2.1, h1.2.2.1, h1.2.2.2.1⟩, h1.2.2.2.2⟩
    · omega
    · omega
    · omega
  · rintro ⟨⟨h1, h2, h3⟩, h4⟩
    exact .inl ⟨h, h1, h2, h3, h4⟩
theorem right_t (h : op = 3 ∨ op = 4) : rightS (op, nn, wd, fr, to) ↔ ((op, nn, wd, fr, to) : StepC) = (op, 0, [], fr, to) := by
  unfold rightS
  simp only [Prod.mk.injEq, true_and, and_true]
  constructor
  · rintro (h1 | h1 | h1 | h1)
    · omega
    · exact ⟨h1.2.1, h1.2.2⟩
    · omega
    · omega
  · rintro ⟨h1, h2⟩
    exact .inr (.inl ⟨h, h1, h2⟩)
theorem right_n (h : op = 5) : rightS (op, nn, wd, fr, to) ↔ ((op, nn, wd, fr, to) : StepC) = (op, 0, [], 0, 0) := by
  unfold rightS
  simp only [Prod.mk.injEq, true_and]
  constructor
  · rintro (h1 | h1 | h1 | h1)
    · omega
    · omega
    · exact h1.2
    · omega
  · rintro h1
    exact .inr (.inr (.inl ⟨h, h1⟩))
theorem right_g (h : op = 6 ∨ op = 7) : rightS (op, nn, wd, fr, to) ↔ ((op, nn, wd, fr, to) : StepC) = (op, nn, [], 0, 0) ∧ 2 ≤ nn := by
  unfold rightS
  simp only [Prod.mk.injEq, true_and]
  constructor
  · rintro (h1 | h1 | h1 | h1)
    · omega
    · omega
    · omega
    · exact ⟨h1.2.2, h1.2.1⟩
  · rintro ⟨h1, h2⟩
    exact .inr (.inr (.inr ⟨h, h2, h1⟩))
theorem right_o (h1 : ¬ op = 1) (h2 : ¬ op = 2) (h3 : ¬ op = 3) (h4 : ¬ op = 4) (h5 : ¬ op = 5) (h6 : ¬ op = 6) (h7 : ¬ op = 7) : ¬ rightS (op, nn, wd, fr, to) := by
  unfold rightS
  simp only
  omega
end
theorem right_d (s : StepC) : Does Try.prog B w0 41 [.agg (StepC.cells s).toArray] F (fun r L => r = .bool (decide (rightS s)) ∧ L = F) := by
  obtain ⟨op, nn, wd, fr, to⟩ := s
  refine fn_walk Try.func41 51 rfl rfl rfl [(0, .agg #[.int .i64 op, .int .i64 nn, .string ⟨wd.toArray⟩, .int .u64 (fr : Int), .int .u64 (to : Int)])] ⟨⟨rfl, rfl⟩, trivial⟩ ?_
  refine vc_seq ?_
  refine vc_region ?_
  refine vl_eff (eff_box rfl rfl) rfl ?_
  rintro _ _ ⟨g1, rfl, rfl⟩
  refine vl_det (det_assign rfl) rfl ?_
  refine vl_end [(1, _)] ⟨rfl, trivial⟩ ?_
  refine then_next ?_
  refine vc_seq ?_
  refine vc_region ?_
  refine vl_det (det_fieldAddr_ Try.underlying38 rfl (by kernel_rfl) rfl rfl) rfl ?_
  refine vl_det (det_load_blk (by kernel_rfl) rfl (by repeat (first | exact .hd | apply Sel.tl)) rfl) rfl ?_
  refine vl_det (det_buildp [(0, _)] [.int .i64 0, .int .i64 0, .string ⟨#[]⟩, .int .u64 0, .int .u64 0] [0] [_, _, _, _, _] rfl rfl (by kernel_rfl)) rfl ?_
  refine vl_eff (eff_alloc_z (zv := (.agg #[.int .i64 0, .int .i64 0, .string ⟨#[]⟩, .int .u64 0, .int .u64 0])) (by kernel_rfl) rfl) rfl ?_
  rintro _ _ ⟨g3, rfl, rfl⟩
  refine vl_eff0 (eff_store_whole 5 (by kernel_rfl) rfl rfl (by first | exact bv_one _ | exact strs_one _ | exact ints_one _ _ | (simp; done) | (simp [Value.oneCell']; done) | assumption) (by repeat (first | exact .hd | apply Sel.tl)) (by first | rfl | (simp; omega) | (simp [*]; done)) (by first | rfl | (simp; omega) | (simp [*]; done))) ?_
  rintro _ _ rfl
  refine vl_end [(1, _), (3, _)] ⟨rfl, rfl, trivial⟩ ?_
  refine then_next ?_
  refine vc_seq ?_
  refine vc_seq ?_
  refine vc_region ?_
  refine vl_det (det_fieldAddr_ Try.underlying38 rfl (by kernel_rfl) rfl rfl) rfl ?_
  refine vl_det (det_load_blk (by kernel_rfl) rfl (by repeat (first | exact .hd | apply Sel.tl)) rfl) rfl ?_
  refine vl_end [(1, _), (3, _), (8, _)] ⟨rfl, rfl, rfl, trivial⟩ ?_
  refine then_next ?_
  refine vc_block ?_
  refine vc_seq ?_
  refine vc_seq ?_
  refine vc_region ?_
  refine vl_det (det_eql rfl rfl) rfl ?_
  refine vl_det (det_assign rfl) rfl ?_
  refine vl_end [(1, _), (3, _), (8, _), (9, _)] ⟨rfl, rfl, rfl, rfl, trivial⟩ ?_
  refine then_next ?_
  refine vc_decideU rfl (fun h9 => ?_) (fun h9 => ?_)
  · skip
    have hw := @right_w op nn wd fr to (by omega)
    refine vc_skip ?_
    refine then_next ?_
    refine vc_cond_t rfl ?_
    refine vc_seq ?_
    refine vc_region ?_
    refine vl_det (det_fieldAddr_ Try.underlying38 rfl (by kernel_rfl) rfl rfl) rfl ?_
    refine vl_det (det_load_blk (by kernel_rfl) rfl (by repeat (first | exact .hd | apply Sel.tl)) rfl) rfl ?_
    refine vl_det (det_fieldAddr_ Try.underlying38 rfl (by kernel_rfl) rfl rfl) rfl ?_
    refine vl_eff0 (eff_store (by kernel_rfl) rfl rfl rfl (by repeat (first | exact .hd | apply Sel.tl)) (by simp)) ?_
    rintro _ _ rfl
    refine vl_end [(1, _), (3, _)] ⟨rfl, rfl, trivial⟩ ?_
    refine then_next ?_
    refine vc_seq ?_
    refine vc_region ?_
    refine vl_cut 8 22 [] (rightS (op, nn, wd, fr, to)) trivial ?_ ?_
    · skip
      refine vl_det (det_load_whole 5 (by kernel_rfl) rfl (by repeat (first | exact .hd | apply Sel.tl)) (by first | rfl | (simp; omega) | (simp [*]; done))) rfl ?_
      refine vl_det (det_load_whole 5 (by kernel_rfl) rfl (by repeat (first | exact .hd | apply Sel.tl)) (by first | rfl | (simp; omega) | (simp [*]; done))) rfl ?_
      refine vl_det (det_step_eql rfl (op, nn, wd, fr, to) (op, 0, wd, 0, 0) rfl rfl) rfl ?_
      refine vl_det (det_move rfl) rfl ?_
      refine vl_guardp rfl rfl rfl (fun h18 => ?_) (fun h18 => ?_)
      · skip
        refine vl_det (det_fieldAddr_ Try.underlying38 rfl (by kernel_rfl) rfl rfl) rfl ?_
        refine vl_guard_t rfl rfl ?_
        refine vl_det (det_load_blk (by kernel_rfl) rfl (by repeat (first | exact .hd | apply Sel.tl)) rfl) rfl ?_
        refine vl_guard_t rfl rfl ?_
        refine vl_call co54 rfl (term_d wd) rfl ?_
        rintro _ _ ⟨rfl, hLL⟩
        obtain rfl := hLL.symm
        refine vl_det (det_pick_t rfl rfl) rfl ?_
        exact vl_cut_end trivial (by first | rfl | exact bool_to_t (by first | exact fun h => absurd (hw.1 h).1 (by assumption) | exact ⟨fun h => hw.2 ⟨by assumption, h⟩, fun h => (hw.1 h).2⟩) | exact bool_to_f (by first | exact fun h => absurd (hw.1 h).1 (by assumption) | exact ⟨fun h => hw.2 ⟨by assumption, h⟩, fun h => (hw.1 h).2⟩) | exact bool_to (by first | exact fun h => absurd (hw.1 h).1 (by assumption) | exact ⟨fun h => hw.2 ⟨by assumption, h⟩, fun h => (hw.1 h).2⟩) | exact bool_to_b (by first | exact fun h => absurd (hw.1 h).1 (by assumption) | exact ⟨fun h => hw.2 ⟨by assumption, h⟩, fun h => (hw.1 h).2⟩))
      · skip
        refine vl_guard_f rfl rfl rfl rfl ?_
        refine vl_guard_f rfl rfl rfl rfl ?_
        refine vl_det (det_pick_f rfl rfl) rfl ?_
        exact vl_cut_end trivial (by first | rfl | exact bool_to_t (by first | exact fun h => absurd (hw.1 h).1 (by assumption) | exact ⟨fun h => hw.2 ⟨by assumption, h⟩, fun h => (hw.1 h).2⟩) | exact bool_to_f (by first | exact fun h => absurd (hw.1 h).1 (by assumption) | exact ⟨fun h => hw.2 ⟨by assumption, h⟩, fun h => (hw.1 h).2⟩) | exact bool_to (by first | exact fun h => absurd (hw.1 h).1 (by assumption) | exact ⟨fun h => hw.2 ⟨by assumption, h⟩, fun h => (hw.1 h).2⟩) | exact bool_to_b (by first | exact fun h => absurd (hw.1 h).1 (by assumption) | exact ⟨fun h => hw.2 ⟨by assumption, h⟩, fun h => (hw.1 h).2⟩))
    · skip
      refine vl_det (det_assign rfl) rfl ?_
      refine vl_end [(2, _)] ⟨rfl, trivial⟩ ?_
      refine then_next ?_
      refine vc_ret ?_
      refine in_ret ?_
      refine then_ret ?_
      refine ret_wk (L' := F) (.skip (.skip (.refl _))) ?_
      refine ret1 rfl rfl ?_
      first | exact ⟨rfl, rfl⟩ | exact ⟨by rw [decide_eq_decide.2 (right_t (by omega))], rfl⟩ | exact ⟨by rw [decide_eq_decide.2 (right_n (by omega))], rfl⟩ | exact ⟨by rw [decide_eq_false (right_o (by omega) (by omega) (by omega) (by omega) (by omega) (by omega) (by omega))], rfl⟩
  · skip
    refine vc_region ?_
    refine vl_det (det_eql rfl rfl) rfl ?_
    refine vl_det (det_assign rfl) rfl ?_
    refine vl_end [(1, _), (3, _), (8, _), (9, _)] ⟨rfl, rfl, rfl, rfl, trivial⟩ ?_
    refine then_next ?_
    refine vc_decideU rfl (fun h9 => ?_) (fun h9 => ?_)
    · skip
      have hw := @right_w op nn wd fr to (by omega)
      refine vc_seq ?_
      refine vc_region ?_
      refine vl_det (det_fieldAddr_ Try.underlying38 rfl (by kernel_rfl) rfl rfl) rfl ?_
      refine vl_det (det_load_blk (by kernel_rfl) rfl (by repeat (first | exact .hd | apply Sel.tl)) rfl) rfl ?_
      refine vl_det (det_fieldAddr_ Try.underlying38 rfl (by kernel_rfl) rfl rfl) rfl ?_
      refine vl_eff0 (eff_store (by kernel_rfl) rfl rfl rfl (by repeat (first | exact .hd | apply Sel.tl)) (by simp)) ?_
      rintro _ _ rfl
      refine vl_end [(1, _), (3, _)] ⟨rfl, rfl, trivial⟩ ?_
      refine then_next ?_
      refine vc_seq ?_
      refine vc_region ?_
      refine vl_cut 8 22 [] (rightS (op, nn, wd, fr, to)) trivial ?_ ?_
      · skip
        refine vl_det (det_load_whole 5 (by kernel_rfl) rfl (by repeat (first | exact .hd | apply Sel.tl)) (by first | rfl | (simp; omega) | (simp [*]; done))) rfl ?_
        refine vl_det (det_load_whole 5 (by kernel_rfl) rfl (by repeat (first | exact .hd | apply Sel.tl)) (by first | rfl | (simp; omega) | (simp [*]; done))) rfl ?_
        refine vl_det (det_step_eql rfl (op, nn, wd, fr, to) (op, 0, wd, 0, 0) rfl rfl) rfl ?_
        refine vl_det (det_move rfl) rfl ?_
        refine vl_guardp rfl rfl rfl (fun h18 => ?_) (fun h18 => ?_)
        · skip
          refine vl_det (det_fieldAddr_ Try.underlying38 rfl (by kernel_rfl) rfl rfl) rfl ?_
          refine vl_guard_t rfl rfl ?_
          refine vl_det (det_load_blk (by kernel_rfl) rfl (by repeat (first | exact .hd | apply Sel.tl)) rfl) rfl ?_
          refine vl_guard_t rfl rfl ?_
          refine vl_call co54 rfl (term_d wd) rfl ?_
          rintro _ _ ⟨rfl, hLL⟩
          obtain rfl := hLL.symm
          refine vl_det (det_pick_t rfl rfl) rfl ?_
          exact vl_cut_end trivial (by first | rfl | exact bool_to_t (by first | exact fun h => absurd (hw.1 h).1 (by assumption) | exact ⟨fun h => hw.2 ⟨by assumption, h⟩, fun h => (hw.1 h).2⟩) | exact bool_to_f (by first | exact fun h => absurd (hw.1 h).1 (by assumption) | exact ⟨fun h => hw.2 ⟨by assumption, h⟩, fun h => (hw.1 h).2⟩) | exact bool_to (by first | exact fun h => absurd (hw.1 h).1 (by assumption) | exact ⟨fun h => hw.2 ⟨by assumption, h⟩, fun h => (hw.1 h).2⟩) | exact bool_to_b (by first | exact fun h => absurd (hw.1 h).1 (by assumption) | exact ⟨fun h => hw.2 ⟨by assumption, h⟩, fun h => (hw.1 h).2⟩))
        · skip
          refine vl_guard_f rfl rfl rfl rfl ?_
          refine vl_guard_f rfl rfl rfl rfl ?_
          refine vl_det (det_pick_f rfl rfl) rfl ?_
          exact vl_cut_end trivial (by first | rfl | exact bool_to_t (by first | exact fun h => absurd (hw.1 h).1 (by assumption) | exact ⟨fun h => hw.2 ⟨by assumption, h⟩, fun h => (hw.1 h).2⟩) | exact bool_to_f (by first | exact fun h => absurd (hw.1 h).1 (by assumption) | exact ⟨fun h => hw.2 ⟨by assumption, h⟩, fun h => (hw.1 h).2⟩) | exact bool_to (by first | exact fun h => absurd (hw.1 h).1 (by assumption) | exact ⟨fun h => hw.2 ⟨by assumption, h⟩, fun h => (hw.1 h).2⟩) | exact bool_to_b (by first | exact fun h => absurd (hw.1 h).1 (by assumption) | exact ⟨fun h => hw.2 ⟨by assumption, h⟩, fun h => (hw.1 h).2⟩))
      · skip
        refine vl_det (det_assign rfl) rfl ?_
        refine vl_end [(2, _)] ⟨rfl, trivial⟩ ?_
        refine then_next ?_
        refine vc_ret ?_
        refine in_ret ?_
        refine then_ret ?_
        refine ret_wk (L' := F) (.skip (.skip (.refl _))) ?_
        refine ret1 rfl rfl ?_
        first | exact ⟨rfl, rfl⟩ | exact ⟨by rw [decide_eq_decide.2 (right_t (by omega))], rfl⟩ | exact ⟨by rw [decide_eq_decide.2 (right_n (by omega))], rfl⟩ | exact ⟨by rw [decide_eq_false (right_o (by omega) (by omega) (by omega) (by omega) (by omega) (by omega) (by omega))], rfl⟩
    · skip
      refine vc_seq ?_
      refine vc_seq ?_
      refine vc_region ?_
      refine vl_det (det_eql rfl rfl) rfl ?_
      refine vl_det (det_assign rfl) rfl ?_
      refine vl_end [(1, _), (3, _), (8, _), (23, _)] ⟨rfl, rfl, rfl, rfl, trivial⟩ ?_
      refine then_next ?_
      refine vc_decideU rfl (fun h23 => ?_) (fun h23 => ?_)
      · skip
        refine vc_skip ?_
        refine then_next ?_
        refine vc_cond_t rfl ?_
        refine vh_region (S := .blk g1 38 [.int .i64 op, .int .i64 nn, .string ⟨wd.toArray⟩, .int .u64 (fr : Int), .int .u64 (to : Int)] :: F) (by kernel_rfl) (by repeat (first | exact List.Sublist.refl _ | exact List.nil_sublist _ | exact List.sublist_append_right _ _ | apply List.Sublist.cons_cons | apply List.Sublist.cons)) ?_
        refine vh_take 0 rfl (by kernel_rfl) (by kernel_rfl) (by kernel_rfl) (det_fieldAddr_ Try.underlying38 rfl (by kernel_rfl) rfl rfl) rfl ?_
        refine vh_take 1 rfl (by kernel_rfl) (by kernel_rfl) (by kernel_rfl) (det_load_blk (by kernel_rfl) rfl (by repeat (first | exact .hd | apply Sel.tl)) rfl) rfl ?_
        refine vh_take 2 rfl (by kernel_rfl) (by kernel_rfl) (by kernel_rfl) (det_fieldAddr_ Try.underlying38 rfl (by kernel_rfl) rfl rfl) rfl ?_
        refine vh_take 3 rfl (by kernel_rfl) (by kernel_rfl) (by kernel_rfl) (det_load_blk (by kernel_rfl) rfl (by repeat (first | exact .hd | apply Sel.tl)) rfl) rfl ?_
        refine vh_take 4 rfl (by kernel_rfl) (by kernel_rfl) (by kernel_rfl) (det_fieldAddr_ Try.underlying38 rfl (by kernel_rfl) rfl rfl) rfl ?_
        refine vh_one 5 (by kernel_rfl) ?_
        refine st_eff0 rfl .no (eff_store (by kernel_rfl) rfl rfl rfl (by repeat (first | exact .hd | apply Sel.tl)) (by simp)) (by rintro _ _ rfl; exact (by repeat (first | exact List.Sublist.refl _ | exact List.nil_sublist _ | exact List.sublist_append_right _ _ | apply List.Sublist.cons_cons | apply List.Sublist.cons))) ?_
        rintro _ _ rfl
        refine vh_take 6 rfl (by kernel_rfl) (by kernel_rfl) (by kernel_rfl) (det_fieldAddr_ Try.underlying38 rfl (by kernel_rfl) rfl rfl) rfl ?_
        refine vh_one 7 (by kernel_rfl) ?_
        refine st_eff0 rfl .no (eff_store (by kernel_rfl) rfl rfl rfl (by repeat (first | exact .hd | apply Sel.tl)) (by simp)) (by rintro _ _ rfl; exact (by repeat (first | exact List.Sublist.refl _ | exact List.nil_sublist _ | exact List.sublist_append_right _ _ | apply List.Sublist.cons_cons | apply List.Sublist.cons))) ?_
        rintro _ _ rfl
        refine vh_done [(1, _), (3, _)] ⟨rfl, rfl, trivial⟩ (by kernel_rfl) ?_
        refine in_normal ?_
        refine then_next ?_
        refine vc_seq ?_
        refine vc_region ?_
        refine vl_det (det_load_whole 5 (by kernel_rfl) rfl (by repeat (first | exact .hd | apply Sel.tl)) (by first | rfl | (simp; omega) | (simp [*]; done))) rfl ?_
        refine vl_det (det_load_whole 5 (by kernel_rfl) rfl (by repeat (first | exact .hd | apply Sel.tl)) (by first | rfl | (simp; omega) | (simp [*]; done))) rfl ?_
        refine vl_det (det_step_eql rfl (op, nn, wd, fr, to) (op, 0, [], fr, to) rfl rfl) rfl ?_
        refine vl_det (det_assign rfl) rfl ?_
        refine vl_end [(2, _)] ⟨rfl, trivial⟩ ?_
        refine then_next ?_
        refine vc_ret ?_
        refine ret_wk (L' := F) (.skip (.skip (.refl _))) ?_
        refine ret1 rfl rfl ?_
        first | exact ⟨rfl, rfl⟩ | exact ⟨by rw [decide_eq_decide.2 (right_t (by omega))], rfl⟩ | exact ⟨by rw [decide_eq_decide.2 (right_n (by omega))], rfl⟩ | exact ⟨by rw [decide_eq_false (right_o (by omega) (by omega) (by omega) (by omega) (by omega) (by omega) (by omega))], rfl⟩
      · skip
        refine vc_region ?_
        refine vl_det (det_eql rfl rfl) rfl ?_
        refine vl_det (det_assign rfl) rfl ?_
        refine vl_end [(1, _), (3, _), (8, _), (23, _)] ⟨rfl, rfl, rfl, rfl, trivial⟩ ?_
        refine then_next ?_
        refine vc_decideU rfl (fun h23 => ?_) (fun h23 => ?_)
        · skip
          refine vh_region (S := .blk g1 38 [.int .i64 op, .int .i64 nn, .string ⟨wd.toArray⟩, .int .u64 (fr : Int), .int .u64 (to : Int)] :: F) (by kernel_rfl) (by repeat (first | exact List.Sublist.refl _ | exact List.nil_sublist _ | exact List.sublist_append_right _ _ | apply List.Sublist.cons_cons | apply List.Sublist.cons)) ?_
          refine vh_take 0 rfl (by kernel_rfl) (by kernel_rfl) (by kernel_rfl) (det_fieldAddr_ Try.underlying38 rfl (by kernel_rfl) rfl rfl) rfl ?_
          refine vh_take 1 rfl (by kernel_rfl) (by kernel_rfl) (by kernel_rfl) (det_load_blk (by kernel_rfl) rfl (by repeat (first | exact .hd | apply Sel.tl)) rfl) rfl ?_
          refine vh_take 2 rfl (by kernel_rfl) (by kernel_rfl) (by kernel_rfl) (det_fieldAddr_ Try.underlying38 rfl (by kernel_rfl) rfl rfl) rfl ?_
          refine vh_take 3 rfl (by kernel_rfl) (by kernel_rfl) (by kernel_rfl) (det_load_blk (by kernel_rfl) rfl (by repeat (first | exact .hd | apply Sel.tl)) rfl) rfl ?_
          refine vh_take 4 rfl (by kernel_rfl) (by kernel_rfl) (by kernel_rfl) (det_fieldAddr_ Try.underlying38 rfl (by kernel_rfl) rfl rfl) rfl ?_
          refine vh_one 5 (by kernel_rfl) ?_
          refine st_eff0 rfl .no (eff_store (by kernel_rfl) rfl rfl rfl (by repeat (first | exact .hd | apply Sel.tl)) (by simp)) (by rintro _ _ rfl; exact (by repeat (first | exact List.Sublist.refl _ | exact List.nil_sublist _ | exact List.sublist_append_right _ _ | apply List.Sublist.cons_cons | apply List.Sublist.cons))) ?_
          rintro _ _ rfl
          refine vh_take 6 rfl (by kernel_rfl) (by kernel_rfl) (by kernel_rfl) (det_fieldAddr_ Try.underlying38 rfl (by kernel_rfl) rfl rfl) rfl ?_
          refine vh_one 7 (by kernel_rfl) ?_
          refine st_eff0 rfl .no (eff_store (by kernel_rfl) rfl rfl rfl (by repeat (first | exact .hd | apply Sel.tl)) (by simp)) (by rintro _ _ rfl; exact (by repeat (first | exact List.Sublist.refl _ | exact List.nil_sublist _ | exact List.sublist_append_right _ _ | apply List.Sublist.cons_cons | apply List.Sublist.cons))) ?_
          rintro _ _ rfl
          refine vh_done [(1, _), (3, _)] ⟨rfl, rfl, trivial⟩ (by kernel_rfl) ?_
          refine in_normal ?_
          refine then_next ?_
          refine vc_seq ?_
          refine vc_region ?_
          refine vl_det (det_load_whole 5 (by kernel_rfl) rfl (by repeat (first | exact .hd | apply Sel.tl)) (by first | rfl | (simp; omega) | (simp [*]; done))) rfl ?_
          refine vl_det (det_load_whole 5 (by kernel_rfl) rfl (by repeat (first | exact .hd | apply Sel.tl)) (by first | rfl | (simp; omega) | (simp [*]; done))) rfl ?_
          refine vl_det (det_step_eql rfl (op, nn, wd, fr, to) (op, 0, [], fr, to) rfl rfl) rfl ?_
          refine vl_det (det_assign rfl) rfl ?_
          refine vl_end [(2, _)] ⟨rfl, trivial⟩ ?_
          refine then_next ?_
          refine vc_ret ?_
          refine ret_wk (L' := F) (.skip (.skip (.refl _))) ?_
          refine ret1 rfl rfl ?_
          first | exact ⟨rfl, rfl⟩ | exact ⟨by rw [decide_eq_decide.2 (right_t (by omega))], rfl⟩ | exact ⟨by rw [decide_eq_decide.2 (right_n (by omega))], rfl⟩ | exact ⟨by rw [decide_eq_false (right_o (by omega) (by omega) (by omega) (by omega) (by omega) (by omega) (by omega))], rfl⟩
        · skip
          refine vc_seq ?_
          refine vc_seq ?_
          refine vc_region ?_
          refine vl_det (det_eql rfl rfl) rfl ?_
          refine vl_det (det_assign rfl) rfl ?_
          refine vl_end [(1, _), (3, _), (8, _), (32, _)] ⟨rfl, rfl, rfl, rfl, trivial⟩ ?_
          refine then_next ?_
          refine vc_decideU rfl (fun h32 => ?_) (fun h32 => ?_)
          · skip
            have hg := @right_g op nn wd fr to (by omega)
            refine vc_skip ?_
            refine then_next ?_
            refine vc_cond_t rfl ?_
            refine vc_seq ?_
            refine vc_region ?_
            refine vl_det (det_fieldAddr_ Try.underlying38 rfl (by kernel_rfl) rfl rfl) rfl ?_
            refine vl_det (det_load_blk (by kernel_rfl) rfl (by repeat (first | exact .hd | apply Sel.tl)) rfl) rfl ?_
            refine vl_det (det_fieldAddr_ Try.underlying38 rfl (by kernel_rfl) rfl rfl) rfl ?_
            refine vl_eff0 (eff_store (by kernel_rfl) rfl rfl rfl (by repeat (first | exact .hd | apply Sel.tl)) (by simp)) ?_
            rintro _ _ rfl
            refine vl_end [(1, _), (3, _)] ⟨rfl, rfl, trivial⟩ ?_
            refine then_next ?_
            refine vc_seq ?_
            refine vc_region ?_
            refine vl_cut 8 45 [] (rightS (op, nn, wd, fr, to)) trivial ?_ ?_
            · skip
              refine vl_det (det_load_whole 5 (by kernel_rfl) rfl (by repeat (first | exact .hd | apply Sel.tl)) (by first | rfl | (simp; omega) | (simp [*]; done))) rfl ?_
              refine vl_det (det_load_whole 5 (by kernel_rfl) rfl (by repeat (first | exact .hd | apply Sel.tl)) (by first | rfl | (simp; omega) | (simp [*]; done))) rfl ?_
              refine vl_det (det_step_eql rfl (op, nn, wd, fr, to) (op, nn, [], 0, 0) rfl rfl) rfl ?_
              refine vl_det (det_move rfl) rfl ?_
              refine vl_guardp rfl rfl rfl (fun h41 => ?_) (fun h41 => ?_)
              · skip
                refine vl_det (det_fieldAddr_ Try.underlying38 rfl (by kernel_rfl) rfl rfl) rfl ?_
                refine vl_guard_t rfl rfl ?_
                refine vl_det (det_load_blk (by kernel_rfl) rfl (by repeat (first | exact .hd | apply Sel.tl)) rfl) rfl ?_
                refine vl_guard_t rfl rfl ?_
                refine vl_det (det_geq rfl rfl) rfl ?_
                refine vl_det (det_pick_t rfl rfl) rfl ?_
                exact vl_cut_end trivial (by first | rfl | exact bool_to_t (by first | exact fun h => absurd (hg.1 h).1 (by assumption) | exact ⟨fun h => hg.2 ⟨by assumption, by omega⟩, fun h => by have := (hg.1 h).2; omega⟩) | exact bool_to_f (by first | exact fun h => absurd (hg.1 h).1 (by assumption) | exact ⟨fun h => hg.2 ⟨by assumption, by omega⟩, fun h => by have := (hg.1 h).2; omega⟩) | exact bool_to (by first | exact fun h => absurd (hg.1 h).1 (by assumption) | exact ⟨fun h => hg.2 ⟨by assumption, by omega⟩, fun h => by have := (hg.1 h).2; omega⟩) | exact bool_to_b (by first | exact fun h => absurd (hg.1 h).1 (by assumption) | exact ⟨fun h => hg.2 ⟨by assumption, by omega⟩, fun h => by have := (hg.1 h).2; omega⟩))
              · skip
                refine vl_guard_f rfl rfl rfl rfl ?_
                refine vl_guard_f rfl rfl rfl rfl ?_
                refine vl_det (det_pick_f rfl rfl) rfl ?_
                exact vl_cut_end trivial (by first | rfl | exact bool_to_t (by first | exact fun h => absurd (hg.1 h).1 (by assumption) | exact ⟨fun h => hg.2 ⟨by assumption, by omega⟩, fun h => by have := (hg.1 h).2; omega⟩) | exact bool_to_f (by first | exact fun h => absurd (hg.1 h).1 (by assumption) | exact ⟨fun h => hg.2 ⟨by assumption, by omega⟩, fun h => by have := (hg.1 h).2; omega⟩) | exact bool_to (by first | exact fun h => absurd (hg.1 h).1 (by assumption) | exact ⟨fun h => hg.2 ⟨by assumption, by omega⟩, fun h => by have := (hg.1 h).2; omega⟩) | exact bool_to_b (by first | exact fun h => absurd (hg.1 h).1 (by assumption) | exact ⟨fun h => hg.2 ⟨by assumption, by omega⟩, fun h => by have := (hg.1 h).2; omega⟩))
            · skip
              refine vl_det (det_assign rfl) rfl ?_
              refine vl_end [(2, _)] ⟨rfl, trivial⟩ ?_
              refine then_next ?_
              refine vc_ret ?_
              refine in_ret ?_
              refine then_ret ?_
              refine ret_wk (L' := F) (.skip (.skip (.refl _))) ?_
              refine ret1 rfl rfl ?_
              first | exact ⟨rfl, rfl⟩ | exact ⟨by rw [decide_eq_decide.2 (right_t (by omega))], rfl⟩ | exact ⟨by rw [decide_eq_decide.2 (right_n (by omega))], rfl⟩ | exact ⟨by rw [decide_eq_false (right_o (by omega) (by omega) (by omega) (by omega) (by omega) (by omega) (by omega))], rfl⟩
          · skip
            refine vc_region ?_
            refine vl_det (det_eql rfl rfl) rfl ?_
            refine vl_det (det_assign rfl) rfl ?_
            refine vl_end [(1, _), (3, _), (8, _), (32, _)] ⟨rfl, rfl, rfl, rfl, trivial⟩ ?_
            refine then_next ?_
            refine vc_decideU rfl (fun h32 => ?_) (fun h32 => ?_)
            · skip
              have hg := @right_g op nn wd fr to (by omega)
              refine vc_seq ?_
              refine vc_region ?_
              refine vl_det (det_fieldAddr_ Try.underlying38 rfl (by kernel_rfl) rfl rfl) rfl ?_
              refine vl_det (det_load_blk (by kernel_rfl) rfl (by repeat (first | exact .hd | apply Sel.tl)) rfl) rfl ?_
              refine vl_det (det_fieldAddr_ Try.underlying38 rfl (by kernel_rfl) rfl rfl) rfl ?_
              refine vl_eff0 (eff_store (by kernel_rfl) rfl rfl rfl (by repeat (first | exact .hd | apply Sel.tl)) (by simp)) ?_
              rintro _ _ rfl
              refine vl_end [(1, _), (3, _)] ⟨rfl, rfl, trivial⟩ ?_
              refine then_next ?_
              refine vc_seq ?_
              refine vc_region ?_
              refine vl_cut 8 45 [] (rightS (op, nn, wd, fr, to)) trivial ?_ ?_
              · skip
                refine vl_det (det_load_whole 5 (by kernel_rfl) rfl (by repeat (first | exact .hd | apply Sel.tl)) (by first | rfl | (simp; omega) | (simp [*]; done))) rfl ?_
                refine vl_det (det_load_whole 5 (by kernel_rfl) rfl (by repeat (first | exact .hd | apply Sel.tl)) (by first | rfl | (simp; omega) | (simp [*]; done))) rfl ?_
                refine vl_det (det_step_eql rfl (op, nn, wd, fr, to) (op, nn, [], 0, 0) rfl rfl) rfl ?_
                refine vl_det (det_move rfl) rfl ?_
                refine vl_guardp rfl rfl rfl (fun h41 => ?_) (fun h41 => ?_)
                · skip
                  refine vl_det (det_fieldAddr_ Try.underlying38 rfl (by kernel_rfl) rfl rfl) rfl ?_
                  refine vl_guard_t rfl rfl ?_
                  refine vl_det (det_load_blk (by kernel_rfl) rfl (by repeat (first | exact .hd | apply Sel.tl)) rfl) rfl ?_
                  refine vl_guard_t rfl rfl ?_
                  refine vl_det (det_geq rfl rfl) rfl ?_
                  refine vl_det (det_pick_t rfl rfl) rfl ?_
                  exact vl_cut_end trivial (by first | rfl | exact bool_to_t (by first | exact fun h => absurd (hg.1 h).1 (by assumption) | exact ⟨fun h => hg.2 ⟨by assumption, by omega⟩, fun h => by have := (hg.1 h).2; omega⟩) | exact bool_to_f (by first | exact fun h => absurd (hg.1 h).1 (by assumption) | exact ⟨fun h => hg.2 ⟨by assumption, by omega⟩, fun h => by have := (hg.1 h).2; omega⟩) | exact bool_to (by first | exact fun h => absurd (hg.1 h).1 (by assumption) | exact ⟨fun h => hg.2 ⟨by assumption, by omega⟩, fun h => by have := (hg.1 h).2; omega⟩) | exact bool_to_b (by first | exact fun h => absurd (hg.1 h).1 (by assumption) | exact ⟨fun h => hg.2 ⟨by assumption, by omega⟩, fun h => by have := (hg.1 h).2; omega⟩))
                · skip
                  refine vl_guard_f rfl rfl rfl rfl ?_
                  refine vl_guard_f rfl rfl rfl rfl ?_
                  refine vl_det (det_pick_f rfl rfl) rfl ?_
                  exact vl_cut_end trivial (by first | rfl | exact bool_to_t (by first | exact fun h => absurd (hg.1 h).1 (by assumption) | exact ⟨fun h => hg.2 ⟨by assumption, by omega⟩, fun h => by have := (hg.1 h).2; omega⟩) | exact bool_to_f (by first | exact fun h => absurd (hg.1 h).1 (by assumption) | exact ⟨fun h => hg.2 ⟨by assumption, by omega⟩, fun h => by have := (hg.1 h).2; omega⟩) | exact bool_to (by first | exact fun h => absurd (hg.1 h).1 (by assumption) | exact ⟨fun h => hg.2 ⟨by assumption, by omega⟩, fun h => by have := (hg.1 h).2; omega⟩) | exact bool_to_b (by first | exact fun h => absurd (hg.1 h).1 (by assumption) | exact ⟨fun h => hg.2 ⟨by assumption, by omega⟩, fun h => by have := (hg.1 h).2; omega⟩))
              · skip
                refine vl_det (det_assign rfl) rfl ?_
                refine vl_end [(2, _)] ⟨rfl, trivial⟩ ?_
                refine then_next ?_
                refine vc_ret ?_
                refine in_ret ?_
                refine then_ret ?_
                refine ret_wk (L' := F) (.skip (.skip (.refl _))) ?_
                refine ret1 rfl rfl ?_
                first | exact ⟨rfl, rfl⟩ | exact ⟨by rw [decide_eq_decide.2 (right_t (by omega))], rfl⟩ | exact ⟨by rw [decide_eq_decide.2 (right_n (by omega))], rfl⟩ | exact ⟨by rw [decide_eq_false (right_o (by omega) (by omega) (by omega) (by omega) (by omega) (by omega) (by omega))], rfl⟩
            · skip
              refine vc_seq ?_
              refine vc_region ?_
              refine vl_det (det_eql rfl rfl) rfl ?_
              refine vl_det (det_assign rfl) rfl ?_
              refine vl_end [(1, _), (3, _), (46, _)] ⟨rfl, rfl, rfl, trivial⟩ ?_
              refine then_next ?_
              refine vc_decideU rfl (fun h46 => ?_) (fun h46 => ?_)
              · skip
                refine vc_skip ?_
                refine in_normal ?_
                refine then_next ?_
                refine vc_seq ?_
                refine vc_region ?_
                refine vl_det (det_load_whole 5 (by kernel_rfl) rfl (by repeat (first | exact .hd | apply Sel.tl)) (by first | rfl | (simp; omega) | (simp [*]; done))) rfl ?_
                refine vl_det (det_load_whole 5 (by kernel_rfl) rfl (by repeat (first | exact .hd | apply Sel.tl)) (by first | rfl | (simp; omega) | (simp [*]; done))) rfl ?_
                refine vl_det (det_step_eql rfl (op, nn, wd, fr, to) (op, 0, [], 0, 0) rfl rfl) rfl ?_
                refine vl_det (det_assign rfl) rfl ?_
                refine vl_end [(2, _)] ⟨rfl, trivial⟩ ?_
                refine then_next ?_
                refine vc_ret ?_
                refine ret_wk (L' := F) (.skip (.skip (.refl _))) ?_
                refine ret1 rfl rfl ?_
                first | exact ⟨rfl, rfl⟩ | exact ⟨by rw [decide_eq_decide.2 (right_t (by omega))], rfl⟩ | exact ⟨by rw [decide_eq_decide.2 (right_n (by omega))], rfl⟩ | exact ⟨by rw [decide_eq_false (right_o (by omega) (by omega) (by omega) (by omega) (by omega) (by omega) (by omega))], rfl⟩
              · skip
                refine vc_seq ?_
                refine vc_region ?_
                refine vl_det (det_assign rfl) rfl ?_
                refine vl_end [(2, _)] ⟨rfl, trivial⟩ ?_
                refine then_next ?_
                refine vc_ret ?_
                refine in_ret ?_
                refine then_ret ?_
                refine ret_wk (L' := F) (.skip (.skip (.refl _))) ?_
                refine ret1 rfl rfl ?_
                first | exact ⟨rfl, rfl⟩ | exact ⟨by rw [decide_eq_decide.2 (right_t (by omega))], rfl⟩ | exact ⟨by rw [decide_eq_decide.2 (right_n (by omega))], rfl⟩ | exact ⟨by rw [decide_eq_false (right_o (by omega) (by omega) (by omega) (by omega) (by omega) (by omega) (by omega))], rfl⟩
theorem rright_d (s : StepC) : Does Try.prog B w0 46 [.agg (StepC.cells s).toArray] F (fun r L => r = .bool (decide (rightS s)) ∧ L = F) := by
  obtain ⟨op, nn, wd, fr, to⟩ := s
  refine fn_walk Try.func46 70 rfl rfl rfl [(0, .agg #[.int .i64 op, .int .i64 nn, .string ⟨wd.toArray⟩, .int .u64 (fr : Int), .int .u64 (to : Int)])] ⟨⟨rfl, rfl⟩, trivial⟩ ?_
  refine vc_seq ?_
  refine vc_region ?_
  refine vl_eff (eff_box rfl rfl) rfl ?_
  rintro _ _ ⟨g1, rfl, rfl⟩
  refine vl_det (det_assign rfl) rfl ?_
  refine vl_end [(1, _)] ⟨rfl, trivial⟩ ?_
  refine then_next ?_
  refine vc_seq ?_
  refine vc_seq ?_
  refine vc_region ?_
  refine vl_cut 8 10 [(1, _)] (op = 1 ∨ op = 2) ⟨rfl, trivial⟩ ?_ ?_
  · skip
    refine vl_det (det_fieldAddr_ Try.underlying38 rfl (by kernel_rfl) rfl rfl) rfl ?_
    refine vl_det (det_load_blk (by kernel_rfl) rfl (by repeat (first | exact .hd | apply Sel.tl)) rfl) rfl ?_
    refine vl_det (det_eql rfl rfl) rfl ?_
    refine vl_det (det_move rfl) rfl ?_
    refine vl_guardn rfl rfl rfl (fun h6 => ?_) (fun h6 => ?_)
    · skip
      refine vl_det (det_fieldAddr_ Try.underlying38 rfl (by kernel_rfl) rfl rfl) rfl ?_
      refine vl_guard_t rfl rfl ?_
      refine vl_det (det_load_blk (by kernel_rfl) rfl (by repeat (first | exact .hd | apply Sel.tl)) rfl) rfl ?_
      refine vl_guard_t rfl rfl ?_
      refine vl_det (det_eql rfl rfl) rfl ?_
      refine vl_det (det_pick_f rfl rfl) rfl ?_
      exact vl_cut_end ⟨rfl, trivial⟩ (by first | rfl | exact bool_to_t (by first | omega | simp_all) | exact bool_to_f (by first | omega | simp_all) | exact bool_to (by first | omega | simp_all) | exact bool_to_b (by first | omega | simp_all))
    · skip
      refine vl_guard_f rfl rfl rfl rfl ?_
      refine vl_guard_f rfl rfl rfl rfl ?_
      refine vl_det (det_pick_t rfl rfl) rfl ?_
      exact vl_cut_end ⟨rfl, trivial⟩ (by first | rfl | exact bool_to_t (by first | omega | simp_all) | exact bool_to_f (by first | omega | simp_all) | exact bool_to (by first | omega | simp_all) | exact bool_to_b (by first | omega | simp_all))
  · skip
    refine vl_end [(1, _), (10, _)] ⟨rfl, rfl, trivial⟩ ?_
    refine then_next ?_
    refine vc_decideU rfl (fun h10 => ?_) (fun h10 => ?_)
    · skip
      have hw := @right_w op nn wd fr to (by omega)
      have hw2 : rightS (op, nn, wd, fr, to) ↔ (nn = 0 ∧ fr = 0 ∧ to = 0) ∧ termL wd = true := by rw [hw]; simp
      refine vc_seq ?_
      refine vc_region ?_
      refine vl_cut 18 28 [] (rightS (op, nn, wd, fr, to)) trivial ?_ ?_
      · skip
        refine vl_det (det_fieldAddr_ Try.underlying38 rfl (by kernel_rfl) rfl rfl) rfl ?_
        refine vl_det (det_load_blk (by kernel_rfl) rfl (by repeat (first | exact .hd | apply Sel.tl)) rfl) rfl ?_
        refine vl_det (det_eql rfl rfl) rfl ?_
        refine vl_det (det_move rfl) rfl ?_
        refine vl_guardp rfl rfl rfl (fun h14 => ?_) (fun h14 => ?_)
        · skip
          refine vl_det (det_fieldAddr_ Try.underlying38 rfl (by kernel_rfl) rfl rfl) rfl ?_
          refine vl_guard_t rfl rfl ?_
          refine vl_det (det_load_blk (by kernel_rfl) rfl (by repeat (first | exact .hd | apply Sel.tl)) rfl) rfl ?_
          refine vl_guard_t rfl rfl ?_
          refine vl_det (det_eql rfl rfl) rfl ?_
          refine vl_det (det_pick_t rfl rfl) rfl ?_
          refine vl_det (det_move rfl) rfl ?_
          refine vl_guardp rfl rfl rfl (fun h19 => ?_) (fun h19 => ?_)
          · skip
            refine vl_det (det_fieldAddr_ Try.underlying38 rfl (by kernel_rfl) rfl rfl) rfl ?_
            refine vl_guard_t rfl rfl ?_
            refine vl_det (det_load_blk (by kernel_rfl) rfl (by repeat (first | exact .hd | apply Sel.tl)) rfl) rfl ?_
            refine vl_guard_t rfl rfl ?_
            refine vl_det (det_eql rfl rfl) rfl ?_
            refine vl_det (det_pick_t rfl rfl) rfl ?_
            refine vl_det (det_move rfl) rfl ?_
            refine vl_guardp rfl rfl rfl (fun h24 => ?_) (fun h24 => ?_)
            · skip
              refine vl_det (det_fieldAddr_ Try.underlying38 rfl (by kernel_rfl) rfl rfl) rfl ?_
              refine vl_guard_t rfl rfl ?_
              refine vl_det (det_load_blk (by kernel_rfl) rfl (by repeat (first | exact .hd | apply Sel.tl)) rfl) rfl ?_
              refine vl_guard_t rfl rfl ?_
              refine vl_call co58 rfl (rterm_d wd) rfl ?_
              rintro _ _ ⟨rfl, hLL⟩
              obtain rfl := hLL.symm
              refine vl_det (det_pick_t rfl rfl) rfl ?_
              exact vl_cut_end trivial (by first | rfl | exact bool_to_t (by first | exact fun h => absurd (hw2.1 h).1 (by omega) | exact ⟨fun h => hw2.2 ⟨by omega, h⟩, fun h => (hw2.1 h).2⟩) | exact bool_to_f (by first | exact fun h => absurd (hw2.1 h).1 (by omega) | exact ⟨fun h => hw2.2 ⟨by omega, h⟩, fun h => (hw2.1 h).2⟩) | exact bool_to (by first | exact fun h => absurd (hw2.1 h).1 (by omega) | exact ⟨fun h => hw2.2 ⟨by omega, h⟩, fun h => (hw2.1 h).2⟩) | exact bool_to_b (by first | exact fun h => absurd (hw2.1 h).1 (by omega) | exact ⟨fun h => hw2.2 ⟨by omega, h⟩, fun h => (hw2.1 h).2⟩))
            · skip
              refine vl_guard_f rfl rfl rfl rfl ?_
              refine vl_guard_f rfl rfl rfl rfl ?_
              refine vl_det (det_pick_f rfl rfl) rfl ?_
              exact vl_cut_end trivial (by first | rfl | exact bool_to_t (by first | exact fun h => absurd (hw2.1 h).1 (by omega) | exact ⟨fun h => hw2.2 ⟨by omega, h⟩, fun h => (hw2.1 h).2⟩) | exact bool_to_f (by first | exact fun h => absurd (hw2.1 h).1 (by omega) | exact ⟨fun h => hw2.2 ⟨by omega, h⟩, fun h => (hw2.1 h).2⟩) | exact bool_to (by first | exact fun h => absurd (hw2.1 h).1 (by omega) | exact ⟨fun h => hw2.2 ⟨by omega, h⟩, fun h => (hw2.1 h).2⟩) | exact bool_to_b (by first | exact fun h => absurd (hw2.1 h).1 (by omega) | exact ⟨fun h => hw2.2 ⟨by omega, h⟩, fun h => (hw2.1 h).2⟩))
          · skip
            refine vl_guard_f rfl rfl rfl rfl ?_
            refine vl_guard_f rfl rfl rfl rfl ?_
            refine vl_det (det_pick_f rfl rfl) rfl ?_
            refine vl_det (det_move rfl) rfl ?_
            refine vl_guard_f rfl rfl rfl rfl ?_
            refine vl_guard_f rfl rfl rfl rfl ?_
            refine vl_guard_f rfl rfl rfl rfl ?_
            refine vl_det (det_pick_f rfl rfl) rfl ?_
            exact vl_cut_end trivial (by first | rfl | exact bool_to_t (by first | exact fun h => absurd (hw2.1 h).1 (by omega) | exact ⟨fun h => hw2.2 ⟨by omega, h⟩, fun h => (hw2.1 h).2⟩) | exact bool_to_f (by first | exact fun h => absurd (hw2.1 h).1 (by omega) | exact ⟨fun h => hw2.2 ⟨by omega, h⟩, fun h => (hw2.1 h).2⟩) | exact bool_to (by first | exact fun h => absurd (hw2.1 h).1 (by omega) | exact ⟨fun h => hw2.2 ⟨by omega, h⟩, fun h => (hw2.1 h).2⟩) | exact bool_to_b (by first | exact fun h => absurd (hw2.1 h).1 (by omega) | exact ⟨fun h => hw2.2 ⟨by omega, h⟩, fun h => (hw2.1 h).2⟩))
        · skip
          refine vl_guard_f rfl rfl rfl rfl ?_
          refine vl_guard_f rfl rfl rfl rfl ?_
          refine vl_det (det_pick_f rfl rfl) rfl ?_
          refine vl_det (det_move rfl) rfl ?_
          refine vl_guard_f rfl rfl rfl rfl ?_
          refine vl_guard_f rfl rfl rfl rfl ?_
          refine vl_guard_f rfl rfl rfl rfl ?_
          refine vl_det (det_pick_f rfl rfl) rfl ?_
          refine vl_det (det_move rfl) rfl ?_
          refine vl_guard_f rfl rfl rfl rfl ?_
          refine vl_guard_f rfl rfl rfl rfl ?_
          refine vl_guard_f rfl rfl rfl rfl ?_
          refine vl_det (det_pick_f rfl rfl) rfl ?_
          exact vl_cut_end trivial (by first | rfl | exact bool_to_t (by first | exact fun h => absurd (hw2.1 h).1 (by omega) | exact ⟨fun h => hw2.2 ⟨by omega, h⟩, fun h => (hw2.1 h).2⟩) | exact bool_to_f (by first | exact fun h => absurd (hw2.1 h).1 (by omega) | exact ⟨fun h => hw2.2 ⟨by omega, h⟩, fun h => (hw2.1 h).2⟩) | exact bool_to (by first | exact fun h => absurd (hw2.1 h).1 (by omega) | exact ⟨fun h => hw2.2 ⟨by omega, h⟩, fun h => (hw2.1 h).2⟩) | exact bool_to_b (by first | exact fun h => absurd (hw2.1 h).1 (by omega) | exact ⟨fun h => hw2.2 ⟨by omega, h⟩, fun h => (hw2.1 h).2⟩))
      · skip
        refine vl_det (det_assign rfl) rfl ?_
        refine vl_end [(2, _)] ⟨rfl, trivial⟩ ?_
        refine then_next ?_
        refine vc_ret ?_
        refine then_ret ?_
        refine ret_wk (L' := F) (.skip (.refl _)) ?_
        refine ret1 rfl rfl ?_
        exact ⟨rfl, rfl⟩
    · skip
      refine vc_skip ?_
      refine then_next ?_
      refine vc_seq ?_
      refine vc_seq ?_
      refine vc_region ?_
      refine vl_det (det_fieldAddr_ Try.underlying38 rfl (by kernel_rfl) rfl rfl) rfl ?_
      refine vl_det (det_load_blk (by kernel_rfl) rfl (by repeat (first | exact .hd | apply Sel.tl)) rfl) rfl ?_
      refine vl_det (det_s_neq rfl rfl) rfl ?_
      refine vl_end [(1, _), (31, _)] ⟨rfl, rfl, trivial⟩ ?_
      refine then_next ?_
      refine vc_decideU rfl (fun h31 => ?_) (fun h31 => ?_)
      · skip
        refine vc_seq ?_
        refine vc_region ?_
        refine vl_det (det_assign rfl) rfl ?_
        refine vl_end [(2, _)] ⟨rfl, trivial⟩ ?_
        refine then_next ?_
        refine vc_ret ?_
        refine then_ret ?_
        refine ret_wk (L' := F) (.skip (.refl _)) ?_
        refine ret1 rfl rfl ?_
        first | exact ⟨rfl, rfl⟩ | exact ⟨congrArg Value.bool (decide_eq_decide.2 (ht.trans (by simp)).symm), rfl⟩ | exact ⟨congrArg Value.bool (decide_eq_decide.2 (hn.trans (by simp; omega)).symm), rfl⟩ | exact ⟨by rw [decide_eq_false (by unfold rightS; simp only; omega)], rfl⟩ | exact ⟨by rw [decide_eq_false (by unfold rightS; simp only; rintro (h | h | h | h) <;> first | omega | exact h31 h.2.2 | exact h31 h.2.2.1)], rfl⟩
      · skip
        obtain rfl : wd = [] := by simpa using h31
        refine vc_skip ?_
        refine then_next ?_
        refine vc_seq ?_
        refine vc_seq ?_
        refine vc_region ?_
        refine vl_cut 8 39 [(1, _)] (op = 3 ∨ op = 4) ⟨rfl, trivial⟩ ?_ ?_
        · skip
          refine vl_det (det_fieldAddr_ Try.underlying38 rfl (by kernel_rfl) rfl rfl) rfl ?_
          refine vl_det (det_load_blk (by kernel_rfl) rfl (by repeat (first | exact .hd | apply Sel.tl)) rfl) rfl ?_
          refine vl_det (det_eql rfl rfl) rfl ?_
          refine vl_det (det_move rfl) rfl ?_
          refine vl_guardn rfl rfl rfl (fun h35 => ?_) (fun h35 => ?_)
          · skip
            refine vl_det (det_fieldAddr_ Try.underlying38 rfl (by kernel_rfl) rfl rfl) rfl ?_
            refine vl_guard_t rfl rfl ?_
            refine vl_det (det_load_blk (by kernel_rfl) rfl (by repeat (first | exact .hd | apply Sel.tl)) rfl) rfl ?_
            refine vl_guard_t rfl rfl ?_
            refine vl_det (det_eql rfl rfl) rfl ?_
            refine vl_det (det_pick_f rfl rfl) rfl ?_
            exact vl_cut_end ⟨rfl, trivial⟩ (by first | rfl | exact bool_to_t (by first | omega | simp_all) | exact bool_to_f (by first | omega | simp_all) | exact bool_to (by first | omega | simp_all) | exact bool_to_b (by first | omega | simp_all))
          · skip
            refine vl_guard_f rfl rfl rfl rfl ?_
            refine vl_guard_f rfl rfl rfl rfl ?_
            refine vl_det (det_pick_t rfl rfl) rfl ?_
            exact vl_cut_end ⟨rfl, trivial⟩ (by first | rfl | exact bool_to_t (by first | omega | simp_all) | exact bool_to_f (by first | omega | simp_all) | exact bool_to (by first | omega | simp_all) | exact bool_to_b (by first | omega | simp_all))
        · skip
          refine vl_end [(1, _), (39, _)] ⟨rfl, rfl, trivial⟩ ?_
          refine then_next ?_
          refine vc_decideU rfl (fun h39 => ?_) (fun h39 => ?_)
          · skip
            have ht := @right_t op nn [] fr to (by omega)
            refine vc_seq ?_
            refine vc_region ?_
            refine vl_det (det_fieldAddr_ Try.underlying38 rfl (by kernel_rfl) rfl rfl) rfl ?_
            refine vl_det (det_load_blk (by kernel_rfl) rfl (by repeat (first | exact .hd | apply Sel.tl)) rfl) rfl ?_
            refine vl_det (det_eql rfl rfl) rfl ?_
            refine vl_det (det_assign rfl) rfl ?_
            refine vl_end [(2, _)] ⟨rfl, trivial⟩ ?_
            refine then_next ?_
            refine vc_ret ?_
            refine then_ret ?_
            refine ret_wk (L' := F) (.skip (.refl _)) ?_
            refine ret1 rfl rfl ?_
            first | exact ⟨rfl, rfl⟩ | exact ⟨congrArg Value.bool (decide_eq_decide.2 (ht.trans (by simp)).symm), rfl⟩ | exact ⟨congrArg Value.bool (decide_eq_decide.2 (hn.trans (by simp; omega)).symm), rfl⟩ | exact ⟨by rw [decide_eq_false (by unfold rightS; simp only; omega)], rfl⟩ | exact ⟨by rw [decide_eq_false (by unfold rightS; simp only; rintro (h | h | h | h) <;> first | omega | exact h31 h.2.2 | exact h31 h.2.2.1)], rfl⟩
          · skip
            refine vc_skip ?_
            refine then_next ?_
            refine vc_seq ?_
            refine vc_seq ?_
            refine vc_region ?_
            refine vl_cut 8 50 [(1, _)] (¬ (fr : Int) = 0 ∨ ¬ (to : Int) = 0) ⟨rfl, trivial⟩ ?_ ?_
            · skip
              refine vl_det (det_fieldAddr_ Try.underlying38 rfl (by kernel_rfl) rfl rfl) rfl ?_
              refine vl_det (det_load_blk (by kernel_rfl) rfl (by repeat (first | exact .hd | apply Sel.tl)) rfl) rfl ?_
              refine vl_det (det_neq rfl rfl) rfl ?_
              refine vl_det (det_move rfl) rfl ?_
              refine vl_guardn rfl rfl rfl (fun h46 => ?_) (fun h46 => ?_)
              · skip
                refine vl_det (det_fieldAddr_ Try.underlying38 rfl (by kernel_rfl) rfl rfl) rfl ?_
                refine vl_guard_t rfl rfl ?_
                refine vl_det (det_load_blk (by kernel_rfl) rfl (by repeat (first | exact .hd | apply Sel.tl)) rfl) rfl ?_
                refine vl_guard_t rfl rfl ?_
                refine vl_det (det_neq rfl rfl) rfl ?_
                refine vl_det (det_pick_f rfl rfl) rfl ?_
                exact vl_cut_end ⟨rfl, trivial⟩ (by first | rfl | exact bool_to_t (by first | omega | simp_all) | exact bool_to_f (by first | omega | simp_all) | exact bool_to (by first | omega | simp_all) | exact bool_to_b (by first | omega | simp_all))
              · skip
                refine vl_guard_f rfl rfl rfl rfl ?_
                refine vl_guard_f rfl rfl rfl rfl ?_
                refine vl_det (det_pick_t rfl rfl) rfl ?_
                exact vl_cut_end ⟨rfl, trivial⟩ (by first | rfl | exact bool_to_t (by first | omega | simp_all) | exact bool_to_f (by first | omega | simp_all) | exact bool_to (by first | omega | simp_all) | exact bool_to_b (by first | omega | simp_all))
            · skip
              refine vl_end [(1, _), (50, _)] ⟨rfl, rfl, trivial⟩ ?_
              refine then_next ?_
              refine vc_decideU rfl (fun h50 => ?_) (fun h50 => ?_)
              · skip
                refine vc_seq ?_
                refine vc_region ?_
                refine vl_det (det_assign rfl) rfl ?_
                refine vl_end [(2, _)] ⟨rfl, trivial⟩ ?_
                refine then_next ?_
                refine vc_ret ?_
                refine then_ret ?_
                refine ret_wk (L' := F) (.skip (.refl _)) ?_
                refine ret1 rfl rfl ?_
                first | exact ⟨rfl, rfl⟩ | exact ⟨congrArg Value.bool (decide_eq_decide.2 (ht.trans (by simp)).symm), rfl⟩ | exact ⟨congrArg Value.bool (decide_eq_decide.2 (hn.trans (by simp; omega)).symm), rfl⟩ | exact ⟨by rw [decide_eq_false (by unfold rightS; simp only; omega)], rfl⟩ | exact ⟨by rw [decide_eq_false (by unfold rightS; simp only; rintro (h | h | h | h) <;> first | omega | exact h31 h.2.2 | exact h31 h.2.2.1)], rfl⟩
              · skip
                refine vc_skip ?_
                refine then_next ?_
                refine vc_seq ?_
                refine vc_seq ?_
                refine vc_region ?_
                refine vl_det (det_fieldAddr_ Try.underlying38 rfl (by kernel_rfl) rfl rfl) rfl ?_
                refine vl_det (det_load_blk (by kernel_rfl) rfl (by repeat (first | exact .hd | apply Sel.tl)) rfl) rfl ?_
                refine vl_det (det_eql rfl rfl) rfl ?_
                refine vl_end [(1, _), (53, _)] ⟨rfl, rfl, trivial⟩ ?_
                refine then_next ?_
                refine vc_decideU rfl (fun h53 => ?_) (fun h53 => ?_)
                · skip
                  have hn := @right_n op nn [] fr to (by omega)
                  refine vc_seq ?_
                  refine vc_region ?_
                  refine vl_det (det_fieldAddr_ Try.underlying38 rfl (by kernel_rfl) rfl rfl) rfl ?_
                  refine vl_det (det_load_blk (by kernel_rfl) rfl (by repeat (first | exact .hd | apply Sel.tl)) rfl) rfl ?_
                  refine vl_det (det_eql rfl rfl) rfl ?_
                  refine vl_det (det_assign rfl) rfl ?_
                  refine vl_end [(2, _)] ⟨rfl, trivial⟩ ?_
                  refine then_next ?_
                  refine vc_ret ?_
                  refine then_ret ?_
                  refine ret_wk (L' := F) (.skip (.refl _)) ?_
                  refine ret1 rfl rfl ?_
                  first | exact ⟨rfl, rfl⟩ | exact ⟨congrArg Value.bool (decide_eq_decide.2 (ht.trans (by simp)).symm), rfl⟩ | exact ⟨congrArg Value.bool (decide_eq_decide.2 (hn.trans (by simp; omega)).symm), rfl⟩ | exact ⟨by rw [decide_eq_false (by unfold rightS; simp only; omega)], rfl⟩ | exact ⟨by rw [decide_eq_false (by unfold rightS; simp only; rintro (h | h | h | h) <;> first | omega | exact h31 h.2.2 | exact h31 h.2.2.1)], rfl⟩
                · skip
                  refine vc_skip ?_
                  refine then_next ?_
                  refine vc_seq ?_
                  refine vc_region ?_
                  refine vl_cut 13 69 [] (rightS (op, nn, [], fr, to)) trivial ?_ ?_
                  · skip
                    refine vl_det (det_fieldAddr_ Try.underlying38 rfl (by kernel_rfl) rfl rfl) rfl ?_
                    refine vl_det (det_load_blk (by kernel_rfl) rfl (by repeat (first | exact .hd | apply Sel.tl)) rfl) rfl ?_
                    refine vl_det (det_eql rfl rfl) rfl ?_
                    refine vl_det (det_move rfl) rfl ?_
                    refine vl_guardn rfl rfl rfl (fun h60 => ?_) (fun h60 => ?_)
                    · skip
                      refine vl_det (det_fieldAddr_ Try.underlying38 rfl (by kernel_rfl) rfl rfl) rfl ?_
                      refine vl_guard_t rfl rfl ?_
                      refine vl_det (det_load_blk (by kernel_rfl) rfl (by repeat (first | exact .hd | apply Sel.tl)) rfl) rfl ?_
                      refine vl_guard_t rfl rfl ?_
                      refine vl_det (det_eql rfl rfl) rfl ?_
                      refine vl_det (det_pick_f rfl rfl) rfl ?_
                      refine vl_det (det_move rfl) rfl ?_
                      refine vl_guardp rfl rfl rfl (fun h65 => ?_) (fun h65 => ?_)
                      · skip
                        refine vl_det (det_fieldAddr_ Try.underlying38 rfl (by kernel_rfl) rfl rfl) rfl ?_
                        refine vl_guard_t rfl rfl ?_
                        refine vl_det (det_load_blk (by kernel_rfl) rfl (by repeat (first | exact .hd | apply Sel.tl)) rfl) rfl ?_
                        refine vl_guard_t rfl rfl ?_
                        refine vl_det (det_geq rfl rfl) rfl ?_
                        refine vl_det (det_pick_t rfl rfl) rfl ?_
                        exact vl_cut_end trivial (by first | rfl | exact bool_to_t (by first | exact fun h => absurd h (right_o (by omega) (by omega) (by omega) (by omega) (by omega) (by omega) (by omega)) | (rw [right_g (by omega)]; simp; omega) | (rw [right_g (by omega)]; simp only [Prod.mk.injEq, true_and]; omega)) | exact bool_to_f (by first | exact fun h => absurd h (right_o (by omega) (by omega) (by omega) (by omega) (by omega) (by omega) (by omega)) | (rw [right_g (by omega)]; simp; omega) | (rw [right_g (by omega)]; simp only [Prod.mk.injEq, true_and]; omega)) | exact bool_to (by first | exact fun h => absurd h (right_o (by omega) (by omega) (by omega) (by omega) (by omega) (by omega) (by omega)) | (rw [right_g (by omega)]; simp; omega) | (rw [right_g (by omega)]; simp only [Prod.mk.injEq, true_and]; omega)) | exact bool_to_b (by first | exact fun h => absurd h (right_o (by omega) (by omega) (by omega) (by omega) (by omega) (by omega) (by omega)) | (rw [right_g (by omega)]; simp; omega) | (rw [right_g (by omega)]; simp only [Prod.mk.injEq, true_and]; omega)))
                      · skip
                        refine vl_guard_f rfl rfl rfl rfl ?_
                        refine vl_guard_f rfl rfl rfl rfl ?_
                        refine vl_det (det_pick_f rfl rfl) rfl ?_
                        exact vl_cut_end trivial (by first | rfl | exact bool_to_t (by first | exact fun h => absurd h (right_o (by omega) (by omega) (by omega) (by omega) (by omega) (by omega) (by omega)) | (rw [right_g (by omega)]; simp; omega) | (rw [right_g (by omega)]; simp only [Prod.mk.injEq, true_and]; omega)) | exact bool_to_f (by first | exact fun h => absurd h (right_o (by omega) (by omega) (by omega) (by omega) (by omega) (by omega) (by omega)) | (rw [right_g (by omega)]; simp; omega) | (rw [right_g (by omega)]; simp only [Prod.mk.injEq, true_and]; omega)) | exact bool_to (by first | exact fun h => absurd h (right_o (by omega) (by omega) (by omega) (by omega) (by omega) (by omega) (by omega)) | (rw [right_g (by omega)]; simp; omega) | (rw [right_g (by omega)]; simp only [Prod.mk.injEq, true_and]; omega)) | exact bool_to_b (by first | exact fun h => absurd h (right_o (by omega) (by omega) (by omega) (by omega) (by omega) (by omega) (by omega)) | (rw [right_g (by omega)]; simp; omega) | (rw [right_g (by omega)]; simp only [Prod.mk.injEq, true_and]; omega)))
                    · skip
                      refine vl_guard_f rfl rfl rfl rfl ?_
                      refine vl_guard_f rfl rfl rfl rfl ?_
                      refine vl_det (det_pick_t rfl rfl) rfl ?_
                      refine vl_det (det_move rfl) rfl ?_
                      refine vl_guard_t rfl rfl ?_
                      refine vl_det (det_fieldAddr_ Try.underlying38 rfl (by kernel_rfl) rfl rfl) rfl ?_
                      refine vl_guard_t rfl rfl ?_
                      refine vl_det (det_load_blk (by kernel_rfl) rfl (by repeat (first | exact .hd | apply Sel.tl)) rfl) rfl ?_
                      refine vl_guard_t rfl rfl ?_
                      refine vl_det (det_geq rfl rfl) rfl ?_
                      refine vl_det (det_pick_t rfl rfl) rfl ?_
                      exact vl_cut_end trivial (by first | rfl | exact bool_to_t (by first | exact fun h => absurd h (right_o (by omega) (by omega) (by omega) (by omega) (by omega) (by omega) (by omega)) | (rw [right_g (by omega)]; simp; omega) | (rw [right_g (by omega)]; simp only [Prod.mk.injEq, true_and]; omega)) | exact bool_to_f (by first | exact fun h => absurd h (right_o (by omega) (by omega) (by omega) (by omega) (by omega) (by omega) (by omega)) | (rw [right_g (by omega)]; simp; omega) | (rw [right_g (by omega)]; simp only [Prod.mk.injEq, true_and]; omega)) | exact bool_to (by first | exact fun h => absurd h (right_o (by omega) (by omega) (by omega) (by omega) (by omega) (by omega) (by omega)) | (rw [right_g (by omega)]; simp; omega) | (rw [right_g (by omega)]; simp only [Prod.mk.injEq, true_and]; omega)) | exact bool_to_b (by first | exact fun h => absurd h (right_o (by omega) (by omega) (by omega) (by omega) (by omega) (by omega) (by omega)) | (rw [right_g (by omega)]; simp; omega) | (rw [right_g (by omega)]; simp only [Prod.mk.injEq, true_and]; omega)))
                  · skip
                    refine vl_det (det_assign rfl) rfl ?_
                    refine vl_end [(2, _)] ⟨rfl, trivial⟩ ?_
                    refine then_next ?_
                    refine vc_ret ?_
                    refine ret_wk (L' := F) (.skip (.refl _)) ?_
                    refine ret1 rfl rfl ?_
                    first | exact ⟨rfl, rfl⟩ | exact ⟨congrArg Value.bool (decide_eq_decide.2 (ht.trans (by simp)).symm), rfl⟩ | exact ⟨congrArg Value.bool (decide_eq_decide.2 (hn.trans (by simp; omega)).symm), rfl⟩ | exact ⟨by rw [decide_eq_false (by unfold rightS; simp only; omega)], rfl⟩ | exact ⟨by rw [decide_eq_false (by unfold rightS; simp only; rintro (h | h | h | h) <;> first | omega | exact h31 h.2.2 | exact h31 h.2.2.1)], rfl⟩
end Go.Proofs.Ytakokckokchacaa

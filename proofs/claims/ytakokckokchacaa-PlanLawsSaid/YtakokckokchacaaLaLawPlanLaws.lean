/-
  'PlanLaws': not, both and any of any queries mean what they say; their order doesn't matter. No condition.
-/
import Derived.Test.YtakokckokchacaaLa8
import Derived.Test.YtakokckokchacaaRows
namespace Go.Proofs.Ytakokckokchacaa.lawPlanLaws
open Go.ChangeShapes Go.WideShapes Go.ChangeAt Go.RowKit
open Go.ChangeMaps (open_string shut_string)
set_option linter.unusedVariables false
set_option maxRecDepth 20000
theorem depth29_d {B : Nat} {w0 : World} {F : List Ch} {A : Option Addr} {c : Nat} {q : List StepC} (hb : Bor B w0 F 5 (.slice A q.length c) q.length (stepsV q)) :
    Does Try.prog B w0 24 [.slice A q.length c] F (fun r L => r = .int .i64 (depthQ q).1 ∧ L = F) := by
  refine fn_walk Try.func24 11 rfl rfl rfl [(0, .slice A q.length c)] ⟨⟨rfl, rfl⟩, trivial⟩ ?_
  refine vc_seq ?_
  refine vc_region ?_
  refine vl_det (det_assign rfl) rfl ?_
  refine vl_end [(0, _)] ⟨rfl, trivial⟩ ?_
  refine then_next ?_
  refine vc_seq ?_
  refine vc_region ?_
  refine vl_det (det_move rfl) rfl ?_
  refine vl_call co29 rfl (rdepth_d (by first | (exact Bor.own (by repeat (first | exact List.Mem.head _ | apply List.Mem.tail))) | (repeat (first | assumption | apply Bor.cons)))) rfl ?_
  rintro _ _ ⟨rfl, hLL⟩
  obtain rfl := hLL.symm
  refine vl_det (det_move rfl) rfl ?_
  refine vl_det (det_extract rfl rfl) rfl ?_
  refine vl_det (det_extract rfl rfl) rfl ?_
  refine vl_det (det_assign rfl) rfl ?_
  refine vl_det (det_assign rfl) rfl ?_
  refine vl_end [(3, _)] ⟨rfl, trivial⟩ ?_
  refine then_next ?_
  refine vc_seq ?_
  refine vc_region ?_
  refine vl_det (det_move rfl) rfl ?_
  refine vl_det (det_assign rfl) rfl ?_
  refine vl_end [(2, _)] ⟨rfl, trivial⟩ ?_
  refine then_next ?_
  refine vc_ret ?_
  refine ret1 rfl rfl ?_
  exact ⟨rfl, rfl⟩
theorem pmeansN {B : Nat} {w0 : World} {F : List Ch} {A : Option Addr} {n c : Nat} {xs : List Value} {x : RecC} {t : Qt} (hb : Bor B w0 F 5 (.slice A n c) n xs) (hn : n = t.st.length) (hx : xs = stepsV t.st) (h1 : x.2.2.1.length ≤ 1000000) (h2 : x.2.2.2.length ≤ 1000000) (hN : t.isN) (hW : t.wf) (hl : t.st.length ≤ 1000) (hd : t.dep ≤ 64) :
    Does Try.prog B w0 21 [.agg (RecC.cells x).toArray, .slice A n c] F (fun r L => r = .tuple #[.bool (meansT x (termsL x.2.2.2 x.2.2.1) t), .int .i64 0] ∧ L = F) := by
  subst hn; subst hx
  exact pmeans_ok hb h1 h2 (checkQ_st hN hW hl hd) hl (depS_st hN hW) (parS_st hN hW) hN hW rfl
theorem means_any (B : Nat) (w0 : World) (x : RecC) (q : List StepC) (h1 : x.2.2.1.length ≤ 1000000) (h2 : x.2.2.2.length ≤ 1000000) : ∃ b : Bool, (∀ (F : List Ch) (A : Option Addr) (c : Nat), Bor B w0 F 5 (.slice A q.length c) q.length (stepsV q) → Does Try.prog B w0 21 [.agg (RecC.cells x).toArray, .slice A q.length c] F (fun r L => r = .tuple #[.bool b, .int .i64 (checkQ q)] ∧ L = F)) ∧
    (checkQ q = 0 → ∃ t : Qt, q.length ≤ 1000 ∧ t.isN ∧ t.wf ∧ t.st = q ∧ b = meansT x (termsL x.2.2.2 x.2.2.1) t ∧ depthQ q = ((t.dep : Int), 0)) := by
  by_cases hq : checkQ q = 0
  · obtain ⟨t, k1, k2, k3, k4, k5, k6, k7⟩ := check_ok hq
    refine ⟨meansT x (termsL x.2.2.2 x.2.2.1) t, fun F A c hb => ?_, fun _ => ⟨t, k1, k4, k5, k6, rfl, ?_⟩⟩
    · rw [hq]; exact pmeans_ok hb h1 h2 hq k1 k2 k3 k4 k5 k6
    · have := depthQ_st k4 k5 (by rw [k6]; exact k1)
      rwa [k6] at this
  · exact ⟨false, fun F A c hb => pmeans_bad hb hq, fun h => absurd h hq⟩
theorem pq_two {B : Nat} {w0 : World} {F : List Ch} {a b : Pq} (h1 : Bor B w0 F 5 (.slice a.1 a.2.2.length a.2.1) a.2.2.length (stepsV a.2.2)) (h2 : Bor B w0 F 5 (.slice b.1 b.2.2.length b.2.1) b.2.2.length (stepsV b.2.2)) : PqB B w0 F [a, b] := fun e he => by
  rcases List.mem_cons.1 he with h | h
  · rw [h]; exact h1
  · rw [List.mem_singleton.1 h]; exact h2
theorem two_q {op : Int} {a b : Pq} {t u : Qt} (ha : a.2.2 = t.st) (hb : b.2.2 = u.st) : allQ [a, b] ++ [(op, (([a, b] : List Pq).length : Int), [], 0, 0)] = (Qt.group op (.cons t (.cons u .nil))).st := by
  show (a.2.2 ++ (b.2.2 ++ [])) ++ _ = _
  rw [ha, hb]; rfl
theorem two_n {op : Int} {a b : Pq} {t u : Qt} (ha : a.2.2 = t.st) (hb : b.2.2 = u.st) : (allQ [a, b]).length + 1 = (Qt.group op (.cons t (.cons u .nil))).st.length := by
  rw [← two_q ha hb]; simp
theorem two_l {a b : Pq} : (allQ [a, b]).length = a.2.2.length + b.2.2.length := by
  show (a.2.2 ++ (b.2.2 ++ [])).length = _
  simp
theorem pqn {B : Nat} {w0 : World} {F : List Ch} {A : Option Addr} {n c : Nat} {q : List StepC} {xs : List Value} (hn : n = q.length) (hx : xs = stepsV q) (h : Bor B w0 F 5 (.slice A n c) n xs) : Bor B w0 F 5 (.slice A q.length c) q.length (stepsV q) := by
  subst hn; subst hx; exact h
theorem aanyN {B : Nat} {w0 : World} {F : List Ch} {A : Option Addr} {n c : Nat} {vs : List Value} (PL : List Pq) (hN : n = PL.length) (hv : vs = PL.map pqv) (hr : Bor B w0 F 1 (.slice A n c) n vs) (hP : PqB B w0 F PL) (hl : PL.length ≤ 1000000) (h2 : 2 ≤ PL.length) (h0 : 0 < (allQ PL).length) (hn : (allQ PL).length ≤ 1000000) :
    Does Try.prog B w0 27 [.slice A n c] F (fun r L => ∃ A' c', r = .slice A' ((allQ PL).length + 1) c' ∧ L = .own 38 5 A' ((allQ PL).length + 1) c' (stepsV (allQ PL ++ [(7, (PL.length : Int), [], 0, 0)])) :: F) := by
  subst hN; subst hv; exact aany_d hr hP hl h2 h0 hn
theorem abothN {B : Nat} {w0 : World} {F : List Ch} {A : Option Addr} {n c : Nat} {vs : List Value} (PL : List Pq) (hN : n = PL.length) (hv : vs = PL.map pqv) (hr : Bor B w0 F 1 (.slice A n c) n vs) (hP : PqB B w0 F PL) (hl : PL.length ≤ 1000000) (h2 : 2 ≤ PL.length) (h0 : 0 < (allQ PL).length) (hn : (allQ PL).length ≤ 1000000) :
    Does Try.prog B w0 26 [.slice A n c] F (fun r L => ∃ A' c', r = .slice A' ((allQ PL).length + 1) c' ∧ L = .own 38 5 A' ((allQ PL).length + 1) c' (stepsV (allQ PL ++ [(6, (PL.length : Int), [], 0, 0)])) :: F) := by
  subst hN; subst hv; exact aboth_d hr hP hl h2 h0 hn
theorem anotN {B : Nat} {w0 : World} {F : List Ch} {A : Option Addr} {n c : Nat} {xs : List Value} (q : List StepC) (hN : n = q.length) (hx : xs = stepsV q) (hb : Bor B w0 F 5 (.slice A n c) n xs) (h0 : 0 < q.length) (hn : q.length ≤ 1000000) :
    Does Try.prog B w0 25 [.slice A n c] F (fun r L => ∃ A' c', r = .slice A' (q.length + 1) c' ∧ L = .own 38 5 A' (q.length + 1) c' (stepsV (q ++ [(5, 0, [], 0, 0)])) :: F) := by
  subst hN; subst hx; exact anot_d hb h0 hn
theorem not_n {t : Qt} {p : List StepC} (h : t.st = p) : p.length + 1 = (Qt.not t).st.length ∧ stepsV (p ++ [(5, 0, [], 0, 0)]) = stepsV (Qt.not t).st := by
  rw [← h]; exact ⟨by simp [Qt.st], rfl⟩
theorem lw1 : ∀ a b : Bool, a = true → ¬ (a && b) = b → False := by decide
theorem lw2 : ∀ a b : Bool, a = (!true) → ¬ (a && b) = false → False := by decide
theorem lw3 : ∀ a b : Bool, a = false → ¬ (a || b) = b → False := by decide
theorem lw4 : ∀ a b : Bool, a = (!false) → ¬ (a || b) = true → False := by decide
theorem lw5 : ∀ a b : Bool, (!(!a || !b)) = (a && b) := by decide
theorem grp_two {op : Int} (h67 : op = 6 ∨ op = 7) {t u : Qt} (h1 : t.isN) (h2 : t.wf) (h3 : u.isN) (h4 : u.wf) : (Qt.group op (.cons t (.cons u .nil))).isN ∧ (Qt.group op (.cons t (.cons u .nil))).wf ∧ (Qt.group op (.cons t (.cons u .nil))).st = t.st ++ (u.st ++ []) ++ [(op, (2 : Int), [], 0, 0)] :=
  ⟨trivial, ⟨h67, by show 2 ≤ 2; omega, trivial, ⟨h1, h2, trivial, h3, h4, trivial, trivial⟩⟩, rfl⟩
theorem walk (w : World) (x : RecC) (hx : RecC.ok x) (v : Value) (p : List StepC) (hr : Rd w w.heap.size 5 v p.length (p.flatMap StepC.cells)) (ho : ∀ x ∈ p, StepC.ok x) (hm : p.length ≤ maxLen) (v2 : Value) (q : List StepC) (hr2 : Rd w w.heap.size 5 v2 q.length (q.flatMap StepC.cells)) (ho2 : ∀ x ∈ q, StepC.ok x) (hm2 : q.length ≤ maxLen) :
    Calls Try.prog 8 #[.agg (RecC.cells x).toArray, v, v2] w fun e w' => e = .returned (.bool true) ∧ Below w.heap.size w w' := by
  obtain ⟨A1, c1, rfl, _⟩ := hr.form
  obtain ⟨A2, c2, rfl, _⟩ := hr2.form
  have hbp : ∀ F, Bor w.heap.size w F 5 (.slice A1 p.length c1) p.length (stepsV p) := fun F => (Bor.in_ hr).mono (List.nil_sublist _)
  have hbq : ∀ F, Bor w.heap.size w F 5 (.slice A2 q.length c2) q.length (stepsV q) := fun F => (Bor.in_ hr2).mono (List.nil_sublist _)
  obtain ⟨_, _, hx3, hx4⟩ := hx
  simp only [maxLen] at hm hm2 hx3 hx4
  have hgp := fun F A c hb => @great29_d w.heap.size w F A c p x hb (by omega) (by omega)
  have hgq := fun F A c hb => @great29_d w.heap.size w F A c q x hb (by omega) (by omega)
  refine Does.law (args := [.agg (RecC.cells x).toArray, .slice A1 p.length c1, .slice A2 q.length c2]) ?_
  by_cases hG : 300 < x.2.2.2.length ∨ 300 < x.2.2.1.length
  · have e1 : decide (300 < x.2.2.2.length ∨ 300 < x.2.2.1.length ∨ 60 < p.length) = true := decide_eq_true (by omega)
    rw [e1] at hgp
    obtain ⟨tm, lv, src, txt⟩ := x
    clear hG e1
    refine fn_walk Try.func8 159 rfl rfl rfl [(0, .agg #[.int .u64 (tm : Int), .int .u8 (lv.toNat : Int), .string ⟨src.toArray⟩, .string ⟨txt.toArray⟩]), (1, .slice A1 p.length c1), (2, .slice A2 q.length c2)] ⟨⟨rfl, rfl⟩, ⟨rfl, rfl⟩, ⟨rfl, rfl⟩, trivial⟩ ?_
    refine vc_seq ?_
    refine vc_region ?_
    refine vl_eff (eff_box rfl rfl) rfl ?_
    rintro _ _ ⟨g3, rfl, rfl⟩
    refine vl_det (det_assign rfl) rfl ?_
    refine vl_end [(1, _), (2, _), (3, _)] ⟨rfl, rfl, rfl, trivial⟩ ?_
    refine then_next ?_
    refine vc_seq ?_
    refine vc_seq ?_
    refine vc_region ?_
    refine vl_call co9 rfl (alive_d) rfl ?_
    rintro _ _ ⟨rfl, hLL⟩
    obtain rfl := hLL.symm
    refine vl_det (det_not_t rfl) rfl ?_
    refine vl_end [(1, _), (2, _), (3, _), (24, _)] ⟨rfl, rfl, rfl, rfl, trivial⟩ ?_
    refine then_next ?_
    refine vc_cond_f rfl ?_
    refine vc_skip ?_
    refine then_next ?_
    refine vc_seq ?_
    refine vc_seq ?_
    refine vc_region ?_
    refine vl_det (det_load_whole 4 (by kernel_rfl) rfl (by repeat (first | exact .hd | apply Sel.tl)) (by first | rfl | (simp; omega) | (simp [*]; done))) rfl ?_
    refine vl_det (det_move rfl) rfl ?_
    refine vl_call co20 rfl (hgp _ _ _ (hbp _)) rfl ?_
    rintro _ _ ⟨rfl, hLL⟩
    obtain rfl := hLL.symm
    refine vl_det (det_move rfl) rfl ?_
    refine vl_guard_f rfl rfl rfl rfl ?_
    refine vl_guard_f rfl rfl rfl rfl ?_
    refine vl_guard_f rfl rfl rfl rfl ?_
    refine vl_det (det_pick_t rfl rfl) rfl ?_
    refine vl_end [(1, _), (2, _), (3, _), (32, _)] ⟨rfl, rfl, rfl, rfl, trivial⟩ ?_
    refine then_next ?_
    refine vc_cond_t rfl ?_
    refine vc_seq ?_
    refine vc_region ?_
    refine vl_det (det_assign rfl) rfl ?_
    refine vl_end [(6, _)] ⟨rfl, trivial⟩ ?_
    refine then_next ?_
    refine vc_ret ?_
    refine then_ret ?_
    refine ret1 rfl rfl ?_
    rfl
  · have hmp := means_any w.heap.size w x p (by omega) (by omega)
    have hmq := means_any w.heap.size w x q (by omega) (by omega)
    obtain ⟨a, hma, hta⟩ := hmp
    obtain ⟨b, hmb, htb⟩ := hmq
    have hdp := fun F A c hb => @depth29_d w.heap.size w F A c p hb
    have hdq := fun F A c hb => @depth29_d w.heap.size w F A c q hb
    have hmn := fun F A n c xs t hb hn hx => @pmeansN w.heap.size w F A n c xs x t hb hn hx (by omega) (by omega)
    obtain ⟨e1, he1⟩ : ∃ e, e = checkQ p := ⟨_, rfl⟩
    obtain ⟨e2, he2⟩ : ∃ e, e = checkQ q := ⟨_, rfl⟩
    rw [← he1] at hma hta
    rw [← he2] at hmb htb
    have hq1 : (300 < x.2.2.2.length ∨ 300 < x.2.2.1.length ∨ 60 < p.length) ↔ 60 < p.length := by omega
    have hq2 : (300 < x.2.2.2.length ∨ 300 < x.2.2.1.length ∨ 60 < q.length) ↔ 60 < q.length := by omega
    have hgp : ∀ F A c, Bor w.heap.size w F 5 (.slice A p.length c) p.length (stepsV p) → Does Try.prog w.heap.size w 20 [.agg (RecC.cells x).toArray, .slice A p.length c] F (fun r L => r = .bool (decide (60 < p.length)) ∧ L = F) := fun F A c hb => (great29_d x hb (by omega) (by omega)).mono fun r L h => ⟨by rw [h.1]; exact congrArg Value.bool (decide_eq_decide.2 hq1), h.2⟩
    have hgq : ∀ F A c, Bor w.heap.size w F 5 (.slice A q.length c) q.length (stepsV q) → Does Try.prog w.heap.size w 20 [.agg (RecC.cells x).toArray, .slice A q.length c] F (fun r L => r = .bool (decide (60 < q.length)) ∧ L = F) := fun F A c hb => (great29_d x hb (by omega) (by omega)).mono fun r L h => ⟨by rw [h.1]; exact congrArg Value.bool (decide_eq_decide.2 hq2), h.2⟩
    clear hq1 hq2
    obtain ⟨T, hT⟩ : ∃ T, T = termsL x.2.2.2 x.2.2.1 := ⟨_, rfl⟩
    simp only [← hT] at hmn hta htb
    obtain ⟨d1, hd1⟩ : ∃ d, d = depthQ p := ⟨_, rfl⟩
    obtain ⟨d2, hd2⟩ : ∃ d, d = depthQ q := ⟨_, rfl⟩
    rw [← hd1] at hdp hta
    rw [← hd2] at hdq htb
    obtain ⟨tm, lv, src, txt⟩ := x
    refine fn_walk Try.func8 159 rfl rfl rfl [(0, .agg #[.int .u64 (tm : Int), .int .u8 (lv.toNat : Int), .string ⟨src.toArray⟩, .string ⟨txt.toArray⟩]), (1, .slice A1 p.length c1), (2, .slice A2 q.length c2)] ⟨⟨rfl, rfl⟩, ⟨rfl, rfl⟩, ⟨rfl, rfl⟩, trivial⟩ ?_
    refine vc_seq ?_
    refine vc_region ?_
    refine vl_eff (eff_box rfl rfl) rfl ?_
    rintro _ _ ⟨g3, rfl, rfl⟩
    refine vl_det (det_assign rfl) rfl ?_
    refine vl_end [(1, _), (2, _), (3, _)] ⟨rfl, rfl, rfl, trivial⟩ ?_
    refine then_next ?_
    refine vc_seq ?_
    refine vc_seq ?_
    refine vc_region ?_
    refine vl_call co9 rfl (alive_d) rfl ?_
    rintro _ _ ⟨rfl, hLL⟩
    obtain rfl := hLL.symm
    refine vl_det (det_not_t rfl) rfl ?_
    refine vl_end [(1, _), (2, _), (3, _), (24, _)] ⟨rfl, rfl, rfl, rfl, trivial⟩ ?_
    refine then_next ?_
    refine vc_cond_f rfl ?_
    refine vc_skip ?_
    refine then_next ?_
    refine vc_seq ?_
    refine vc_seq ?_
    refine vc_region ?_
    refine vl_det (det_load_whole 4 (by kernel_rfl) rfl (by repeat (first | exact .hd | apply Sel.tl)) (by first | rfl | (simp; omega) | (simp [*]; done))) rfl ?_
    refine vl_det (det_move rfl) rfl ?_
    refine vl_call co20 rfl (hgp _ _ _ (hbp _)) rfl ?_
    rintro _ _ ⟨rfl, hLL⟩
    obtain rfl := hLL.symm
    refine vl_det (det_move rfl) rfl ?_
    refine vl_guardn rfl rfl rfl (fun h28 => ?_) (fun h28 => ?_)
    · skip
      refine vl_det (det_load_whole 4 (by kernel_rfl) rfl (by repeat (first | exact .hd | apply Sel.tl)) (by first | rfl | (simp; omega) | (simp [*]; done))) rfl ?_
      refine vl_guard_t rfl rfl ?_
      refine vl_det (det_move rfl) rfl ?_
      refine vl_guard_t rfl rfl ?_
      refine vl_call co20 rfl (hgq _ _ _ (hbq _)) rfl ?_
      rintro _ _ ⟨rfl, hLL⟩
      obtain rfl := hLL.symm
      refine vl_det (det_pick_f rfl rfl) rfl ?_
      refine vl_end [(1, _), (2, _), (3, _), (32, _)] ⟨rfl, rfl, rfl, rfl, trivial⟩ ?_
      refine then_next ?_
      refine vc_decideU rfl (fun h32 => ?_) (fun h32 => ?_)
      · skip
        refine vc_seq ?_
        refine vc_region ?_
        refine vl_det (det_assign rfl) rfl ?_
        refine vl_end [(6, _)] ⟨rfl, trivial⟩ ?_
        refine then_next ?_
        refine vc_ret ?_
        refine then_ret ?_
        refine ret1 rfl rfl ?_
        first | rfl | exact congrArg Value.bool (decide_eq_true (lw5 a b))
      · skip
        refine vc_skip ?_
        refine then_next ?_
        refine vc_seq ?_
        refine vc_region ?_
        refine vl_det (det_load_whole 4 (by kernel_rfl) rfl (by repeat (first | exact .hd | apply Sel.tl)) (by first | rfl | (simp; omega) | (simp [*]; done))) rfl ?_
        refine vl_det (det_move rfl) rfl ?_
        refine vl_call co21 rfl (hma _ _ _ (hbp _)) rfl ?_
        rintro _ _ ⟨rfl, hLL⟩
        obtain rfl := hLL.symm
        refine vl_det (det_move rfl) rfl ?_
        refine vl_det (det_extract rfl rfl) rfl ?_
        refine vl_det (det_extract rfl rfl) rfl ?_
        refine vl_det (det_assign rfl) rfl ?_
        refine vl_det (det_assign rfl) rfl ?_
        refine vl_end [(1, _), (2, _), (3, _), (7, _), (8, _)] ⟨rfl, rfl, rfl, rfl, rfl, trivial⟩ ?_
        refine then_next ?_
        refine vc_seq ?_
        refine vc_region ?_
        refine vl_det (det_load_whole 4 (by kernel_rfl) rfl (by repeat (first | exact .hd | apply Sel.tl)) (by first | rfl | (simp; omega) | (simp [*]; done))) rfl ?_
        refine vl_det (det_move rfl) rfl ?_
        refine vl_call co21 rfl (hmb _ _ _ (hbq _)) rfl ?_
        rintro _ _ ⟨rfl, hLL⟩
        obtain rfl := hLL.symm
        refine vl_det (det_move rfl) rfl ?_
        refine vl_det (det_extract rfl rfl) rfl ?_
        refine vl_det (det_extract rfl rfl) rfl ?_
        refine vl_det (det_assign rfl) rfl ?_
        refine vl_det (det_assign rfl) rfl ?_
        refine vl_end [(1, _), (2, _), (3, _), (7, _), (8, _), (9, _), (10, _)] ⟨rfl, rfl, rfl, rfl, rfl, rfl, rfl, trivial⟩ ?_
        refine then_next ?_
        refine vc_seq ?_
        refine vc_region ?_
        refine vl_det (det_move rfl) rfl ?_
        refine vl_call co24 rfl (hdp _ _ _ (hbp _)) rfl ?_
        rintro _ _ ⟨rfl, hLL⟩
        obtain rfl := hLL.symm
        refine vl_det (det_move rfl) rfl ?_
        refine vl_call co24 rfl (hdq _ _ _ (hbq _)) rfl ?_
        rintro _ _ ⟨rfl, hLL⟩
        obtain rfl := hLL.symm
        refine vl_det (det_assign rfl) rfl ?_
        refine vl_det (det_assign rfl) rfl ?_
        refine vl_end [(1, _), (2, _), (3, _), (7, _), (8, _), (9, _), (10, _), (11, _), (12, _)] ⟨rfl, rfl, rfl, rfl, rfl, rfl, rfl, rfl, rfl, trivial⟩ ?_
        refine then_next ?_
        refine vc_seq ?_
        refine vc_seq ?_
        refine vc_region ?_
        refine vl_det (det_move rfl) rfl ?_
        refine vl_det (det_neq rfl rfl) rfl ?_
        refine vl_det (det_move rfl) rfl ?_
        refine vl_guardn rfl rfl rfl (fun h51 => ?_) (fun h51 => ?_)
        · skip
          refine vl_det (det_move rfl) rfl ?_
          refine vl_guard_t rfl rfl ?_
          refine vl_det (det_neq rfl rfl) rfl ?_
          refine vl_det (det_pick_f rfl rfl) rfl ?_
          refine vl_det (det_move rfl) rfl ?_
          refine vl_guardn rfl rfl rfl (fun h55 => ?_) (fun h55 => ?_)
          · skip
            refine vl_det (det_move rfl) rfl ?_
            refine vl_guard_t rfl rfl ?_
            refine vl_det (det_gtr rfl rfl) rfl ?_
            refine vl_det (det_pick_f rfl rfl) rfl ?_
            refine vl_det (det_move rfl) rfl ?_
            refine vl_guardn rfl rfl rfl (fun h59 => ?_) (fun h59 => ?_)
            · skip
              refine vl_det (det_move rfl) rfl ?_
              refine vl_guard_t rfl rfl ?_
              refine vl_det (det_gtr rfl rfl) rfl ?_
              refine vl_det (det_pick_f rfl rfl) rfl ?_
              refine vl_end [(1, _), (2, _), (3, _), (7, _), (9, _), (62, _)] ⟨rfl, rfl, rfl, rfl, rfl, rfl, trivial⟩ ?_
              refine then_next ?_
              refine vc_decideU rfl (fun h62 => ?_) (fun h62 => ?_)
              · skip
                refine vc_seq ?_
                refine vc_region ?_
                refine vl_det (det_assign rfl) rfl ?_
                refine vl_end [(6, _)] ⟨rfl, trivial⟩ ?_
                refine then_next ?_
                refine vc_ret ?_
                refine then_ret ?_
                refine ret1 rfl rfl ?_
                first | rfl | exact congrArg Value.bool (decide_eq_true (lw5 a b))
              · skip
                obtain ⟨t1, i1, i2, i3, i4, i5, i6⟩ := hta (Classical.not_not.1 h51)
                obtain ⟨t2, j1, j2, j3, j4, j5, j6⟩ := htb (Classical.not_not.1 h55)
                have l1 : t1.dep ≤ 60 := by rw [i6] at h59; simp only at h59; omega
                have l2 : t2.dep ≤ 60 := by rw [j6] at h62; simp only at h62; omega
                have lp : p.length ≤ 60 := by omega
                have lq : q.length ≤ 60 := by omega
                have p0 := st_pos i2
                have q0 := st_pos j2
                rw [i4] at p0
                rw [j4] at q0
                obtain ⟨n1, n2⟩ := not_n i4
                obtain ⟨o1, o2⟩ := not_n j4
                have hM1 := fun F A n c xs hb hn hx => hmn F A n c xs (.not t1) hb hn hx trivial ⟨i2, i3⟩ (by omega) (by show t1.dep + 1 ≤ 64; omega)
                rw [show meansT (tm, lv, src, txt) T (.not t1) = !a by rw [i5]; rfl] at hM1
                obtain ⟨k1, k2, k3⟩ := grp_two (op := 6) (.inl rfl) i2 i3 j2 j3
                have k4 := congrArg List.length k3
                rw [i4, j4] at k4
                simp at k4
                have hM2 := fun F A n c xs hb hn hx => hmn F A n c xs (.group 6 (.cons t1 (.cons t2 .nil))) hb hn hx k1 k2 (by omega) (by simp [Qt.dep]; omega)
                rw [show meansT (tm, lv, src, txt) T (.group 6 (.cons t1 (.cons t2 .nil))) = (a && b) by rw [i5, j5]; simp [meansT, mm]] at hM2
                obtain ⟨k1, k2, k3⟩ := grp_two (op := 7) (.inr rfl) i2 i3 j2 j3
                have k4 := congrArg List.length k3
                rw [i4, j4] at k4
                simp at k4
                have hM3 := fun F A n c xs hb hn hx => hmn F A n c xs (.group 7 (.cons t1 (.cons t2 .nil))) hb hn hx k1 k2 (by omega) (by simp [Qt.dep]; omega)
                rw [show meansT (tm, lv, src, txt) T (.group 7 (.cons t1 (.cons t2 .nil))) = (a || b) by rw [i5, j5]; simp [meansT, mm]] at hM3
                obtain ⟨k1, k2, k3⟩ := grp_two (op := 6) (.inl rfl) j2 j3 i2 i3
                have k4 := congrArg List.length k3
                rw [i4, j4] at k4
                simp at k4
                have hM4 := fun F A n c xs hb hn hx => hmn F A n c xs (.group 6 (.cons t2 (.cons t1 .nil))) hb hn hx k1 k2 (by omega) (by simp [Qt.dep]; omega)
                rw [show meansT (tm, lv, src, txt) T (.group 6 (.cons t2 (.cons t1 .nil))) = (b && a) by rw [i5, j5]; simp [meansT, mm]] at hM4
                obtain ⟨k1, k2, k3⟩ := grp_two (op := 7) (.inr rfl) (show (Qt.not t1).isN from trivial) (show (Qt.not t1).wf from ⟨i2, i3⟩) (show (Qt.not t2).isN from trivial) (show (Qt.not t2).wf from ⟨j2, j3⟩)
                have k5 := congrArg List.length k3
                simp only [List.length_append, List.length_singleton, List.length_nil] at k5
                rw [← n1, ← o1] at k5
                obtain ⟨m1, m2⟩ := not_n (t := .group 7 (.cons (.not t1) (.cons (.not t2) .nil))) rfl
                have hM5 := fun F A n c xs hb hn hx => hmn F A n c xs (.not (.group 7 (.cons (.not t1) (.cons (.not t2) .nil)))) hb hn hx trivial ⟨k1, k2⟩ (by omega) (by simp [Qt.dep]; omega)
                rw [show meansT (tm, lv, src, txt) T (.not (.group 7 (.cons (.not t1) (.cons (.not t2) .nil)))) = !(!a || !b) by rw [i5, j5]; simp [meansT, mm]] at hM5
                clear hma hmb hta htb hdp hdq hmn
                refine vc_skip ?_
                refine then_next ?_
                refine vc_seq ?_
                refine vh_region (S := .blk g3 45 [.int .u64 (tm : Int), .int .u8 (lv.toNat : Int), .string ⟨src.toArray⟩, .string ⟨txt.toArray⟩] :: []) (by kernel_rfl) (by repeat (first | exact List.Sublist.refl _ | exact List.nil_sublist _ | exact List.sublist_append_right _ _ | apply List.Sublist.cons_cons | apply List.Sublist.cons)) ?_
                refine vh_take 0 rfl (by kernel_rfl) (by kernel_rfl) (by kernel_rfl) (det_load_whole 4 (by kernel_rfl) rfl (by repeat (first | exact .hd | apply Sel.tl)) (by first | rfl | (simp; omega) | (simp [*]; done))) rfl ?_
                refine vh_take 1 rfl (by kernel_rfl) (by kernel_rfl) (by kernel_rfl) (det_move rfl) rfl ?_
                refine vh_one 2 (by kernel_rfl) ?_
                refine st_call rfl .no co25 rfl (anot_d (hbp _) (by omega) (by omega)) rfl (by rintro _ _ ⟨A66, c66, rfl, rfl⟩; exact (by repeat (first | exact List.Sublist.refl _ | exact List.nil_sublist _ | exact List.sublist_append_right _ _ | apply List.Sublist.cons_cons | apply List.Sublist.cons))) ?_
                rintro _ _ ⟨A66, c66, rfl, hLL⟩
                obtain rfl := hLL.symm
                refine vh_one 3 (by kernel_rfl) ?_
                refine st_call rfl .no co21 rfl (hM1 _ _ _ _ _ (Bor.own (.head _)) n1 n2) rfl (by rintro _ _ ⟨rfl, rfl⟩; exact (by repeat (first | exact List.Sublist.refl _ | exact List.nil_sublist _ | exact List.sublist_append_right _ _ | apply List.Sublist.cons_cons | apply List.Sublist.cons))) ?_
                rintro _ _ ⟨rfl, hLL⟩
                obtain rfl := hLL.symm
                refine vh_take 4 rfl (by kernel_rfl) (by kernel_rfl) (by kernel_rfl) (det_move rfl) rfl ?_
                refine vh_take 5 rfl (by kernel_rfl) (by kernel_rfl) (by kernel_rfl) (det_extract rfl rfl) rfl ?_
                refine vh_take 6 rfl (by kernel_rfl) (by kernel_rfl) (by kernel_rfl) (det_extract rfl rfl) rfl ?_
                refine vh_take 7 rfl (by kernel_rfl) (by kernel_rfl) (by kernel_rfl) (det_assign rfl) rfl ?_
                refine vh_take 8 rfl (by kernel_rfl) (by kernel_rfl) (by kernel_rfl) (det_assign rfl) rfl ?_
                refine vh_done [(1, _), (2, _), (3, _), (7, _), (9, _), (13, _), (14, _)] ⟨rfl, rfl, rfl, rfl, rfl, rfl, rfl, trivial⟩ (by kernel_rfl) ?_
                refine then_next ?_
                refine vc_seq ?_
                refine vc_wk (L' := [.blk g3 45 [.int .u64 (tm : Int), .int .u8 (lv.toNat : Int), .string ⟨src.toArray⟩, .string ⟨txt.toArray⟩]]) (.skip (.refl _)) ?_
                refine vh_region (S := .blk g3 45 [.int .u64 (tm : Int), .int .u8 (lv.toNat : Int), .string ⟨src.toArray⟩, .string ⟨txt.toArray⟩] :: []) (by kernel_rfl) (by repeat (first | exact List.Sublist.refl _ | exact List.nil_sublist _ | exact List.sublist_append_right _ _ | apply List.Sublist.cons_cons | apply List.Sublist.cons)) ?_
                refine vh_take 0 rfl (by kernel_rfl) (by kernel_rfl) (by kernel_rfl) (det_load_whole 4 (by kernel_rfl) rfl (by repeat (first | exact .hd | apply Sel.tl)) (by first | rfl | (simp; omega) | (simp [*]; done))) rfl ?_
                refine vh_take 1 rfl (by kernel_rfl) (by kernel_rfl) (by kernel_rfl) (det_move rfl) rfl ?_
                refine vh_take 2 rfl (by kernel_rfl) (by kernel_rfl) (by kernel_rfl) (det_move rfl) rfl ?_
                refine vh_one 3 (by kernel_rfl) ?_
                refine st_eff rfl .no (eff_build_lit slT31 [_, _] rfl rfl (by first | exact bv_one _ | exact strs_one _ | exact ints_one _ _ | (simp; done) | (simp [Value.oneCell']; done) | assumption) (by omega) (by omega)) rfl (by rintro _ _ ⟨A74, rfl, rfl⟩; exact (by repeat (first | exact List.Sublist.refl _ | exact List.nil_sublist _ | exact List.sublist_append_right _ _ | apply List.Sublist.cons_cons | apply List.Sublist.cons))) ?_
                rintro _ _ ⟨A74, rfl, rfl⟩
                refine vh_one 4 (by kernel_rfl) ?_
                refine st_call rfl .no co26 rfl (abothN [(A1, c1, p), (A2, c2, q)] rfl rfl (Bor.own (.head _)) (pq_two (hbp _) (hbq _)) (by simp) (by simp) (by rw [two_l]; simp only; omega) (by rw [two_l]; simp only; omega)) rfl (by rintro _ _ ⟨A75, c75, rfl, rfl⟩; exact (by repeat (first | exact List.Sublist.refl _ | exact List.nil_sublist _ | exact List.sublist_append_right _ _ | apply List.Sublist.cons_cons | apply List.Sublist.cons))) ?_
                rintro _ _ ⟨A75, c75, rfl, hLL⟩
                obtain rfl := hLL.symm
                refine vh_one 5 (by kernel_rfl) ?_
                refine st_call rfl .no co21 rfl (hM2 _ _ _ _ _ (Bor.own (.head _)) (two_n i4.symm j4.symm) (congrArg stepsV (two_q i4.symm j4.symm))) rfl (by rintro _ _ ⟨rfl, rfl⟩; exact (by repeat (first | exact List.Sublist.refl _ | exact List.nil_sublist _ | exact List.sublist_append_right _ _ | apply List.Sublist.cons_cons | apply List.Sublist.cons))) ?_
                rintro _ _ ⟨rfl, hLL⟩
                obtain rfl := hLL.symm
                refine vh_take 6 rfl (by kernel_rfl) (by kernel_rfl) (by kernel_rfl) (det_move rfl) rfl ?_
                refine vh_take 7 rfl (by kernel_rfl) (by kernel_rfl) (by kernel_rfl) (det_extract rfl rfl) rfl ?_
                refine vh_take 8 rfl (by kernel_rfl) (by kernel_rfl) (by kernel_rfl) (det_extract rfl rfl) rfl ?_
                refine vh_take 9 rfl (by kernel_rfl) (by kernel_rfl) (by kernel_rfl) (det_assign rfl) rfl ?_
                refine vh_take 10 rfl (by kernel_rfl) (by kernel_rfl) (by kernel_rfl) (det_assign rfl) rfl ?_
                refine vh_done [(1, _), (2, _), (3, _), (7, _), (9, _), (13, _), (14, _), (15, _), (16, _)] ⟨rfl, rfl, rfl, rfl, rfl, rfl, rfl, rfl, rfl, trivial⟩ (by kernel_rfl) ?_
                refine then_next ?_
                refine vc_seq ?_
                refine vc_wk (L' := [.blk g3 45 [.int .u64 (tm : Int), .int .u8 (lv.toNat : Int), .string ⟨src.toArray⟩, .string ⟨txt.toArray⟩]]) (.skip (.skip (.refl _))) ?_
                refine vh_region (S := .blk g3 45 [.int .u64 (tm : Int), .int .u8 (lv.toNat : Int), .string ⟨src.toArray⟩, .string ⟨txt.toArray⟩] :: []) (by kernel_rfl) (by repeat (first | exact List.Sublist.refl _ | exact List.nil_sublist _ | exact List.sublist_append_right _ _ | apply List.Sublist.cons_cons | apply List.Sublist.cons)) ?_
                refine vh_take 0 rfl (by kernel_rfl) (by kernel_rfl) (by kernel_rfl) (det_load_whole 4 (by kernel_rfl) rfl (by repeat (first | exact .hd | apply Sel.tl)) (by first | rfl | (simp; omega) | (simp [*]; done))) rfl ?_
                refine vh_take 1 rfl (by kernel_rfl) (by kernel_rfl) (by kernel_rfl) (det_move rfl) rfl ?_
                refine vh_take 2 rfl (by kernel_rfl) (by kernel_rfl) (by kernel_rfl) (det_move rfl) rfl ?_
                refine vh_one 3 (by kernel_rfl) ?_
                refine st_eff rfl .no (eff_build_lit slT31 [_, _] rfl rfl (by first | exact bv_one _ | exact strs_one _ | exact ints_one _ _ | (simp; done) | (simp [Value.oneCell']; done) | assumption) (by omega) (by omega)) rfl (by rintro _ _ ⟨A83, rfl, rfl⟩; exact (by repeat (first | exact List.Sublist.refl _ | exact List.nil_sublist _ | exact List.sublist_append_right _ _ | apply List.Sublist.cons_cons | apply List.Sublist.cons))) ?_
                rintro _ _ ⟨A83, rfl, rfl⟩
                refine vh_one 4 (by kernel_rfl) ?_
                refine st_call rfl .no co27 rfl (aanyN [(A1, c1, p), (A2, c2, q)] rfl rfl (Bor.own (.head _)) (pq_two (hbp _) (hbq _)) (by simp) (by simp) (by rw [two_l]; simp only; omega) (by rw [two_l]; simp only; omega)) rfl (by rintro _ _ ⟨A84, c84, rfl, rfl⟩; exact (by repeat (first | exact List.Sublist.refl _ | exact List.nil_sublist _ | exact List.sublist_append_right _ _ | apply List.Sublist.cons_cons | apply List.Sublist.cons))) ?_
                rintro _ _ ⟨A84, c84, rfl, hLL⟩
                obtain rfl := hLL.symm
                refine vh_one 5 (by kernel_rfl) ?_
                refine st_call rfl .no co21 rfl (hM3 _ _ _ _ _ (Bor.own (.head _)) (two_n i4.symm j4.symm) (congrArg stepsV (two_q i4.symm j4.symm))) rfl (by rintro _ _ ⟨rfl, rfl⟩; exact (by repeat (first | exact List.Sublist.refl _ | exact List.nil_sublist _ | exact List.sublist_append_right _ _ | apply List.Sublist.cons_cons | apply List.Sublist.cons))) ?_
                rintro _ _ ⟨rfl, hLL⟩
                obtain rfl := hLL.symm
                refine vh_take 6 rfl (by kernel_rfl) (by kernel_rfl) (by kernel_rfl) (det_move rfl) rfl ?_
                refine vh_take 7 rfl (by kernel_rfl) (by kernel_rfl) (by kernel_rfl) (det_extract rfl rfl) rfl ?_
                refine vh_take 8 rfl (by kernel_rfl) (by kernel_rfl) (by kernel_rfl) (det_extract rfl rfl) rfl ?_
                refine vh_take 9 rfl (by kernel_rfl) (by kernel_rfl) (by kernel_rfl) (det_assign rfl) rfl ?_
                refine vh_take 10 rfl (by kernel_rfl) (by kernel_rfl) (by kernel_rfl) (det_assign rfl) rfl ?_
                refine vh_done [(1, _), (2, _), (3, _), (7, _), (9, _), (13, _), (14, _), (15, _), (16, _), (17, _), (18, _)] ⟨rfl, rfl, rfl, rfl, rfl, rfl, rfl, rfl, rfl, rfl, rfl, trivial⟩ (by kernel_rfl) ?_
                refine then_next ?_
                refine vc_seq ?_
                refine vc_wk (L' := [.blk g3 45 [.int .u64 (tm : Int), .int .u8 (lv.toNat : Int), .string ⟨src.toArray⟩, .string ⟨txt.toArray⟩]]) (.skip (.skip (.refl _))) ?_
                refine vh_region (S := .blk g3 45 [.int .u64 (tm : Int), .int .u8 (lv.toNat : Int), .string ⟨src.toArray⟩, .string ⟨txt.toArray⟩] :: []) (by kernel_rfl) (by repeat (first | exact List.Sublist.refl _ | exact List.nil_sublist _ | exact List.sublist_append_right _ _ | apply List.Sublist.cons_cons | apply List.Sublist.cons)) ?_
                refine vh_take 0 rfl (by kernel_rfl) (by kernel_rfl) (by kernel_rfl) (det_load_whole 4 (by kernel_rfl) rfl (by repeat (first | exact .hd | apply Sel.tl)) (by first | rfl | (simp; omega) | (simp [*]; done))) rfl ?_
                refine vh_take 1 rfl (by kernel_rfl) (by kernel_rfl) (by kernel_rfl) (det_move rfl) rfl ?_
                refine vh_take 2 rfl (by kernel_rfl) (by kernel_rfl) (by kernel_rfl) (det_move rfl) rfl ?_
                refine vh_one 3 (by kernel_rfl) ?_
                refine st_eff rfl .no (eff_build_lit slT31 [_, _] rfl rfl (by first | exact bv_one _ | exact strs_one _ | exact ints_one _ _ | (simp; done) | (simp [Value.oneCell']; done) | assumption) (by omega) (by omega)) rfl (by rintro _ _ ⟨A92, rfl, rfl⟩; exact (by repeat (first | exact List.Sublist.refl _ | exact List.nil_sublist _ | exact List.sublist_append_right _ _ | apply List.Sublist.cons_cons | apply List.Sublist.cons))) ?_
                rintro _ _ ⟨A92, rfl, rfl⟩
                refine vh_one 4 (by kernel_rfl) ?_
                refine st_call rfl .no co26 rfl (abothN [(A2, c2, q), (A1, c1, p)] rfl rfl (Bor.own (.head _)) (pq_two (hbq _) (hbp _)) (by simp) (by simp) (by rw [two_l]; simp only; omega) (by rw [two_l]; simp only; omega)) rfl (by rintro _ _ ⟨A93, c93, rfl, rfl⟩; exact (by repeat (first | exact List.Sublist.refl _ | exact List.nil_sublist _ | exact List.sublist_append_right _ _ | apply List.Sublist.cons_cons | apply List.Sublist.cons))) ?_
                rintro _ _ ⟨A93, c93, rfl, hLL⟩
                obtain rfl := hLL.symm
                refine vh_one 5 (by kernel_rfl) ?_
                refine st_call rfl .no co21 rfl (hM4 _ _ _ _ _ (Bor.own (.head _)) (two_n j4.symm i4.symm) (congrArg stepsV (two_q j4.symm i4.symm))) rfl (by rintro _ _ ⟨rfl, rfl⟩; exact (by repeat (first | exact List.Sublist.refl _ | exact List.nil_sublist _ | exact List.sublist_append_right _ _ | apply List.Sublist.cons_cons | apply List.Sublist.cons))) ?_
                rintro _ _ ⟨rfl, hLL⟩
                obtain rfl := hLL.symm
                refine vh_take 6 rfl (by kernel_rfl) (by kernel_rfl) (by kernel_rfl) (det_move rfl) rfl ?_
                refine vh_take 7 rfl (by kernel_rfl) (by kernel_rfl) (by kernel_rfl) (det_extract rfl rfl) rfl ?_
                refine vh_take 8 rfl (by kernel_rfl) (by kernel_rfl) (by kernel_rfl) (det_extract rfl rfl) rfl ?_
                refine vh_take 9 rfl (by kernel_rfl) (by kernel_rfl) (by kernel_rfl) (det_assign rfl) rfl ?_
                refine vh_take 10 rfl (by kernel_rfl) (by kernel_rfl) (by kernel_rfl) (det_assign rfl) rfl ?_
                refine vh_done [(1, _), (2, _), (3, _), (7, _), (9, _), (13, _), (14, _), (15, _), (16, _), (17, _), (18, _), (19, _), (20, _)] ⟨rfl, rfl, rfl, rfl, rfl, rfl, rfl, rfl, rfl, rfl, rfl, rfl, rfl, trivial⟩ (by kernel_rfl) ?_
                refine then_next ?_
                refine vc_seq ?_
                refine vc_wk (L' := [.blk g3 45 [.int .u64 (tm : Int), .int .u8 (lv.toNat : Int), .string ⟨src.toArray⟩, .string ⟨txt.toArray⟩]]) (.skip (.skip (.refl _))) ?_
                refine vh_region (S := .blk g3 45 [.int .u64 (tm : Int), .int .u8 (lv.toNat : Int), .string ⟨src.toArray⟩, .string ⟨txt.toArray⟩] :: []) (by kernel_rfl) (by repeat (first | exact List.Sublist.refl _ | exact List.nil_sublist _ | exact List.sublist_append_right _ _ | apply List.Sublist.cons_cons | apply List.Sublist.cons)) ?_
                refine vh_take 0 rfl (by kernel_rfl) (by kernel_rfl) (by kernel_rfl) (det_load_whole 4 (by kernel_rfl) rfl (by repeat (first | exact .hd | apply Sel.tl)) (by first | rfl | (simp; omega) | (simp [*]; done))) rfl ?_
                refine vh_take 1 rfl (by kernel_rfl) (by kernel_rfl) (by kernel_rfl) (det_move rfl) rfl ?_
                refine vh_take 3 rfl (by kernel_rfl) (by kernel_rfl) (by kernel_rfl) (det_move rfl) rfl ?_
                refine vh_one 2 (by kernel_rfl) ?_
                refine st_call rfl .no co25 rfl (anot_d (hbp _) (by omega) (by omega)) rfl (by rintro _ _ ⟨A100, c100, rfl, rfl⟩; exact (by repeat (first | exact List.Sublist.refl _ | exact List.nil_sublist _ | exact List.sublist_append_right _ _ | apply List.Sublist.cons_cons | apply List.Sublist.cons))) ?_
                rintro _ _ ⟨A100, c100, rfl, hLL⟩
                obtain rfl := hLL.symm
                refine vh_one 4 (by kernel_rfl) ?_
                refine st_call rfl .no co25 rfl (anot_d (hbq _) (by omega) (by omega)) rfl (by rintro _ _ ⟨A102, c102, rfl, rfl⟩; exact (by repeat (first | exact List.Sublist.refl _ | exact List.nil_sublist _ | exact List.sublist_append_right _ _ | apply List.Sublist.cons_cons | apply List.Sublist.cons))) ?_
                rintro _ _ ⟨A102, c102, rfl, hLL⟩
                obtain rfl := hLL.symm
                refine vh_one 5 (by kernel_rfl) ?_
                refine st_eff rfl .no (eff_build_lit slT31 [_, _] rfl rfl (by first | exact bv_one _ | exact strs_one _ | exact ints_one _ _ | (simp; done) | (simp [Value.oneCell']; done) | assumption) (by omega) (by omega)) rfl (by rintro _ _ ⟨A103, rfl, rfl⟩; exact (by repeat (first | exact List.Sublist.refl _ | exact List.nil_sublist _ | exact List.sublist_append_right _ _ | apply List.Sublist.cons_cons | apply List.Sublist.cons))) ?_
                rintro _ _ ⟨A103, rfl, rfl⟩
                refine vh_one 6 (by kernel_rfl) ?_
                refine st_call rfl .no co27 rfl (aanyN [(A100, c100, p ++ [(5, 0, [], 0, 0)]), (A102, c102, q ++ [(5, 0, [], 0, 0)])] rfl (by simp [pqv]) (Bor.own (.head _)) (pq_two (pqn (n := p.length + 1) (by simp) rfl (Bor.own (by repeat (first | exact List.Mem.head _ | apply List.Mem.tail)))) (pqn (n := q.length + 1) (by simp) rfl (Bor.own (by repeat (first | exact List.Mem.head _ | apply List.Mem.tail))))) (by simp) (by simp) (by rw [two_l]; simp; omega) (by rw [two_l]; simp; omega)) rfl (by rintro _ _ ⟨A104, c104, rfl, rfl⟩; exact (by repeat (first | exact List.Sublist.refl _ | exact List.nil_sublist _ | exact List.sublist_append_right _ _ | apply List.Sublist.cons_cons | apply List.Sublist.cons))) ?_
                rintro _ _ ⟨A104, c104, rfl, hLL⟩
                obtain rfl := hLL.symm
                refine vh_one 7 (by kernel_rfl) ?_
                refine st_call rfl .no co25 rfl (anotN (Qt.group 7 (.cons (.not t1) (.cons (.not t2) .nil))).st (two_n (by rw [← i4]; rfl) (by rw [← j4]; rfl)) (congrArg stepsV (two_q (by rw [← i4]; rfl) (by rw [← j4]; rfl))) (Bor.own (.head _)) (by omega) (by omega)) rfl (by rintro _ _ ⟨A105, c105, rfl, rfl⟩; exact (by repeat (first | exact List.Sublist.refl _ | exact List.nil_sublist _ | exact List.sublist_append_right _ _ | apply List.Sublist.cons_cons | apply List.Sublist.cons))) ?_
                rintro _ _ ⟨A105, c105, rfl, hLL⟩
                obtain rfl := hLL.symm
                refine vh_one 8 (by kernel_rfl) ?_
                refine st_call rfl .no co21 rfl (hM5 _ _ _ _ _ (Bor.own (.head _)) m1 m2) rfl (by rintro _ _ ⟨rfl, rfl⟩; exact (by repeat (first | exact List.Sublist.refl _ | exact List.nil_sublist _ | exact List.sublist_append_right _ _ | apply List.Sublist.cons_cons | apply List.Sublist.cons))) ?_
                rintro _ _ ⟨rfl, hLL⟩
                obtain rfl := hLL.symm
                refine vh_take 9 rfl (by kernel_rfl) (by kernel_rfl) (by kernel_rfl) (det_move rfl) rfl ?_
                refine vh_take 10 rfl (by kernel_rfl) (by kernel_rfl) (by kernel_rfl) (det_extract rfl rfl) rfl ?_
                refine vh_take 11 rfl (by kernel_rfl) (by kernel_rfl) (by kernel_rfl) (det_extract rfl rfl) rfl ?_
                refine vh_take 12 rfl (by kernel_rfl) (by kernel_rfl) (by kernel_rfl) (det_assign rfl) rfl ?_
                refine vh_take 13 rfl (by kernel_rfl) (by kernel_rfl) (by kernel_rfl) (det_assign rfl) rfl ?_
                refine vh_done [(7, _), (9, _), (13, _), (14, _), (15, _), (16, _), (17, _), (18, _), (19, _), (20, _), (21, _), (22, _)] ⟨rfl, rfl, rfl, rfl, rfl, rfl, rfl, rfl, rfl, rfl, rfl, rfl, trivial⟩ (by kernel_rfl) ?_
                refine then_next ?_
                refine vc_seq ?_
                clear hM1 hM2 hM3 hM4 hM5 hgp hgq hbp hbq hr hr2 ho ho2
                refine vc_region ?_
                refine vl_det (det_move rfl) rfl ?_
                refine vl_det (det_eql rfl rfl) rfl ?_
                refine vl_det (det_move rfl) rfl ?_
                refine vl_guardp rfl rfl rfl (fun h111 => ?_) (fun h111 => ?_)
                · skip
                  refine vl_det (det_move rfl) rfl ?_
                  refine vl_guard_t rfl rfl ?_
                  refine vl_det (det_eql rfl rfl) rfl ?_
                  refine vl_det (det_pick_t rfl rfl) rfl ?_
                  refine vl_det (det_move rfl) rfl ?_
                  refine vl_guardp rfl rfl rfl (fun h115 => ?_) (fun h115 => ?_)
                  · skip
                    refine vl_det (det_move rfl) rfl ?_
                    refine vl_guard_t rfl rfl ?_
                    refine vl_det (det_eql rfl rfl) rfl ?_
                    refine vl_det (det_pick_t rfl rfl) rfl ?_
                    refine vl_det (det_move rfl) rfl ?_
                    refine vl_guardp rfl rfl rfl (fun h119 => ?_) (fun h119 => ?_)
                    · skip
                      refine vl_det (det_move rfl) rfl ?_
                      refine vl_guard_t rfl rfl ?_
                      refine vl_det (det_eql rfl rfl) rfl ?_
                      refine vl_det (det_pick_t rfl rfl) rfl ?_
                      refine vl_det (det_move rfl) rfl ?_
                      refine vl_guardp rfl rfl rfl (fun h123 => ?_) (fun h123 => ?_)
                      · skip
                        refine vl_det (det_move rfl) rfl ?_
                        refine vl_guard_t rfl rfl ?_
                        refine vl_det (det_eql rfl rfl) rfl ?_
                        refine vl_det (det_pick_t rfl rfl) rfl ?_
                        refine vl_det (det_move rfl) rfl ?_
                        refine vl_guardp rfl rfl rfl (fun h127 => ?_) (fun h127 => ?_)
                        · skip
                          refine vl_det (det_move rfl) rfl ?_
                          refine vl_guard_t rfl rfl ?_
                          refine vl_det (det_move rfl) rfl ?_
                          refine vl_guard_t rfl rfl ?_
                          refine vl_det (det_not rfl) rfl ?_
                          refine vl_guard_t rfl rfl ?_
                          refine vl_det (det_bool_eql Try.underlying4 rfl rfl) rfl ?_
                          refine vl_det (det_pick_t rfl rfl) rfl ?_
                          refine vl_det (det_move rfl) rfl ?_
                          refine vl_guardp rfl rfl rfl (fun h133 => ?_) (fun h133 => ?_)
                          · skip
                            refine vl_det (det_move rfl) rfl ?_
                            refine vl_guard_t rfl rfl ?_
                            refine vl_det (det_move rfl) rfl ?_
                            refine vl_guard_t rfl rfl ?_
                            refine vl_det (det_move rfl) rfl ?_
                            refine vl_guard rfl rfl rfl (fun h136 => ?_) (fun h136 => ?_)
                            · skip
                              refine vl_det (det_move rfl) rfl ?_
                              refine vl_guard_t rfl rfl ?_
                              refine vl_det (det_pick_t rfl rfl) rfl ?_
                              refine vl_guard_t rfl rfl ?_
                              refine vl_det (det_bool_eql Try.underlying4 rfl rfl) rfl ?_
                              refine vl_det (det_pick_t rfl rfl) rfl ?_
                              refine vl_det (det_move rfl) rfl ?_
                              refine vl_guardp rfl rfl rfl (fun h141 => ?_) (fun h141 => ?_)
                              · skip
                                refine vl_det (det_move rfl) rfl ?_
                                refine vl_guard_t rfl rfl ?_
                                refine vl_det (det_move rfl) rfl ?_
                                refine vl_guard_t rfl rfl ?_
                                refine vl_det (det_move rfl) rfl ?_
                                refine vl_guard rfl rfl rfl (fun h144 => ?_) (fun h144 => ?_)
                                · skip
                                  refine vl_det (det_move rfl) rfl ?_
                                  refine vl_guard_t rfl rfl ?_
                                  refine vl_det (det_pick_f rfl rfl) rfl ?_
                                  refine vl_guard_t rfl rfl ?_
                                  refine vl_det (det_bool_eql Try.underlying4 rfl rfl) rfl ?_
                                  refine vl_det (det_pick_t rfl rfl) rfl ?_
                                  refine vl_det (det_move rfl) rfl ?_
                                  refine vl_guardp rfl rfl rfl (fun h149 => ?_) (fun h149 => ?_)
                                  · skip
                                    refine vl_det (det_move rfl) rfl ?_
                                    refine vl_guard_t rfl rfl ?_
                                    refine vl_det (det_move rfl) rfl ?_
                                    refine vl_guard_t rfl rfl ?_
                                    refine vl_det (det_bool_eql Try.underlying4 rfl rfl) rfl ?_
                                    refine vl_det (det_pick_t rfl rfl) rfl ?_
                                    refine vl_det (det_move rfl) rfl ?_
                                    refine vl_guardp rfl rfl rfl (fun h154 => ?_) (fun h154 => ?_)
                                    · skip
                                      refine vl_det (det_move rfl) rfl ?_
                                      refine vl_guard_t rfl rfl ?_
                                      refine vl_det (det_move rfl) rfl ?_
                                      refine vl_guard_t rfl rfl ?_
                                      refine vl_det (det_bool_eql Try.underlying4 rfl rfl) rfl ?_
                                      refine vl_det (det_pick_t rfl rfl) rfl ?_
                                      refine vl_det (det_assign rfl) rfl ?_
                                      refine vl_end [(6, _)] ⟨rfl, trivial⟩ ?_
                                      refine then_next ?_
                                      refine vc_ret ?_
                                      refine ret1 rfl rfl ?_
                                      first | rfl | exact congrArg Value.bool (decide_eq_true (lw5 a b))
                                    · skip
                                      exfalso; exact h154 (Bool.and_comm b a)
                                  · skip
                                    exfalso; first | exact lw3 a b h144 h149 | exact lw4 a b h144 h149
                                · skip
                                  refine vl_guard_t rfl rfl ?_
                                  refine vl_det (det_pick_t rfl rfl) rfl ?_
                                  refine vl_guard_t rfl rfl ?_
                                  refine vl_det (det_bool_eql Try.underlying4 rfl rfl) rfl ?_
                                  refine vl_det (det_pick_t rfl rfl) rfl ?_
                                  refine vl_det (det_move rfl) rfl ?_
                                  refine vl_guardp rfl rfl rfl (fun h149 => ?_) (fun h149 => ?_)
                                  · skip
                                    refine vl_det (det_move rfl) rfl ?_
                                    refine vl_guard_t rfl rfl ?_
                                    refine vl_det (det_move rfl) rfl ?_
                                    refine vl_guard_t rfl rfl ?_
                                    refine vl_det (det_bool_eql Try.underlying4 rfl rfl) rfl ?_
                                    refine vl_det (det_pick_t rfl rfl) rfl ?_
                                    refine vl_det (det_move rfl) rfl ?_
                                    refine vl_guardp rfl rfl rfl (fun h154 => ?_) (fun h154 => ?_)
                                    · skip
                                      refine vl_det (det_move rfl) rfl ?_
                                      refine vl_guard_t rfl rfl ?_
                                      refine vl_det (det_move rfl) rfl ?_
                                      refine vl_guard_t rfl rfl ?_
                                      refine vl_det (det_bool_eql Try.underlying4 rfl rfl) rfl ?_
                                      refine vl_det (det_pick_t rfl rfl) rfl ?_
                                      refine vl_det (det_assign rfl) rfl ?_
                                      refine vl_end [(6, _)] ⟨rfl, trivial⟩ ?_
                                      refine then_next ?_
                                      refine vc_ret ?_
                                      refine ret1 rfl rfl ?_
                                      first | rfl | exact congrArg Value.bool (decide_eq_true (lw5 a b))
                                    · skip
                                      exfalso; exact h154 (Bool.and_comm b a)
                                  · skip
                                    exfalso; first | exact lw3 a b h144 h149 | exact lw4 a b h144 h149
                              · skip
                                exfalso; first | exact lw1 a b h136 h141 | exact lw2 a b h136 h141
                            · skip
                              refine vl_guard_t rfl rfl ?_
                              refine vl_det (det_pick_f rfl rfl) rfl ?_
                              refine vl_guard_t rfl rfl ?_
                              refine vl_det (det_bool_eql Try.underlying4 rfl rfl) rfl ?_
                              refine vl_det (det_pick_t rfl rfl) rfl ?_
                              refine vl_det (det_move rfl) rfl ?_
                              refine vl_guardp rfl rfl rfl (fun h141 => ?_) (fun h141 => ?_)
                              · skip
                                refine vl_det (det_move rfl) rfl ?_
                                refine vl_guard_t rfl rfl ?_
                                refine vl_det (det_move rfl) rfl ?_
                                refine vl_guard_t rfl rfl ?_
                                refine vl_det (det_move rfl) rfl ?_
                                refine vl_guard rfl rfl rfl (fun h144 => ?_) (fun h144 => ?_)
                                · skip
                                  refine vl_det (det_move rfl) rfl ?_
                                  refine vl_guard_t rfl rfl ?_
                                  refine vl_det (det_pick_f rfl rfl) rfl ?_
                                  refine vl_guard_t rfl rfl ?_
                                  refine vl_det (det_bool_eql Try.underlying4 rfl rfl) rfl ?_
                                  refine vl_det (det_pick_t rfl rfl) rfl ?_
                                  refine vl_det (det_move rfl) rfl ?_
                                  refine vl_guardp rfl rfl rfl (fun h149 => ?_) (fun h149 => ?_)
                                  · skip
                                    refine vl_det (det_move rfl) rfl ?_
                                    refine vl_guard_t rfl rfl ?_
                                    refine vl_det (det_move rfl) rfl ?_
                                    refine vl_guard_t rfl rfl ?_
                                    refine vl_det (det_bool_eql Try.underlying4 rfl rfl) rfl ?_
                                    refine vl_det (det_pick_t rfl rfl) rfl ?_
                                    refine vl_det (det_move rfl) rfl ?_
                                    refine vl_guardp rfl rfl rfl (fun h154 => ?_) (fun h154 => ?_)
                                    · skip
                                      refine vl_det (det_move rfl) rfl ?_
                                      refine vl_guard_t rfl rfl ?_
                                      refine vl_det (det_move rfl) rfl ?_
                                      refine vl_guard_t rfl rfl ?_
                                      refine vl_det (det_bool_eql Try.underlying4 rfl rfl) rfl ?_
                                      refine vl_det (det_pick_t rfl rfl) rfl ?_
                                      refine vl_det (det_assign rfl) rfl ?_
                                      refine vl_end [(6, _)] ⟨rfl, trivial⟩ ?_
                                      refine then_next ?_
                                      refine vc_ret ?_
                                      refine ret1 rfl rfl ?_
                                      first | rfl | exact congrArg Value.bool (decide_eq_true (lw5 a b))
                                    · skip
                                      exfalso; exact h154 (Bool.and_comm b a)
                                  · skip
                                    exfalso; first | exact lw3 a b h144 h149 | exact lw4 a b h144 h149
                                · skip
                                  refine vl_guard_t rfl rfl ?_
                                  refine vl_det (det_pick_t rfl rfl) rfl ?_
                                  refine vl_guard_t rfl rfl ?_
                                  refine vl_det (det_bool_eql Try.underlying4 rfl rfl) rfl ?_
                                  refine vl_det (det_pick_t rfl rfl) rfl ?_
                                  refine vl_det (det_move rfl) rfl ?_
                                  refine vl_guardp rfl rfl rfl (fun h149 => ?_) (fun h149 => ?_)
                                  · skip
                                    refine vl_det (det_move rfl) rfl ?_
                                    refine vl_guard_t rfl rfl ?_
                                    refine vl_det (det_move rfl) rfl ?_
                                    refine vl_guard_t rfl rfl ?_
                                    refine vl_det (det_bool_eql Try.underlying4 rfl rfl) rfl ?_
                                    refine vl_det (det_pick_t rfl rfl) rfl ?_
                                    refine vl_det (det_move rfl) rfl ?_
                                    refine vl_guardp rfl rfl rfl (fun h154 => ?_) (fun h154 => ?_)
                                    · skip
                                      refine vl_det (det_move rfl) rfl ?_
                                      refine vl_guard_t rfl rfl ?_
                                      refine vl_det (det_move rfl) rfl ?_
                                      refine vl_guard_t rfl rfl ?_
                                      refine vl_det (det_bool_eql Try.underlying4 rfl rfl) rfl ?_
                                      refine vl_det (det_pick_t rfl rfl) rfl ?_
                                      refine vl_det (det_assign rfl) rfl ?_
                                      refine vl_end [(6, _)] ⟨rfl, trivial⟩ ?_
                                      refine then_next ?_
                                      refine vc_ret ?_
                                      refine ret1 rfl rfl ?_
                                      first | rfl | exact congrArg Value.bool (decide_eq_true (lw5 a b))
                                    · skip
                                      exfalso; exact h154 (Bool.and_comm b a)
                                  · skip
                                    exfalso; first | exact lw3 a b h144 h149 | exact lw4 a b h144 h149
                              · skip
                                exfalso; first | exact lw1 a b h136 h141 | exact lw2 a b h136 h141
                          · skip
                            exfalso; exact h133 rfl
                        · skip
                          exfalso; exact h127 rfl
                      · skip
                        exfalso; exact h123 rfl
                    · skip
                      exfalso; exact h119 rfl
                  · skip
                    exfalso; exact h115 rfl
                · skip
                  exfalso; exact h111 rfl
            · skip
              refine vl_guard_f rfl rfl rfl rfl ?_
              refine vl_det (det_pick_t rfl rfl) rfl ?_
              refine vl_end [(1, _), (2, _), (3, _), (7, _), (9, _), (62, _)] ⟨rfl, rfl, rfl, rfl, rfl, rfl, trivial⟩ ?_
              refine then_next ?_
              refine vc_cond_t rfl ?_
              refine vc_seq ?_
              refine vc_region ?_
              refine vl_det (det_assign rfl) rfl ?_
              refine vl_end [(6, _)] ⟨rfl, trivial⟩ ?_
              refine then_next ?_
              refine vc_ret ?_
              refine then_ret ?_
              refine ret1 rfl rfl ?_
              first | rfl | exact congrArg Value.bool (decide_eq_true (lw5 a b))
          · skip
            refine vl_guard_f rfl rfl rfl rfl ?_
            refine vl_det (det_pick_t rfl rfl) rfl ?_
            refine vl_det (det_move rfl) rfl ?_
            refine vl_guard_f rfl rfl rfl rfl ?_
            refine vl_guard_f rfl rfl rfl rfl ?_
            refine vl_det (det_pick_t rfl rfl) rfl ?_
            refine vl_end [(1, _), (2, _), (3, _), (7, _), (9, _), (62, _)] ⟨rfl, rfl, rfl, rfl, rfl, rfl, trivial⟩ ?_
            refine then_next ?_
            refine vc_cond_t rfl ?_
            refine vc_seq ?_
            refine vc_region ?_
            refine vl_det (det_assign rfl) rfl ?_
            refine vl_end [(6, _)] ⟨rfl, trivial⟩ ?_
            refine then_next ?_
            refine vc_ret ?_
            refine then_ret ?_
            refine ret1 rfl rfl ?_
            first | rfl | exact congrArg Value.bool (decide_eq_true (lw5 a b))
        · skip
          refine vl_guard_f rfl rfl rfl rfl ?_
          refine vl_det (det_pick_t rfl rfl) rfl ?_
          refine vl_det (det_move rfl) rfl ?_
          refine vl_guard_f rfl rfl rfl rfl ?_
          refine vl_guard_f rfl rfl rfl rfl ?_
          refine vl_det (det_pick_t rfl rfl) rfl ?_
          refine vl_det (det_move rfl) rfl ?_
          refine vl_guard_f rfl rfl rfl rfl ?_
          refine vl_guard_f rfl rfl rfl rfl ?_
          refine vl_det (det_pick_t rfl rfl) rfl ?_
          refine vl_end [(1, _), (2, _), (3, _), (7, _), (9, _), (62, _)] ⟨rfl, rfl, rfl, rfl, rfl, rfl, trivial⟩ ?_
          refine then_next ?_
          refine vc_cond_t rfl ?_
          refine vc_seq ?_
          refine vc_region ?_
          refine vl_det (det_assign rfl) rfl ?_
          refine vl_end [(6, _)] ⟨rfl, trivial⟩ ?_
          refine then_next ?_
          refine vc_ret ?_
          refine then_ret ?_
          refine ret1 rfl rfl ?_
          first | rfl | exact congrArg Value.bool (decide_eq_true (lw5 a b))
    · skip
      refine vl_guard_f rfl rfl rfl rfl ?_
      refine vl_guard_f rfl rfl rfl rfl ?_
      refine vl_det (det_pick_t rfl rfl) rfl ?_
      refine vl_end [(1, _), (2, _), (3, _), (32, _)] ⟨rfl, rfl, rfl, rfl, trivial⟩ ?_
      refine then_next ?_
      refine vc_cond_t rfl ?_
      refine vc_seq ?_
      refine vc_region ?_
      refine vl_det (det_assign rfl) rfl ?_
      refine vl_end [(6, _)] ⟨rfl, trivial⟩ ?_
      refine then_next ?_
      refine vc_ret ?_
      refine then_ret ?_
      refine ret1 rfl rfl ?_
      first | rfl | exact congrArg Value.bool (decide_eq_true (lw5 a b))
theorem own : ownKnob Try.prog.godebug = none := by kernel_rfl
theorem laidOut : laidOutB Try.prog = true := by kernel_rfl
set_option maxRecDepth 100000 in
theorem lifted (os : Os) (started : os.Started) (H : Type) (enc : TypeId × Value → H) :
    ReturnsInHanded {} Try.checked os 8 .any (Rows.planLawsSpec.pre6 enc Try.prog Try.f8 Rows.planLawsRow.domain false) (Rows.planLawsSpec.post enc Try.prog Try.f8 false true false false) := by
  refine returnsInHanded_of_change (C := Try.checked) own started (by kernel_rfl) Try.func8
    (ChangeSpec.witness6 (enc := enc) (C := Try.checked) false ⟨#[], #[(.agg #[.int .u64 0, .int .u8 0, .string ByteArray.empty, .string ByteArray.empty]), .slice none 0 0, .slice none 0 0], []⟩ 8 (by kernel_rfl) (by kernel_rfl) (by kernel_rfl) (by kernel_rfl)) ?_
  intro W base args ds gs before hval0 hW hcnd _
  have hval : ∀ (j : Nat) t v, Try.f8.params[j]? = some t → args[j]? = some v → Value.okWide Try.prog W .any base t v := hval0
  have hW' := hW
  obtain ⟨p, q, hA0, hV, rfl, hfz, hnd⟩ := hW
  have hA : DataW.TrodAll enc Try.prog W 0 (fun _ => true) true Try.f8.params.toList args.toList ds p := hA0
  rw [Try.params8] at hA hval
  obtain ⟨v0', vs0, d0, ds0, p0, q0, hargs, rfl, rfl, h0', r0⟩ := trodAll_cons hA
  obtain ⟨v1', vs1, d1, ds1, p1, q1, rfl, rfl, rfl, h1', r1⟩ := trodAll_cons r0
  obtain ⟨v2', vs2, d2, ds2, p2, q2, rfl, rfl, rfl, h2', r2⟩ := trodAll_cons r1
  obtain ⟨rfl, rfl, rfl⟩ := trodAll_nil r2
  obtain rfl : args = #[v0', v1', v2'] := by cases args; simp_all
  obtain ⟨rfl, rfl⟩ := trodVars_none hV
  have k0 := h0'
  have lt0 : ∀ x ∈ p0, x.block < W.heap.size := by obtain ⟨m, hm⟩ := k0; exact DataW.trod_lt m _ _ _ hm
  obtain ⟨x0, e0, w0⟩ := DecT.arg (w := W) (dec_rec W) k0
  obtain rfl := agg_of Try.underlying45 (hval 0 45 v0' rfl rfl) e0
  have k1 := h1'
  have lt1 : ∀ x ∈ p1, x.block < W.heap.size := by obtain ⟨m, hm⟩ := k1; exact DataW.trod_lt m _ _ _ hm
  obtain ⟨A1, n1, c1, rfl⟩ := okWide_slice Try.underlying22 (hval 1 22 v1' rfl rfl)
  obtain ⟨⟨u1, L1⟩, e1, hr1, ho1, hm1⟩ := DecT.arg (dec_slice Try.underlying22 (by kernel_rfl : Try.prog.cellsOf 38 = 5) (by omega) (fun _ => rfl) (dec_step W)) k1
  obtain rfl := cells_slice A1 n1 c1 rfl e1
  have k2 := h2'
  have lt2 : ∀ x ∈ p2, x.block < W.heap.size := by obtain ⟨m, hm⟩ := k2; exact DataW.trod_lt m _ _ _ hm
  obtain ⟨A2, n2, c2, rfl⟩ := okWide_slice Try.underlying22 (hval 2 22 v2' rfl rfl)
  obtain ⟨⟨u2, L2⟩, e2, hr2, ho2, hm2⟩ := DecT.arg (dec_slice Try.underlying22 (by kernel_rfl : Try.prog.cellsOf 38 = 5) (by omega) (fun _ => rfl) (dec_step W)) k2
  obtain rfl := cells_slice A2 n2 c2 rfl e2
  clear hA0 hval0
  refine (walk W x0 w0 _ L1 hr1 ho1 hm1 _ L2 hr2 ho2 hm2).mono fun e W' ⟨he, bel⟩ => ?_
  subst he
  exact ⟨_, rfl, _, _, _, [], _, [], hW', trodAll_mk1 (shut_bool Try.underlying4 _), (trodAll_cons_mk (Below.trod laidOut (by kernel_rfl) (of_decide_eq_true (by kernel_rfl)) k0 bel lt0) (trodAll_cons_mk (Below.trod laidOut (by kernel_rfl) (of_decide_eq_true (by kernel_rfl)) k1 bel lt1) (trodAll_cons_mk (Below.trod laidOut (by kernel_rfl) (of_decide_eq_true (by kernel_rfl)) k2 bel lt2) trodAll_mk0))), rfl, bel.frame _, fun h => by cases h⟩

theorem over : Rows.planLawsRow.holds Try.pinned (OpenSpec.ofChange Rows.planLawsSpec) :=
  OpenClaim.holds_of_wide 8 Try.f8 rfl rfl rfl rfl rfl rfl rfl ⟨rfl, rfl, rfl, rfl, rfl⟩ rfl rfl rfl rfl rfl (by kernel_rfl) Try.func8 (by kernel_rfl)
    (of_decide_eq_true (by kernel_rfl)) (by unfold Func.isWrapper; first | (rw [if_pos (by decide +kernel)]; kernel_rfl) | (rw [if_neg (by decide +kernel)]; exact ⟨rfl, rfl⟩))
    (fun os started H enc _ => lifted os started H enc)

theorem proved : Rows.PlanLawsSaid := over
#print axioms proved
end Go.Proofs.Ytakokckokchacaa.lawPlanLaws

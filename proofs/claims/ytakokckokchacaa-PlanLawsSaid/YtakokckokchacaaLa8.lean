/-
  Texts of one proof, joined: part 8. No condition.
-/
import Derived.Test.YtakokckokchacaaLa7
import Derived.Lib.AppendZeros
import Derived.WideShapes
namespace Go.Proofs.Ytakokckokchacaa
open Go.RowKit
set_option linter.unusedVariables false
set_option maxRecDepth 20000
variable {B : Nat} {w0 : World} {F R L M : List Ch} {A A2 AT : Option Addr} {n c c2 cT g : Nat} {x : RecC} {T : List Txt} {s : StepC} {t : Qt} {q : List StepC}
theorem termsL_le (txt src : List UInt8) (h1 : txt.length ≤ 100000000) (h2 : src.length ≤ 100000000) : (termsL txt src).length ≤ 1000000000 := by
  have h3 := setT_len (rawT txt src)
  have h4 := rawT_len txt src
  have h5 := wordsL_len txt
  have h6 := wordsL_len src
  unfold termsL
  omega
def NAhead (P : Program) (t : TypeId) (v : Value) (name : String) : Prop := ∀ w, (nilAhead (P.types.size + Made.depth) t v name).run P w = .ok (some false) w
theorem det_nilCheck_m {C : Cx} {fr : Fr} {L : List Ch} {ty t : TypeId} {x : Operand} {v : Value} {name name2 : String} {caps : Array Value} (hn : name2 = name) (h : ev fr x = some (.func (.method name2) #[.iface t v] caps)) (ha : NAhead C.P t v name) :
    Det C fr L (.nilCheck x) ty (.func (.method name2) #[.iface t v] caps) := fun a w hfr hw d pos af g => by
  subst hn
  have h2 := ha w
  simp only [execOp, hfr.tmp h]
  simp [Sem.run_bind, run_program, h2]
theorem nv_ahead {r : Value} (h : NV B w0 L t [r]) (hn : t.isN) : ∃ ty v, r = .iface ty v ∧ NAhead Try.prog ty v nmMeans := by
  cases t with
  | leaf s => exact ⟨_, _, by simpa using (show [r] = _ from h), fun w => by kernel_rfl⟩
  | not k => obtain ⟨x, hx, hk⟩ := h; exact ⟨_, _, by simpa using hx, fun w => by kernel_rfl⟩
  | group op ks => obtain ⟨A, c, vs, hx, _⟩ := h; exact ⟨_, _, by simpa using hx, fun w => by kernel_rfl⟩
  | nil => exact hn.elim
  | cons k r => exact hn.elim
theorem pmeans_bad (hb : Bor B w0 F 5 (.slice A q.length c) q.length (stepsV q)) (hq : checkQ q ≠ 0) :
    Does Try.prog B w0 21 [.agg (RecC.cells x).toArray, .slice A q.length c] F (fun r L => r = .tuple #[.bool false, .int .i64 (checkQ q)] ∧ L = F) := by
  refine fn_walk Try.func21 23 rfl rfl rfl [(0, .agg (RecC.cells x).toArray), (1, .slice A q.length c)] ⟨⟨rfl, rfl⟩, ⟨rfl, rfl⟩, trivial⟩ ?_
  refine vc_seq ?_
  refine vc_region ?_
  refine vl_eff (eff_box rfl rfl) rfl ?_
  rintro _ _ ⟨g2, rfl, rfl⟩
  refine vl_det (det_assign rfl) rfl ?_
  refine vl_det (det_assign rfl) rfl ?_
  refine vl_end [(1, _), (2, _)] ⟨rfl, rfl, trivial⟩ ?_
  refine then_next ?_
  refine vc_seq ?_
  refine vc_seq ?_
  refine vc_region ?_
  refine vl_det (det_move rfl) rfl ?_
  refine vl_call co16 rfl (check_d (by first | (exact Bor.own (by repeat (first | exact List.Mem.head _ | apply List.Mem.tail))) | (repeat (first | assumption | apply Bor.cons)))) rfl ?_
  rintro _ _ ⟨rfl, hLL⟩
  obtain rfl := hLL.symm
  refine vl_det (det_assign rfl) rfl ?_
  refine vl_end [(1, _), (2, _), (6, _)] ⟨rfl, rfl, rfl, trivial⟩ ?_
  refine then_next ?_
  refine vc_seq ?_
  refine vc_region ?_
  refine vl_det (det_move rfl) rfl ?_
  refine vl_det (det_neq rfl rfl) rfl ?_
  refine vl_end [(1, _), (2, _), (6, _), (10, _)] ⟨rfl, rfl, rfl, rfl, trivial⟩ ?_
  refine then_next ?_
  refine vc_decideU rfl (fun h10 => ?_) (fun h10 => ?_)
  · skip
    refine vc_seq ?_
    refine vc_region ?_
    refine vl_det (det_move rfl) rfl ?_
    refine vl_det (det_assign rfl) rfl ?_
    refine vl_det (det_assign rfl) rfl ?_
    refine vl_end [(4, _), (5, _)] ⟨rfl, rfl, trivial⟩ ?_
    refine then_next ?_
    refine vc_ret ?_
    refine then_ret ?_
    refine ret_wk (L' := F) (.skip (.refl _)) ?_
    refine ret2 rfl rfl rfl ?_
    exact ⟨rfl, rfl⟩
  · skip
    exfalso; exact h10 hq
theorem pmeans_ok (hb : Bor B w0 F 5 (.slice A q.length c) q.length (stepsV q)) (h1 : x.2.2.1.length ≤ 1000000) (h2 : x.2.2.2.length ≤ 1000000) (hc : checkQ q = 0) (hq : q.length ≤ 1000) (hd : depS [] q = some [t.dep]) (hp : parS [] q = [t]) (hn : t.isN) (hw : t.wf) (hst : t.st = q) :
    Does Try.prog B w0 21 [.agg (RecC.cells x).toArray, .slice A q.length c] F (fun r L => r = .tuple #[.bool (meansT x (termsL x.2.2.2 x.2.2.1) t), .int .i64 0] ∧ L = F) := by
  obtain ⟨tm, lv, src, txt⟩ := x
  simp only at h1 h2 ⊢
  have hTl := termsL_le txt src (by omega) (by omega)
  refine fn_walk Try.func21 23 rfl rfl rfl [(0, .agg #[.int .u64 (tm : Int), .int .u8 (lv.toNat : Int), .string ⟨src.toArray⟩, .string ⟨txt.toArray⟩]), (1, .slice A q.length c)] ⟨⟨rfl, rfl⟩, ⟨rfl, rfl⟩, trivial⟩ ?_
  refine vc_seq ?_
  refine vc_region ?_
  refine vl_eff (eff_box rfl rfl) rfl ?_
  rintro _ _ ⟨g2, rfl, rfl⟩
  refine vl_det (det_assign rfl) rfl ?_
  refine vl_det (det_assign rfl) rfl ?_
  refine vl_end [(1, _), (2, _)] ⟨rfl, rfl, trivial⟩ ?_
  refine then_next ?_
  refine vc_seq ?_
  refine vc_seq ?_
  refine vc_region ?_
  refine vl_det (det_move rfl) rfl ?_
  refine vl_call co16 rfl (check_d (by first | (exact Bor.own (by repeat (first | exact List.Mem.head _ | apply List.Mem.tail))) | (repeat (first | assumption | apply Bor.cons)))) rfl ?_
  rintro _ _ ⟨rfl, hLL⟩
  obtain rfl := hLL.symm
  refine vl_det (det_assign rfl) rfl ?_
  refine vl_end [(1, _), (2, _), (6, _)] ⟨rfl, rfl, rfl, trivial⟩ ?_
  refine then_next ?_
  refine vc_seq ?_
  refine vc_region ?_
  refine vl_det (det_move rfl) rfl ?_
  refine vl_det (det_neq rfl rfl) rfl ?_
  refine vl_end [(1, _), (2, _), (6, _), (10, _)] ⟨rfl, rfl, rfl, rfl, trivial⟩ ?_
  refine then_next ?_
  refine vc_decideU rfl (fun h10 => ?_) (fun h10 => ?_)
  · skip
    exfalso; exact h10 hc
  · skip
    refine vc_skip ?_
    refine then_next ?_
    refine vc_seq ?_
    refine vh_region (S := .blk g2 45 [.int .u64 (tm : Int), .int .u8 (lv.toNat : Int), .string ⟨src.toArray⟩, .string ⟨txt.toArray⟩] :: F) (by kernel_rfl) (by repeat (first | exact List.Sublist.refl _ | exact List.nil_sublist _ | exact List.sublist_append_right _ _ | apply List.Sublist.cons_cons | apply List.Sublist.cons)) ?_
    refine vh_take 0 rfl (by kernel_rfl) (by kernel_rfl) (by kernel_rfl) (det_move rfl) rfl ?_
    refine vh_take 2 rfl (by kernel_rfl) (by kernel_rfl) (by kernel_rfl) (det_load_whole 4 (by kernel_rfl) rfl (by repeat (first | exact .hd | apply Sel.tl)) (by first | rfl | (simp; omega) | (simp [*]; done))) rfl ?_
    refine vh_take 3 rfl (by kernel_rfl) (by kernel_rfl) (by kernel_rfl) (det_load_whole 4 (by kernel_rfl) rfl (by repeat (first | exact .hd | apply Sel.tl)) (by first | rfl | (simp; omega) | (simp [*]; done))) rfl ?_
    refine vh_one 1 (by kernel_rfl) ?_
    refine st_call rfl .no co30 rfl (tree_x (by first | (exact Bor.own (by repeat (first | exact List.Mem.head _ | apply List.Mem.tail))) | (repeat (first | assumption | apply Bor.cons))) hq hd hp) rfl (by rintro _ _ ⟨M13, rfl, hx⟩; exact (by repeat (first | exact List.Sublist.refl _ | exact List.nil_sublist _ | exact List.sublist_append_right _ _ | apply List.Sublist.cons_cons | apply List.Sublist.cons))) ?_
    rintro _ _ ⟨M13, rfl, hx⟩
    obtain ⟨ry, rv, rfl, hA⟩ := nv_ahead hx hn
    refine vh_take 7 rfl (by kernel_rfl) (by kernel_rfl) (by kernel_rfl) (det_makeFunc rfl rfl) rfl ?_
    refine vh_take 8 rfl (by kernel_rfl) (by kernel_rfl) (by kernel_rfl) (det_nilCheck_m (name := nmMeans) rfl rfl hA) rfl ?_
    refine vh_take 9 rfl (by kernel_rfl) (by kernel_rfl) (by kernel_rfl) (det_move rfl) rfl ?_
    refine vh_one 4 (by kernel_rfl) ?_
    refine st_call rfl .no co36 rfl (terms_d txt src (by omega) (by omega)) rfl (by rintro _ _ ⟨A16, c16, rfl, rfl⟩; exact (by repeat (first | exact List.Sublist.refl _ | exact List.nil_sublist _ | exact List.sublist_append_right _ _ | apply List.Sublist.cons_cons | apply List.Sublist.cons))) ?_
    rintro _ _ ⟨A16, c16, rfl, hLL⟩
    obtain rfl := hLL.symm
    refine vh_take 5 rfl (by kernel_rfl) (by kernel_rfl) (by kernel_rfl) (det_build [(0, _), (1, _)] [_, _, _, _, _] rfl rfl (by kernel_rfl)) rfl ?_
    refine vh_one 6 (by kernel_rfl) ?_
    refine st_eff rfl .no (eff_box rfl rfl) rfl (by rintro _ _ ⟨g18, rfl, rfl⟩; exact (by repeat (first | exact List.Sublist.refl _ | exact List.nil_sublist _ | exact List.sublist_append_right _ _ | apply List.Sublist.cons_cons | apply List.Sublist.cons))) ?_
    rintro _ _ ⟨g18, rfl, rfl⟩
    refine vh_one 10 (by kernel_rfl) ?_
    refine st_invoke (by kernel_rfl) rfl .no rfl rfl (means_m (x := (tm, lv, src, txt)) (T := termsL txt src) hTl hn hw (by rw [hst]; omega) (.own 9 1 A16 (termsL txt src).length c16 (strs (termsL txt src)) :: (M13 ++ (.blk g2 45 [.int .u64 (tm : Int), .int .u8 (lv.toNat : Int), .string ⟨src.toArray⟩, .string ⟨txt.toArray⟩] :: F))) _ (hx.mono (.cons _ (List.sublist_append_left _ _))) (Bor.own (.head _))) rfl (by rintro _ _ ⟨rfl, rfl⟩; exact (by repeat (first | exact List.Sublist.refl _ | exact List.nil_sublist _ | exact List.sublist_append_right _ _ | apply List.Sublist.cons_cons | apply List.Sublist.cons))) ?_
    rintro _ _ ⟨rfl, hLL⟩
    obtain rfl := hLL.symm
    refine vh_take 11 rfl (by kernel_rfl) (by kernel_rfl) (by kernel_rfl) (det_assign rfl) rfl ?_
    refine vh_take 12 rfl (by kernel_rfl) (by kernel_rfl) (by kernel_rfl) (det_assign rfl) rfl ?_
    refine vh_done [(4, _), (5, _)] ⟨rfl, rfl, trivial⟩ (by kernel_rfl) ?_
    refine then_next ?_
    refine vc_ret ?_
    refine ret_wk (L' := F) (.skip (.skip (wk_rows (.skip (.refl _)) M13))) ?_
    refine ret2 rfl rfl rfl ?_
    exact ⟨rfl, rfl⟩
end Go.Proofs.Ytakokckokchacaa
namespace Go.Proofs.Ytakokckokchacaa
open Go.RowKit
set_option linter.unusedVariables false
set_option maxRecDepth 20000
variable {B : Nat} {w0 : World} {F L M : List Ch} {A A2 : Option Addr} {n c c2 g : Nat}
def kidsT : Qt → List Qt
  | .not k => [k]
  | .group _ ks => toL ks
  | _ => []
def lastT : Qt → StepC
  | .leaf s => s
  | .not _ => (5, 0, [], 0, 0)
  | .group op ks => (op, (ks.len : Int), [], 0, 0)
  | _ => sNil
/-! how many queries steps want, ahead of them -/
def ND : List StepC → Int
  | [] => 0
  | s :: r => takesS s - 1 + ND r
/-- a row of steps in memory: where it lies, its room, the steps -/
abbrev Pq := Option Addr × Nat × List StepC
abbrev pqv (e : Pq) : Value := .slice e.1 e.2.2.length e.2.1
def PqB (B : Nat) (w0 : World) (F : List Ch) (PL : List Pq) : Prop := ∀ e ∈ PL, Bor B w0 F 5 (.slice e.1 e.2.2.length e.2.1) e.2.2.length (stepsV e.2.2)
theorem PqB.mono {PL : List Pq} (h : PqB B w0 F PL) (hs : F.Sublist M) : PqB B w0 M PL := fun e he => (h e he).mono hs
theorem pq_get {PL : List Pq} {k : Nat} (h : k < PL.length) : (PL.map pqv)[k * 1]? = some (pqv (PL.getD k (none, 0, []))) := by
  rw [Nat.mul_one, List.getElem?_map, List.getElem?_eq_getElem h]; simp [List.getD, List.getElem?_eq_getElem h]
def PartsQ (B : Nat) (w0 : World) (t : Qt) (A : Option Addr) (c : Nat) (F : List Ch) (r : Value) (L : List Ch) : Prop :=
  ∃ A' c' PL, r = .slice A' (kidsT t).length c' ∧ PL.length = (kidsT t).length ∧ L = .own 22 1 A' (kidsT t).length c' (PL.map pqv) :: F ∧ PL.map (·.2.2) = (kidsT t).map Qt.st ∧ ∀ F', Bor B w0 F' 5 (.slice A t.st.length c) t.st.length (stepsV t.st) → PqB B w0 F' PL
end Go.Proofs.Ytakokckokchacaa
namespace Go.Proofs.Ytakokckokchacaa
open Go.RowKit
set_option linter.unusedVariables false
set_option maxRecDepth 20000
variable {B : Nat} {w0 : World} {F : List Ch} {A A1 A2 : Option Addr} {n c c1 c2 g : Nat}
def SameT (l1 l2 : List Txt) (k : Nat) : Prop := l1.take k = l2.take k
theorem SameT.step {l1 l2 : List Txt} {k : Nat} (h : SameT l1 l2 k) (h1 : k < l1.length) (h2 : k < l2.length) (he : l1.getD k [] = l2.getD k []) : SameT l1 l2 (k + 1) := by
  unfold SameT at *
  rw [List.take_add_one, List.take_add_one, h]
  congr 1
  rw [List.getElem?_eq_getElem h1, List.getElem?_eq_getElem h2]
  simp [List.getD, List.getElem?_eq_getElem h1, List.getElem?_eq_getElem h2] at he
  rw [he]
theorem SameT.all {l1 l2 : List Txt} {k : Nat} (h : SameT l1 l2 k) (h1 : ¬ k < l1.length) (h2 : l1.length = l2.length) : l1 = l2 := by
  unfold SameT at h
  rwa [List.take_of_length_le (by omega), List.take_of_length_le (by omega)] at h
end Go.Proofs.Ytakokckokchacaa
namespace Go.Proofs.Ytakokckokchacaa
open Go.RowKit
set_option linter.unusedVariables false
set_option maxRecDepth 20000
variable {B : Nat} {w0 : World} {F R L M : List Ch} {A A2 AT : Option Addr} {n c c2 cT g : Nat} {x : RecC} {T : List Txt} {s : StepC} {t : Qt} {q : List StepC}
def RMeQ (B : Nat) (w0 : World) (x : RecC) (t : Qt) : Prop := t.st.length ≤ 1000000 → ∀ (F : List Ch) (A : Option Addr) (c : Nat), Bor B w0 F 5 (.slice A t.st.length c) t.st.length (stepsV t.st) →
  Does Try.prog B w0 22 [.agg (RecC.cells x).toArray, .slice A t.st.length c] F (fun r L => r = .bool (meansT x (termsL x.2.2.2 x.2.2.1) t) ∧ L = F)
/-! are a record, or a query, more than statements look at? -/
theorem great29_d (x : RecC) (hb : Bor B w0 F 5 (.slice A q.length c) q.length (stepsV q)) (h1 : x.2.2.1.length ≤ 9223372036854775807) (h2 : x.2.2.2.length ≤ 9223372036854775807) :
    Does Try.prog B w0 20 [.agg (RecC.cells x).toArray, .slice A q.length c] F (fun r L => r = .bool (decide (300 < x.2.2.2.length ∨ 300 < x.2.2.1.length ∨ 60 < q.length)) ∧ L = F) := by
  obtain ⟨tm, lv, src, txt⟩ := x
  simp only at h1 h2
  show Does Try.prog B w0 20 [.agg #[.int .u64 (tm : Int), .int .u8 (lv.toNat : Int), .string ⟨src.toArray⟩, .string ⟨txt.toArray⟩], .slice A q.length c] F (fun r L => r = .bool (decide (300 < txt.length ∨ 300 < src.length ∨ 60 < q.length)) ∧ L = F)
  refine fn_walk Try.func20 20 rfl rfl rfl [(0, .agg #[.int .u64 (tm : Int), .int .u8 (lv.toNat : Int), .string ⟨src.toArray⟩, .string ⟨txt.toArray⟩]), (1, .slice A q.length c)] ⟨⟨rfl, rfl⟩, ⟨rfl, rfl⟩, trivial⟩ ?_
  refine vc_seq ?_
  refine vc_region ?_
  refine vl_eff (eff_box rfl rfl) rfl ?_
  rintro _ _ ⟨g2, rfl, rfl⟩
  refine vl_det (det_assign rfl) rfl ?_
  refine vl_end [(1, _), (2, _)] ⟨rfl, rfl, trivial⟩ ?_
  refine then_next ?_
  refine vc_seq ?_
  refine vc_region ?_
  refine vl_cut 15 19 [] (300 < txt.length ∨ 300 < src.length ∨ 60 < q.length) trivial ?_ ?_
  · skip
    refine vl_det (det_fieldAddr_ Try.underlying45 rfl (by kernel_rfl) rfl rfl) rfl ?_
    refine vl_det (det_load_blk (by kernel_rfl) rfl (by repeat (first | exact .hd | apply Sel.tl)) rfl) rfl ?_
    refine vl_det (det_len_s Try.underlying9 rfl) rfl ?_
    refine vl_det (det_gtr rfl rfl) rfl ?_
    refine vl_det (det_move rfl) rfl ?_
    refine vl_guardn rfl rfl rfl (fun h9 => ?_) (fun h9 => ?_)
    · skip
      refine vl_det (det_fieldAddr_ Try.underlying45 rfl (by kernel_rfl) rfl rfl) rfl ?_
      refine vl_guard_t rfl rfl ?_
      refine vl_det (det_load_blk (by kernel_rfl) rfl (by repeat (first | exact .hd | apply Sel.tl)) rfl) rfl ?_
      refine vl_guard_t rfl rfl ?_
      refine vl_det (det_len_s Try.underlying9 rfl) rfl ?_
      refine vl_guard_t rfl rfl ?_
      refine vl_det (det_gtr rfl rfl) rfl ?_
      refine vl_det (det_pick_f rfl rfl) rfl ?_
      refine vl_det (det_move rfl) rfl ?_
      refine vl_guardn rfl rfl rfl (fun h15 => ?_) (fun h15 => ?_)
      · skip
        refine vl_det (det_move rfl) rfl ?_
        refine vl_guard_t rfl rfl ?_
        refine vl_det (det_len_sl Try.underlying22 rfl) rfl ?_
        refine vl_guard_t rfl rfl ?_
        refine vl_det (det_gtr rfl rfl) rfl ?_
        refine vl_det (det_pick_f rfl rfl) rfl ?_
        exact vl_cut_end trivial (by first | rfl | exact bool_to_t (by first | omega | simp_all) | exact bool_to_f (by first | omega | simp_all) | exact bool_to (by first | omega | simp_all) | exact bool_to_b (by first | omega | simp_all))
      · skip
        refine vl_guard_f rfl rfl rfl rfl ?_
        refine vl_guard_f rfl rfl rfl rfl ?_
        refine vl_det (det_pick_t rfl rfl) rfl ?_
        exact vl_cut_end trivial (by first | rfl | exact bool_to_t (by first | omega | simp_all) | exact bool_to_f (by first | omega | simp_all) | exact bool_to (by first | omega | simp_all) | exact bool_to_b (by first | omega | simp_all))
    · skip
      refine vl_guard_f rfl rfl rfl rfl ?_
      refine vl_guard_f rfl rfl rfl rfl ?_
      refine vl_guard_f rfl rfl rfl rfl ?_
      refine vl_det (det_pick_t rfl rfl) rfl ?_
      refine vl_det (det_move rfl) rfl ?_
      refine vl_guard_f rfl rfl rfl rfl ?_
      refine vl_guard_f rfl rfl rfl rfl ?_
      refine vl_guard_f rfl rfl rfl rfl ?_
      refine vl_det (det_pick_t rfl rfl) rfl ?_
      exact vl_cut_end trivial (by first | rfl | exact bool_to_t (by first | omega | simp_all) | exact bool_to_f (by first | omega | simp_all) | exact bool_to (by first | omega | simp_all) | exact bool_to_b (by first | omega | simp_all))
  · skip
    refine vl_det (det_assign rfl) rfl ?_
    refine vl_end [(4, _)] ⟨rfl, trivial⟩ ?_
    refine then_next ?_
    refine vc_ret ?_
    refine ret_wk (L' := F) (.skip (.refl _)) ?_
    refine ret1 rfl rfl ?_
    exact ⟨rfl, rfl⟩
end Go.Proofs.Ytakokckokchacaa
namespace Go.Proofs.Ytakokckokchacaa
open Go.RowKit
set_option linter.unusedVariables false
set_option maxRecDepth 20000
variable {B : Nat} {w0 : World} {F R L M : List Ch} {A A2 A3 : Option Addr} {n c c2 c3 g : Nat} {q : List StepC}
theorem det_cap_sl {C : Cx} {fr : Fr} {L : List Ch} {x : Operand} {ty t e : TypeId} {A : Option Addr} {n c : Nat} (ht : C.P.underlying t = some (.slice e)) (h : ev fr x = some (.slice A n c)) : Det C fr L (.call { callee := .builtin .cap, args := #[x], argTypes := #[t] }) ty (.int .i64 (c : Int)) := fun a w ha hw d pos af g => by
  simp [execOp, resolve, invoke, builtin, Builtin.cap_, ha.tmp h, run_underlying ht, goInt]
theorem eff_grow {C : Cx} {fr : Fr} {L : List Ch} {x y : Operand} {ty t xt e : TypeId} {size bytes m : Nat} {zv : Value} {k kn : IntKind} (T : SlT C.P t e size bytes zv) (hx : C.P.underlying xt = some (.int kn)) (he : ev fr x = some (.slice none 0 0)) (hy : ev fr y = some (.int k (m : Int))) (hm : 0 < m) (hs : 0 < size) (hb : m * bytes ≤ 140737488355328) (h63 : m ≤ 140737488355328) :
    Eff C fr L (.call { callee := .builtin .append, args := #[x, y], argTypes := #[t, xt] }) ty (fun p L' => ∃ A c, p = .slice A m c ∧ L' = .own e size A 0 c [] :: L) := fun a w ha hw d pos af gg => by
  obtain ⟨i, hi, hz, hsz, hby⟩ := T.hi
  have hr := Lib.run_append_nil_zeros (P := C.P) w t xt ty e i zv k kn T.ht hx hi hz m hm (by omega) (by omega) (by rw [hby]; omega)
  have hge := grownCap_ge w m 0 e
  have hle := grownCap_le_maxLen w m 0 e (by unfold maxLen; omega)
  have hgrow : ∀ (o : Obj) (row : Option Nat), w.grownBy (w.drew.alloc o) row := fun o row => ⟨rfl, rfl, rfl, by simp, fun k hk _ => heap_alloc_old w.drew o hk⟩
  refine ⟨_, w.drew.alloc (.cells (Builtin.zeroCells zv.cells m ++ Builtin.zeroCells zv.cells (grownCap w m 0 e - m)) e), _, .inl ?_, ⟨some ⟨w.heap.size, 0, none⟩, grownCap w m 0 e, rfl, rfl⟩, hw.cons_new (hgrow _ none) ⟨by simp, Nat.zero_le _, .inr ⟨w.heap.size, _, rfl, hw.base, heap_alloc_new w.drew _, hle, ?_, by simp⟩⟩ (.inr ⟨w.heap.size, by simp [Ch.fp]; omega, Nat.le_refl _⟩)⟩
  · simp [execOp, resolve, invoke, builtin, ha.tmp he, ha.tmp hy, hr]
  · simp only [Array.size_append, size_zeroCells, T.hz, ← Nat.add_mul]
    congr 1
    omega
theorem sclone_d {q : List StepC} (hb : Bor B w0 F 5 (.slice A q.length c) q.length (stepsV q)) (h0 : 0 < q.length) (hn : q.length ≤ 1000000) :
    Does Try.prog B w0 42 [.slice A q.length c] F (fun r L => ∃ A' c', r = .slice A' q.length c' ∧ L = .own 38 5 A' q.length c' (stepsV q) :: F) := by
  rcases A with _ | ad
  · intro w hw
    obtain ⟨A', c', hv, hc, hl2, hr⟩ := hb w hw
    injection hv with q1 q2 q3
    subst q1
    obtain ⟨ad, e, _⟩ := hr h0
    cases e
  refine fn_walk Try.func42 8 rfl rfl rfl [(0, .slice (some ad) q.length c)] ⟨⟨rfl, rfl⟩, trivial⟩ ?_
  refine vc_seq ?_
  refine vc_region ?_
  refine vl_det (det_assign rfl) rfl ?_
  refine vl_end [(0, _)] ⟨rfl, trivial⟩ ?_
  refine then_next ?_
  refine vc_seq ?_
  refine vc_seq ?_
  refine vc_region ?_
  refine vl_det (det_move rfl) rfl ?_
  refine vl_det (det_sl_nil Try.underlying22 rfl rfl) rfl ?_
  refine vl_end [(0, _), (4, _)] ⟨rfl, rfl, trivial⟩ ?_
  refine then_next ?_
  refine vc_cond_f rfl ?_
  refine vc_skip ?_
  refine then_next ?_
  refine vc_seq ?_
  refine vc_region ?_
  refine vl_eff (eff_build_empty slT22) rfl ?_
  rintro _ _ ⟨A5, rfl, rfl⟩
  refine vl_det (det_move rfl) rfl ?_
  refine vl_eff (eff_app slT22 rfl (by repeat (first | exact .hd | apply Sel.tl)) rfl (by first | (exact Bor.own (by repeat (first | exact List.Mem.head _ | apply List.Mem.tail))) | (repeat (first | assumption | apply Bor.cons))) (steps_one _) (by omega) (by omega)) rfl ?_
  rintro _ _ ⟨A7, c7, rfl, rfl⟩
  refine vl_det (det_assign rfl) rfl ?_
  refine vl_end [(2, _)] ⟨rfl, trivial⟩ ?_
  refine then_next ?_
  refine vc_ret ?_
  rw [Nat.zero_add, List.nil_append]
  refine ret1 rfl rfl ?_
  exact ⟨_, _, rfl, rfl⟩
theorem anot_d {q : List StepC} (hb : Bor B w0 F 5 (.slice A q.length c) q.length (stepsV q)) (h0 : 0 < q.length) (hn : q.length ≤ 1000000) :
    Does Try.prog B w0 25 [.slice A q.length c] F (fun r L => ∃ A' c', r = .slice A' (q.length + 1) c' ∧ L = .own 38 5 A' (q.length + 1) c' (stepsV (q ++ [(5, 0, [], 0, 0)])) :: F) := by
  rw [steps_app, steps_sing]
  refine fn_walk Try.func25 8 rfl rfl rfl [(0, .slice A q.length c)] ⟨⟨rfl, rfl⟩, trivial⟩ ?_
  refine vc_seq ?_
  refine vc_region ?_
  refine vl_det (det_assign rfl) rfl ?_
  refine vl_end [(0, _)] ⟨rfl, trivial⟩ ?_
  refine then_next ?_
  refine vc_seq ?_
  refine vc_region ?_
  refine vl_det (det_move rfl) rfl ?_
  refine vl_call co42 rfl (sclone_d (by first | (exact Bor.own (by repeat (first | exact List.Mem.head _ | apply List.Mem.tail))) | (repeat (first | assumption | apply Bor.cons))) h0 hn) rfl ?_
  rintro _ _ ⟨A4, c4, rfl, hLL⟩
  obtain rfl := hLL.symm
  refine vl_det (det_buildp [(0, _)] [.int .i64 0, .int .i64 0, .string ⟨#[]⟩, .int .u64 0, .int .u64 0] [0] [_, _, _, _, _] rfl rfl (by kernel_rfl)) rfl ?_
  refine vl_pushs slT22 rfl rfl rfl (by omega) (by first | exact bv_one _ | exact strs_one _ | exact ints_one _ _ | (simp; done) | (simp [Value.oneCell']; done) | assumption) rfl rfl rfl (fun _ => rfl) (by repeat (first | exact .hd | apply Sel.tl)) (by omega) (by omega) ?_
  intro _ A7 c7
  refine vl_det (det_assign rfl) rfl ?_
  refine vl_end [(2, _)] ⟨rfl, trivial⟩ ?_
  refine then_next ?_
  refine vc_ret ?_
  refine ret1 rfl rfl ?_
  exact ⟨A7, c7, rfl, rfl⟩
theorem sgrow_d (m : Nat) (h0 : 0 < m) (hn : m ≤ 1000000) :
    Does Try.prog B w0 74 [.slice none 0 0, .int .i64 m] F (fun r L => ∃ A' c', r = .slice A' 0 c' ∧ L = .own 38 5 A' 0 c' [] :: F) := by
  refine fn_walk Try.func74 27 rfl rfl rfl [(0, .slice none 0 0), (1, .int .i64 m)] ⟨⟨rfl, rfl⟩, ⟨rfl, rfl⟩, trivial⟩ ?_
  refine vc_seq ?_
  refine vc_region ?_
  refine vl_det (det_assign rfl) rfl ?_
  refine vl_end [(0, _), (1, _)] ⟨rfl, rfl, trivial⟩ ?_
  refine then_next ?_
  refine vc_seq ?_
  refine vc_seq ?_
  refine vc_region ?_
  refine vl_det (det_move rfl) rfl ?_
  refine vl_det (det_lss rfl rfl) rfl ?_
  refine vl_end [(0, _), (1, _), (6, _)] ⟨rfl, rfl, rfl, trivial⟩ ?_
  refine then_next ?_
  refine vc_decideU rfl (fun h6 => ?_) (fun h6 => ?_)
  · skip
    exfalso; omega
  · skip
    refine vc_skip ?_
    refine then_next ?_
    refine vc_seq ?_
    refine vc_seq ?_
    refine vc_region ?_
    refine vl_det (det_move rfl) rfl ?_
    refine vl_det (det_move rfl) rfl ?_
    refine vl_det (det_cap_sl Try.underlying22 rfl) rfl ?_
    refine vl_det (det_move rfl) rfl ?_
    refine vl_det (det_len_sl Try.underlying22 rfl) rfl ?_
    refine vl_det (det_sub rfl rfl (w_i64 (by omega) (by omega))) rfl ?_
    refine vl_det (det_sub rfl rfl (r := (m : Int)) ((w_i64 (by omega) (by omega)).trans (by omega))) rfl ?_
    refine vl_det (det_assign rfl) rfl ?_
    refine vl_end [(0, _), (1, _)] ⟨rfl, rfl, trivial⟩ ?_
    refine then_next ?_
    refine vc_seq ?_
    refine vc_region ?_
    refine vl_det (det_move rfl) rfl ?_
    refine vl_det (det_gtr rfl rfl) rfl ?_
    refine vl_end [(0, _), (1, _), (16, _)] ⟨rfl, rfl, rfl, trivial⟩ ?_
    refine then_next ?_
    refine vc_decideU rfl (fun h16 => ?_) (fun h16 => ?_)
    · skip
      refine vc_region ?_
      refine vl_det (det_move rfl) rfl ?_
      refine vl_det (det_move rfl) rfl ?_
      refine vl_det (det_cap_sl Try.underlying22 rfl) rfl ?_
      refine vl_det (det_slice_hi (i := 0) (size := 5) Try.underlying22 (by kernel_rfl) rfl rfl rfl (by omega)) rfl ?_
      refine vl_det (det_move rfl) rfl ?_
      refine vl_eff (eff_grow (m := m) slT22 Try.underlying3 rfl rfl h0 (by omega) (by omega) (by omega)) rfl ?_
      rintro _ _ ⟨A22, c22, rfl, rfl⟩
      refine vl_det (det_move rfl) rfl ?_
      refine vl_det (det_len_sl Try.underlying22 rfl) rfl ?_
      refine vl_det (det_slice_hi (i := 0) (size := 5) Try.underlying22 (by kernel_rfl) rfl rfl rfl (by omega)) rfl ?_
      refine vl_det (det_assign rfl) rfl ?_
      refine vl_end [(0, _)] ⟨rfl, trivial⟩ ?_
      refine then_next ?_
      refine vc_seq ?_
      refine vc_region ?_
      refine vl_det (det_move rfl) rfl ?_
      refine vl_det (det_assign rfl) rfl ?_
      refine vl_end [(4, _)] ⟨rfl, trivial⟩ ?_
      refine then_next ?_
      refine vc_ret ?_
      refine ret1 rfl rfl ?_
      exact ⟨A22, c22, rfl, rfl⟩
    · skip
      exfalso; omega
def allQ (PL : List Pq) : List StepC := PL.flatMap (·.2.2)
theorem allQ_take {PL : List Pq} {k : Nat} (h : k < PL.length) : allQ (PL.take (k + 1)) = allQ (PL.take k) ++ (PL.getD k (none, 0, [])).2.2 := by
  unfold allQ
  rw [take_getD h (none, 0, []), List.flatMap_append, List.flatMap_singleton]
theorem allQ_le (PL : List Pq) (k : Nat) : (allQ (PL.take k)).length ≤ (allQ PL).length := by
  conv => rhs; rw [← List.take_append_drop k PL]; unfold allQ; rw [List.flatMap_append, List.length_append]
  unfold allQ; omega
theorem sconcat_d {PL : List Pq} (hr : Bor B w0 F 1 (.slice A PL.length c) PL.length (PL.map pqv)) (hP : PqB B w0 F PL) (hl : PL.length ≤ 1000000) (h0 : 0 < (allQ PL).length) (hn : (allQ PL).length ≤ 1000000) :
    Does Try.prog B w0 55 [.slice A PL.length c] F (fun r L => ∃ A' c', r = .slice A' (allQ PL).length c' ∧ L = .own 38 5 A' (allQ PL).length c' (stepsV (allQ PL)) :: F) := by
  refine fn_walk Try.func55 36 rfl rfl rfl [(0, .slice A PL.length c)] ⟨⟨rfl, rfl⟩, trivial⟩ ?_
  refine vc_seq ?_
  refine vc_region ?_
  refine vl_det (det_assign rfl) rfl ?_
  refine vl_end [(0, _)] ⟨rfl, trivial⟩ ?_
  refine then_next ?_
  refine vc_seq ?_
  refine vc_region ?_
  refine vl_det (det_assign rfl) rfl ?_
  refine vl_end [(0, _), (3, _)] ⟨rfl, rfl, trivial⟩ ?_
  refine then_next ?_
  refine vc_seq ?_
  refine vc_seq ?_
  refine vc_region ?_
  refine vl_det (det_move rfl) rfl ?_
  refine vl_det (det_len_sl Try.underlying31 rfl) rfl ?_
  refine vl_det (det_move rfl) rfl ?_
  refine vl_end [(0, _), (3, _), (9, _), (10, _), (11, _)] ⟨rfl, rfl, rfl, rfl, rfl, trivial⟩ ?_
  refine then_next ?_
  refine vc_block ?_
  refine vc_loopJ (fun zf zL zm => ∃ (k : Nat), (k ≤ PL.length) ∧ PL.length - k = zm ∧ Sub zf [(0, .slice A PL.length c), (3, .int .i64 (allQ (PL.take k)).length), (9, .slice A PL.length c), (10, .int .i64 PL.length), (11, .int .i64 k)] ∧ Wk zL (F)) _ ⟨0, Nat.zero_le _, rfl, ⟨(by first | rfl | exact int_to (by omega) | exact sl_to (by omega)), (by first | rfl | exact int_to (by omega) | exact sl_to (by omega)), (by first | rfl | exact int_to (by omega) | exact sl_to (by omega)), (by first | rfl | exact int_to (by omega) | exact sl_to (by omega)), (by first | rfl | exact int_to (by omega) | exact sl_to (by omega)), trivial⟩, .refl _⟩ ?_
  rintro _ _ _ ⟨k, hk, rfl, hs, hp⟩
  refine vc_weaken _ hs (vc_wk hp ?_)
  clear hs hp
  refine vc_seq ?_
  refine vc_region ?_
  refine vl_det (det_lss rfl rfl) rfl ?_
  refine vl_end [(0, _), (3, _), (9, _), (10, _), (11, _), (12, _)] ⟨rfl, rfl, rfl, rfl, rfl, rfl, trivial⟩ ?_
  refine then_next ?_
  refine vc_seq ?_
  refine vc_decideU rfl (fun h12 => ?_) (fun h12 => ?_)
  · skip
    have hg := pq_get (PL := PL) (k := k) (by omega)
    have htk := allQ_take (PL := PL) (k := k) (by omega)
    have hle := allQ_le PL (k + 1)
    rw [htk, List.length_append] at hle
    obtain ⟨⟨A9, c9, q9⟩, he9⟩ : ∃ e, e = PL.getD k (none, 0, []) := ⟨_, rfl⟩
    rw [← he9] at hg htk hle
    simp only at hle htk
    have hg2 : (PL.map pqv)[k * 1]? = some (.slice A9 q9.length c9) := hg
    have hel : (allQ (PL.take (k + 1))).length = (allQ (PL.take k)).length + q9.length := by rw [htk, List.length_append]
    refine vc_skip ?_
    refine then_next ?_
    refine vc_seq ?_
    refine vc_block ?_
    refine vc_seq ?_
    refine vc_region ?_
    refine vl_det (det_indexAddr (size := 1) Try.underlying31 (by kernel_rfl) rfl rfl rfl (by omega) (by first | (exact Bor.own (by repeat (first | exact List.Mem.head _ | apply List.Mem.tail))) | (repeat (first | assumption | apply Bor.cons)))) rfl ?_
    refine vl_det (det_load_row (by kernel_rfl) rfl (by first | (exact Bor.own (by repeat (first | exact List.Mem.head _ | apply List.Mem.tail))) | (repeat (first | assumption | apply Bor.cons))) (by omega) hg2) rfl ?_
    refine vl_det (det_assign rfl) rfl ?_
    refine vl_end [(0, _), (3, _), (5, _), (9, _), (10, _), (11, _)] ⟨rfl, rfl, rfl, rfl, rfl, rfl, trivial⟩ ?_
    refine then_next ?_
    refine vc_seq ?_
    refine vc_region ?_
    refine vl_det (det_move rfl) rfl ?_
    refine vl_det (det_move rfl) rfl ?_
    refine vl_det (det_len_sl Try.underlying22 rfl) rfl ?_
    refine vl_det (det_add rfl rfl (w_i64 (by omega) (by omega))) rfl ?_
    refine vl_det (det_assign rfl) rfl ?_
    refine vl_end [(0, _), (3, _), (9, _), (10, _), (11, _)] ⟨rfl, rfl, rfl, rfl, rfl, trivial⟩ ?_
    refine then_next ?_
    refine vc_seq ?_
    refine vc_region ?_
    refine vl_det (det_move rfl) rfl ?_
    refine vl_det (det_lss rfl rfl) rfl ?_
    refine vl_end [(0, _), (3, _), (9, _), (10, _), (11, _), (20, _)] ⟨rfl, rfl, rfl, rfl, rfl, rfl, trivial⟩ ?_
    refine then_next ?_
    refine vc_decideU rfl (fun h20 => ?_) (fun h20 => ?_)
    · skip
      exfalso; omega
    · skip
      refine vc_skip ?_
      refine in_normal ?_
      refine then_next ?_
      refine vc_region ?_
      refine vl_det (det_add rfl rfl (w_i64 (by omega) (by omega))) rfl ?_
      refine vl_det (det_move rfl) rfl ?_
      refine vl_end [(0, _), (3, _), (9, _), (10, _), (11, _)] ⟨rfl, rfl, rfl, rfl, rfl, trivial⟩ ?_
      refine in_loop_ ⟨_, by omega, k + 1, by omega, rfl, ⟨(by first | rfl | exact int_to (by omega) | exact sl_to (by omega)), (by first | rfl | exact int_to (by omega) | exact sl_to (by omega)), (by first | rfl | exact int_to (by omega) | exact sl_to (by omega)), (by first | rfl | exact int_to (by omega) | exact sl_to (by omega)), (by first | rfl | exact int_to (by omega) | exact sl_to (by omega)), trivial⟩, .refl _⟩
  · skip
    obtain rfl : k = PL.length := by omega
    rw [List.take_length]
    refine vc_exit ?_
    refine then_exit ?_
    refine loop_exit ?_
    refine in_eq ?_
    refine then_next ?_
    refine vc_seq ?_
    refine vc_region ?_
    refine vl_det (det_move rfl) rfl ?_
    refine vl_call co74 rfl (sgrow_d (allQ PL).length h0 hn) rfl ?_
    rintro _ _ ⟨A24, c24, rfl, hLL⟩
    obtain rfl := hLL.symm
    refine vl_det (det_assign rfl) rfl ?_
    refine vl_end [(0, _), (6, _)] ⟨rfl, rfl, trivial⟩ ?_
    refine then_next ?_
    refine vc_seq ?_
    refine vc_seq ?_
    refine vc_region ?_
    refine vl_det (det_move rfl) rfl ?_
    refine vl_det (det_len_sl Try.underlying31 rfl) rfl ?_
    refine vl_det (det_move rfl) rfl ?_
    refine vl_end [(6, _), (25, _), (26, _), (27, _)] ⟨rfl, rfl, rfl, rfl, trivial⟩ ?_
    refine then_next ?_
    refine vc_block ?_
    refine vc_loopJ (fun zf zL zm => ∃ (k : Nat) (A6 : Option Addr) (c6 : Nat), (k ≤ PL.length) ∧ PL.length - k = zm ∧ Sub zf [(6, .slice A6 (allQ (PL.take k)).length c6), (25, .slice A PL.length c), (26, .int .i64 PL.length), (27, .int .i64 k)] ∧ Wk zL (.own 38 5 A6 (allQ (PL.take k)).length c6 (stepsV (allQ (PL.take k))) :: F)) _ ⟨0, A24, c24, Nat.zero_le _, rfl, ⟨(by first | rfl | exact int_to (by omega) | exact sl_to (by omega)), (by first | rfl | exact int_to (by omega) | exact sl_to (by omega)), (by first | rfl | exact int_to (by omega) | exact sl_to (by omega)), (by first | rfl | exact int_to (by omega) | exact sl_to (by omega)), trivial⟩, .refl _⟩ ?_
    rintro _ _ _ ⟨k, A6, c6, hk, rfl, hs, hp⟩
    refine vc_weaken _ hs (vc_wk hp ?_)
    clear hs hp
    refine vc_seq ?_
    refine vc_region ?_
    refine vl_det (det_lss rfl rfl) rfl ?_
    refine vl_end [(6, _), (25, _), (26, _), (27, _), (28, _)] ⟨rfl, rfl, rfl, rfl, rfl, trivial⟩ ?_
    refine then_next ?_
    refine vc_seq ?_
    refine vc_decideU rfl (fun h28 => ?_) (fun h28 => ?_)
    · skip
      have hg := pq_get (PL := PL) (k := k) (by omega)
      have htk := allQ_take (PL := PL) (k := k) (by omega)
      have hbe := hP _ (getD_mem (show k < PL.length by omega) ((none, 0, []) : Pq))
      have hle := allQ_le PL (k + 1)
      have hle0 := allQ_le PL k
      rw [htk, List.length_append] at hle
      obtain ⟨⟨A9, c9, q9⟩, he9⟩ : ∃ e, e = PL.getD k (none, 0, []) := ⟨_, rfl⟩
      rw [← he9] at hg htk hle hbe
      simp only at hle htk hbe
      have hg2 : (PL.map pqv)[k * 1]? = some (.slice A9 q9.length c9) := hg
      have hel : (allQ (PL.take k)).length + q9.length = (allQ (PL.take (k + 1))).length := by rw [htk, List.length_append]
      refine vc_skip ?_
      refine then_next ?_
      refine vc_seq ?_
      refine vc_block ?_
      refine vc_seq ?_
      refine vc_region ?_
      refine vl_det (det_indexAddr (size := 1) Try.underlying31 (by kernel_rfl) rfl rfl rfl (by omega) (by first | (exact Bor.own (by repeat (first | exact List.Mem.head _ | apply List.Mem.tail))) | (repeat (first | assumption | apply Bor.cons)))) rfl ?_
      refine vl_det (det_load_row (by kernel_rfl) rfl (by first | (exact Bor.own (by repeat (first | exact List.Mem.head _ | apply List.Mem.tail))) | (repeat (first | assumption | apply Bor.cons))) (by omega) hg2) rfl ?_
      refine vl_det (det_assign rfl) rfl ?_
      refine vl_end [(6, _), (8, _), (25, _), (26, _), (27, _)] ⟨rfl, rfl, rfl, rfl, rfl, trivial⟩ ?_
      refine then_next ?_
      refine vc_region ?_
      refine vl_det (det_move rfl) rfl ?_
      refine vl_det (det_move rfl) rfl ?_
      refine vl_eff (eff_app slT22 rfl (by repeat (first | exact .hd | apply Sel.tl)) rfl (by first | (exact Bor.own (by repeat (first | exact List.Mem.head _ | apply List.Mem.tail))) | (repeat (first | assumption | apply Bor.cons))) (steps_one _) (by omega) (by omega)) rfl ?_
      rintro _ _ ⟨A33, c33, rfl, rfl⟩
      refine vl_det (det_assign rfl) rfl ?_
      refine vl_end [(6, _), (25, _), (26, _), (27, _)] ⟨rfl, rfl, rfl, rfl, trivial⟩ ?_
      refine in_normal ?_
      refine then_next ?_
      refine vc_region ?_
      refine vl_det (det_add rfl rfl (w_i64 (by omega) (by omega))) rfl ?_
      refine vl_det (det_move rfl) rfl ?_
      refine vl_end [(6, _), (25, _), (26, _), (27, _)] ⟨rfl, rfl, rfl, rfl, trivial⟩ ?_
      refine in_loop_ ⟨_, by omega, k + 1, A33, c33, by omega, rfl, ⟨(by first | rfl | exact int_to (by omega) | exact sl_to (by omega)), (by first | rfl | exact int_to (by omega) | exact sl_to (by omega)), (by first | rfl | exact int_to (by omega) | exact sl_to (by omega)), (by first | rfl | exact int_to (by omega) | exact sl_to (by omega)), trivial⟩, wk_own hel (by rw [htk, steps_app]) (.refl _)⟩
    · skip
      obtain rfl : k = PL.length := by omega
      rw [List.take_length]
      refine vc_exit ?_
      refine then_exit ?_
      refine loop_exit ?_
      refine in_eq ?_
      refine then_next ?_
      refine vc_seq ?_
      refine vc_region ?_
      refine vl_det (det_move rfl) rfl ?_
      refine vl_det (det_assign rfl) rfl ?_
      refine vl_end [(2, _)] ⟨rfl, trivial⟩ ?_
      refine then_next ?_
      refine vc_ret ?_
      refine ret1 rfl rfl ?_
      exact ⟨A6, c6, rfl, rfl⟩
theorem ajoin_d (op : Int) {PL : List Pq} (hr : Bor B w0 F 1 (.slice A PL.length c) PL.length (PL.map pqv)) (hP : PqB B w0 F PL) (hl : PL.length ≤ 1000000) (h2 : 2 ≤ PL.length) (h0 : 0 < (allQ PL).length) (hn : (allQ PL).length ≤ 1000000) :
    Does Try.prog B w0 43 [.int .i64 op, .slice A PL.length c] F (fun r L => ∃ A' c', r = .slice A' ((allQ PL).length + 1) c' ∧ L = .own 38 5 A' ((allQ PL).length + 1) c' (stepsV (allQ PL ++ [(op, (PL.length : Int), [], 0, 0)])) :: F) := by
  rw [steps_app, steps_sing]
  refine fn_walk Try.func43 19 rfl rfl rfl [(0, .int .i64 op), (1, .slice A PL.length c)] ⟨⟨rfl, rfl⟩, ⟨rfl, rfl⟩, trivial⟩ ?_
  refine vc_seq ?_
  refine vc_region ?_
  refine vl_det (det_assign rfl) rfl ?_
  refine vl_end [(0, _), (1, _)] ⟨rfl, rfl, trivial⟩ ?_
  refine then_next ?_
  refine vc_seq ?_
  refine vc_region ?_
  refine vl_det (det_move rfl) rfl ?_
  refine vl_call co55 rfl (sconcat_d (by first | (exact Bor.own (by repeat (first | exact List.Mem.head _ | apply List.Mem.tail))) | (repeat (first | assumption | apply Bor.cons))) hP hl h0 hn) rfl ?_
  rintro _ _ ⟨A7, c7, rfl, hLL⟩
  obtain rfl := hLL.symm
  refine vl_det (det_assign rfl) rfl ?_
  refine vl_end [(0, _), (1, _), (5, _)] ⟨rfl, rfl, rfl, trivial⟩ ?_
  refine then_next ?_
  refine vc_seq ?_
  refine vc_seq ?_
  refine vc_region ?_
  refine vl_det (det_move rfl) rfl ?_
  refine vl_det (det_len_sl Try.underlying31 rfl) rfl ?_
  refine vl_det (det_gtr rfl rfl) rfl ?_
  refine vl_end [(0, _), (1, _), (5, _), (10, _)] ⟨rfl, rfl, rfl, rfl, trivial⟩ ?_
  refine then_next ?_
  refine vc_decideU rfl (fun h10 => ?_) (fun h10 => ?_)
  · skip
    refine vc_region ?_
    refine vl_det (det_move rfl) rfl ?_
    refine vl_det (det_move rfl) rfl ?_
    refine vl_det (det_move rfl) rfl ?_
    refine vl_det (det_len_sl Try.underlying31 rfl) rfl ?_
    refine vl_det (det_buildp [(0, _), (1, _)] [.int .i64 0, .int .i64 0, .string ⟨#[]⟩, .int .u64 0, .int .u64 0] [0, 1] [_, _, _, _, _] rfl rfl (by kernel_rfl)) rfl ?_
    refine vl_pushs slT22 rfl rfl rfl (by omega) (by first | exact bv_one _ | exact strs_one _ | exact ints_one _ _ | (simp; done) | (simp [Value.oneCell']; done) | assumption) rfl rfl rfl (fun _ => rfl) (by repeat (first | exact .hd | apply Sel.tl)) (by omega) (by omega) ?_
    intro _ A17 c17
    refine vl_det (det_assign rfl) rfl ?_
    refine vl_end [(5, _)] ⟨rfl, trivial⟩ ?_
    refine then_next ?_
    refine vc_seq ?_
    refine vc_region ?_
    refine vl_det (det_move rfl) rfl ?_
    refine vl_det (det_assign rfl) rfl ?_
    refine vl_end [(4, _)] ⟨rfl, trivial⟩ ?_
    refine then_next ?_
    refine vc_ret ?_
    refine ret1 rfl rfl ?_
    exact ⟨A17, c17, rfl, rfl⟩
  · skip
    exfalso; omega
theorem aboth_d {PL : List Pq} (hr : Bor B w0 F 1 (.slice A PL.length c) PL.length (PL.map pqv)) (hP : PqB B w0 F PL) (hl : PL.length ≤ 1000000) (h2 : 2 ≤ PL.length) (h0 : 0 < (allQ PL).length) (hn : (allQ PL).length ≤ 1000000) :
    Does Try.prog B w0 26 [.slice A PL.length c] F (fun r L => ∃ A' c', r = .slice A' ((allQ PL).length + 1) c' ∧ L = .own 38 5 A' ((allQ PL).length + 1) c' (stepsV (allQ PL ++ [(6, (PL.length : Int), [], 0, 0)])) :: F) := by
  refine fn_walk Try.func26 5 rfl rfl rfl [(0, .slice A PL.length c)] ⟨⟨rfl, rfl⟩, trivial⟩ ?_
  refine vc_seq ?_
  refine vc_region ?_
  refine vl_det (det_assign rfl) rfl ?_
  refine vl_end [(0, _)] ⟨rfl, trivial⟩ ?_
  refine then_next ?_
  refine vc_seq ?_
  refine vc_region ?_
  refine vl_det (det_move rfl) rfl ?_
  refine vl_call co43 rfl (ajoin_d 6 (by first | (exact Bor.own (by repeat (first | exact List.Mem.head _ | apply List.Mem.tail))) | (repeat (first | assumption | apply Bor.cons))) hP hl h2 h0 hn) rfl ?_
  rintro _ _ ⟨A4, c4, rfl, hLL⟩
  obtain rfl := hLL.symm
  refine vl_det (det_assign rfl) rfl ?_
  refine vl_end [(2, _)] ⟨rfl, trivial⟩ ?_
  refine then_next ?_
  refine vc_ret ?_
  refine ret1 rfl rfl ?_
  exact ⟨A4, c4, rfl, rfl⟩
theorem aany_d {PL : List Pq} (hr : Bor B w0 F 1 (.slice A PL.length c) PL.length (PL.map pqv)) (hP : PqB B w0 F PL) (hl : PL.length ≤ 1000000) (h2 : 2 ≤ PL.length) (h0 : 0 < (allQ PL).length) (hn : (allQ PL).length ≤ 1000000) :
    Does Try.prog B w0 27 [.slice A PL.length c] F (fun r L => ∃ A' c', r = .slice A' ((allQ PL).length + 1) c' ∧ L = .own 38 5 A' ((allQ PL).length + 1) c' (stepsV (allQ PL ++ [(7, (PL.length : Int), [], 0, 0)])) :: F) := by
  refine fn_walk Try.func27 5 rfl rfl rfl [(0, .slice A PL.length c)] ⟨⟨rfl, rfl⟩, trivial⟩ ?_
  refine vc_seq ?_
  refine vc_region ?_
  refine vl_det (det_assign rfl) rfl ?_
  refine vl_end [(0, _)] ⟨rfl, trivial⟩ ?_
  refine then_next ?_
  refine vc_seq ?_
  refine vc_region ?_
  refine vl_det (det_move rfl) rfl ?_
  refine vl_call co43 rfl (ajoin_d 7 (by first | (exact Bor.own (by repeat (first | exact List.Mem.head _ | apply List.Mem.tail))) | (repeat (first | assumption | apply Bor.cons))) hP hl h2 h0 hn) rfl ?_
  rintro _ _ ⟨A4, c4, rfl, hLL⟩
  obtain rfl := hLL.symm
  refine vl_det (det_assign rfl) rfl ?_
  refine vl_end [(2, _)] ⟨rfl, trivial⟩ ?_
  refine then_next ?_
  refine vc_ret ?_
  refine ret1 rfl rfl ?_
  exact ⟨A4, c4, rfl, rfl⟩
end Go.Proofs.Ytakokckokchacaa
namespace Go.Proofs.Ytakokckokchacaa
open Go.RowKit
set_option linter.unusedVariables false
set_option maxRecDepth 20000
theorem dec_struct5 {P : Program} {w : World} {t : TypeId} {α β γ δ ε : Type} {f0 f1 f2 f3 f4 : Field} {F0 : α → Value} {F1 : β → Value} {F2 : γ → Value} {F3 : δ → Value} {F4 : ε → Value} {O0 : α → Prop} {O1 : β → Prop} {O2 : γ → Prop} {O3 : δ → Prop} {O4 : ε → Prop}
    (ht : P.underlying t = some (.struct #[f0, f1, f2, f3, f4])) (hc : P.cellsOf t = 5) (h0 : f0.offset = 0 ∧ P.cellsOf f0.type = 1) (h1 : f1.offset = 1 ∧ P.cellsOf f1.type = 1) (h2 : f2.offset = 2 ∧ P.cellsOf f2.type = 1) (h3 : f3.offset = 3 ∧ P.cellsOf f3.type = 1) (h4 : f4.offset = 4 ∧ P.cellsOf f4.type = 1)
    (d0 : DecT P w f0.type (fun x => [F0 x]) O0) (d1 : DecT P w f1.type (fun x => [F1 x]) O1) (d2 : DecT P w f2.type (fun x => [F2 x]) O2) (d3 : DecT P w f3.type (fun x => [F3 x]) O3) (d4 : DecT P w f4.type (fun x => [F4 x]) O4) :
    DecT P w t (fun x : α × β × γ × δ × ε => [F0 x.1, F1 x.2.1, F2 x.2.2.1, F3 x.2.2.2.1, F4 x.2.2.2.2]) (fun x => O0 x.1 ∧ O1 x.2.1 ∧ O2 x.2.2.1 ∧ O3 x.2.2.2.1 ∧ O4 x.2.2.2.2) := by
  intro H enc n cs y h
  obtain ⟨xs, n', _, _, hl, hx, hf⟩ := DataW.trod_struct ht h
  rw [hc] at hl
  obtain ⟨c0, c1, c2, c3, c4, rfl⟩ : ∃ c0 c1 c2 c3 c4, cs = [c0, c1, c2, c3, c4] := by
    match cs, hl with
    | [c0, c1, c2, c3, c4], _ => exact ⟨c0, c1, c2, c3, c4, rfl⟩
  obtain ⟨y0, y1, y2, y3, y4, rfl⟩ : ∃ y0 y1 y2 y3 y4, xs = [y0, y1, y2, y3, y4] := by
    match xs, hx with
    | [y0, y1, y2, y3, y4], _ => exact ⟨y0, y1, y2, y3, y4, rfl⟩
  have g0 := hf 0 f0 rfl
  have g1 := hf 1 f1 rfl
  have g2 := hf 2 f2 rfl
  have g3 := hf 3 f3 rfl
  have g4 := hf 4 f4 rfl
  rw [h0.1, h0.2] at g0
  rw [h1.1, h1.2] at g1
  rw [h2.1, h2.2] at g2
  rw [h3.1, h3.2] at g3
  rw [h4.1, h4.2] at g4
  obtain ⟨a, ea, oa⟩ := d0 H enc _ _ _ g0
  obtain ⟨b, eb, ob⟩ := d1 H enc _ _ _ g1
  obtain ⟨c, ec, oc⟩ := d2 H enc _ _ _ g2
  obtain ⟨d, ed, od⟩ := d3 H enc _ _ _ g3
  obtain ⟨e, ee, oe⟩ := d4 H enc _ _ _ g4
  simp at ea eb ec ed ee
  exact ⟨(a, b, c, d, e), by simp [ea, eb, ec, ed, ee], oa, ob, oc, od, oe⟩
def StepC.ok (s : StepC) : Prop := (-9223372036854775808 ≤ s.1 ∧ s.1 ≤ 9223372036854775807) ∧ (-9223372036854775808 ≤ s.2.1 ∧ s.2.1 ≤ 9223372036854775807) ∧ s.2.2.1.length ≤ maxLen ∧ s.2.2.2.1 < 18446744073709551616 ∧ s.2.2.2.2 < 18446744073709551616
theorem dec_step (w : World) : DecT Try.prog w 38 StepC.cells StepC.ok :=
  dec_struct5 Try.underlying38 (by kernel_rfl) ⟨rfl, by kernel_rfl⟩ ⟨rfl, by kernel_rfl⟩ ⟨rfl, by kernel_rfl⟩ ⟨rfl, by kernel_rfl⟩ ⟨rfl, by kernel_rfl⟩ (dec_int Try.underlying3) (dec_int Try.underlying3) (dec_strL Try.underlying9) (dec_u64 Try.underlying36) (dec_u64 Try.underlying36)
end Go.Proofs.Ytakokckokchacaa
namespace Go.Proofs.Ytakokckokchacaa
open Go.RowKit Go.WideShapes
theorem agg_of {P : Program} {W : World} {base : Nat} {t : TypeId} {fs : Array Field} {v : Value} {xs : List Value} (ht : P.underlying t = some (.struct fs)) (hv : Value.okWide P W .any base t v) (e : v.cells.toList = xs) : Value.agg xs.toArray = v := by
  obtain ⟨cs, rfl, _⟩ := okWide_struct ht hv
  simp only [Value.cells] at e
  rw [← e]
end Go.Proofs.Ytakokckokchacaa
namespace Go.Proofs.Ytakokckokchacaa
open Go.RowKit
set_option linter.unusedVariables false
set_option maxRecDepth 20000
/-! steps tell the tree -/
theorem par_st (t : Qt) (hw : t.wf) : (t.isN → ∀ S r, parS S (t.st ++ r) = parS (S ++ [t]) r) ∧ (∀ k ∈ toL t, ∀ S r, parS S (k.st ++ r) = parS (S ++ [k]) r) := by
  refine Qt.ind (P := fun t => ∀ S r, parS S (t.st ++ r) = parS (S ++ [t]) r) (fun s h1 h2 S r => ?_) (fun k h1 h2 ih S r => ?_) (fun op l h1 h2 h3 ih S r => ?_) t hw
  · show parS S (s :: r) = _
    rw [parS_cons]
    unfold stepT
    rw [if_neg (by omega), if_neg (by omega)]
  · show parS S ((k.st ++ [(5, 0, [], 0, 0)]) ++ r) = _
    rw [List.append_assoc, ih, List.singleton_append, parS_cons]
    congr 1
    unfold stepT
    simp
  · have hl : ∀ (l : List Qt) (S : List Qt) (r : List StepC), (∀ t ∈ l, ∀ S r, parS S (t.st ++ r) = parS (S ++ [t]) r) → parS S (l.flatMap Qt.st ++ r) = parS (S ++ l) r := by
      intro l
      induction l with
      | nil => intro S r _; simp
      | cons k l ihl =>
        intro S r h
        rw [List.flatMap_cons, List.append_assoc, h k (by simp), ihl _ _ fun t ht => h t (by simp [ht])]
        simp
    show parS S (((ofL l).st ++ [(op, ((ofL l).len : Int), [], 0, 0)]) ++ r) = _
    rw [ofL_st, ofL_len, List.append_assoc, hl l S _ ih, List.singleton_append, parS_cons]
    congr 1
    unfold stepT
    rw [if_neg (by simp only; omega), if_pos h1]
    simp
theorem parS_st {t : Qt} (h1 : t.isN) (h2 : t.wf) : parS [] t.st = [t] := by
  have := (par_st t h2).1 h1 [] []
  rwa [List.append_nil] at this
/-! normal form -/
def ndS (S : List Qt) : Prop := (S.map Qt.st).Nodup
def Qt.nf : Qt → Prop
  | .leaf _ => True
  | .not k => isNt k = false ∧ k.nf
  | .group op ks => ndS (toL ks) ∧ (∀ t ∈ toL ks, ¬ (isG t = true ∧ gop t = op)) ∧ ks.nf
  | .nil => True
  | .cons k r => k.nf ∧ r.nf
end Go.Proofs.Ytakokckokchacaa

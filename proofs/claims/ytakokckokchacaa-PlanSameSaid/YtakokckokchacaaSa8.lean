/-
  Texts of one proof, joined: part 8. No condition.
-/
import Derived.Test.YtakokckokchacaaSa7
import Derived.WideShapes
namespace Go.Proofs.Ytakokckokchacaa
open Go.RowKit
set_option linter.unusedVariables false
set_option maxRecDepth 20000
variable {B : Nat} {w0 : World} {F R L M : List Ch} {A A2 AT : Option Addr} {n c c2 cT g : Nat} {x : RecC} {T : List Txt} {s : StepC} {t : Qt} {q : List StepC}
theorem termsL_le (txt src : List UInt8) (h1 : txt.length ≤ 100000000) (h2 : src.length ≤ 100000000) : (termsL txt src).length ≤ 1000000000 := by
  have h3 := setT_len (rawT txt src)
  have h4 := rawT_len txt src
  have h5 := wordsL_len txt
  have h6 := wordsL_len src
  unfold termsL
  omega
def NAhead (P : Program) (t : TypeId) (v : Value) (name : String) : Prop := ∀ w, (nilAhead (P.types.size + Made.depth) t v name).run P w = .ok (some false) w
theorem det_nilCheck_m {C : Cx} {fr : Fr} {L : List Ch} {ty t : TypeId} {x : Operand} {v : Value} {name name2 : String} {caps : Array Value} (hn : name2 = name) (h : ev fr x = some (.func (.method name2) #[.iface t v] caps)) (ha : NAhead C.P t v name) :
    Det C fr L (.nilCheck x) ty (.func (.method name2) #[.iface t v] caps) := fun a w hfr hw d pos af g => by
  subst hn
  have h2 := ha w
  simp only [execOp, hfr.tmp h]
  simp [Sem.run_bind, run_program, h2]
theorem nv_ahead {r : Value} (h : NV B w0 L t [r]) (hn : t.isN) : ∃ ty v, r = .iface ty v ∧ NAhead Try.prog ty v nmMeans := by
  cases t with
  | leaf s => exact ⟨_, _, by simpa using (show [r] = _ from h), fun w => by kernel_rfl⟩
  | not k => obtain ⟨x, hx, hk⟩ := h; exact ⟨_, _, by simpa using hx, fun w => by kernel_rfl⟩
  | group op ks => obtain ⟨A, c, vs, hx, _⟩ := h; exact ⟨_, _, by simpa using hx, fun w => by kernel_rfl⟩
  | nil => exact hn.elim
  | cons k r => exact hn.elim
theorem pmeans_ok (hb : Bor B w0 F 5 (.slice A q.length c) q.length (stepsV q)) (h1 : x.2.2.1.length ≤ 1000000) (h2 : x.2.2.2.length ≤ 1000000) (hc : checkQ q = 0) (hq : q.length ≤ 1000) (hd : depS [] q = some [t.dep]) (hp : parS [] q = [t]) (hn : t.isN) (hw : t.wf) (hst : t.st = q) :
    Does Try.prog B w0 21 [.agg (RecC.cells x).toArray, .slice A q.length c] F (fun r L => r = .tuple #[.bool (meansT x (termsL x.2.2.2 x.2.2.1) t), .int .i64 0] ∧ L = F) := by
  obtain ⟨tm, lv, src, txt⟩ := x
  simp only at h1 h2 ⊢
  have hTl := termsL_le txt src (by omega) (by omega)
  refine fn_walk Try.func21 23 rfl rfl rfl [(0, .agg #[.int .u64 (tm : Int), .int .u8 (lv.toNat : Int), .string ⟨src.toArray⟩, .string ⟨txt.toArray⟩]), (1, .slice A q.length c)] ⟨⟨rfl, rfl⟩, ⟨rfl, rfl⟩, trivial⟩ ?_
  refine vc_seq ?_
  refine vc_region ?_
  refine vl_eff (eff_box rfl rfl) rfl ?_
  rintro _ _ ⟨g2, rfl, rfl⟩
  refine vl_det (det_assign rfl) rfl ?_
  refine vl_det (det_assign rfl) rfl ?_
  refine vl_end [(1, _), (2, _)] ⟨rfl, rfl, trivial⟩ ?_
  refine then_next ?_
  refine vc_seq ?_
  refine vc_seq ?_
  refine vc_region ?_
  refine vl_det (det_move rfl) rfl ?_
  refine vl_call co16 rfl (check_d (by first | (exact Bor.own (by repeat (first | exact List.Mem.head _ | apply List.Mem.tail))) | (repeat (first | assumption | apply Bor.cons)))) rfl ?_
  rintro _ _ ⟨rfl, hLL⟩
  obtain rfl := hLL.symm
  refine vl_det (det_assign rfl) rfl ?_
  refine vl_end [(1, _), (2, _), (6, _)] ⟨rfl, rfl, rfl, trivial⟩ ?_
  refine then_next ?_
  refine vc_seq ?_
  refine vc_region ?_
  refine vl_det (det_move rfl) rfl ?_
  refine vl_det (det_neq rfl rfl) rfl ?_
  refine vl_end [(1, _), (2, _), (6, _), (10, _)] ⟨rfl, rfl, rfl, rfl, trivial⟩ ?_
  refine then_next ?_
  refine vc_decideU rfl (fun h10 => ?_) (fun h10 => ?_)
  · skip
    exfalso; exact h10 hc
  · skip
    refine vc_skip ?_
    refine then_next ?_
    refine vc_seq ?_
    refine vh_region (S := .blk g2 45 [.int .u64 (tm : Int), .int .u8 (lv.toNat : Int), .string ⟨src.toArray⟩, .string ⟨txt.toArray⟩] :: F) (by kernel_rfl) (by repeat (first | exact List.Sublist.refl _ | exact List.nil_sublist _ | exact List.sublist_append_right _ _ | apply List.Sublist.cons_cons | apply List.Sublist.cons)) ?_
    refine vh_take 0 rfl (by kernel_rfl) (by kernel_rfl) (by kernel_rfl) (det_move rfl) rfl ?_
    refine vh_take 2 rfl (by kernel_rfl) (by kernel_rfl) (by kernel_rfl) (det_load_whole 4 (by kernel_rfl) rfl (by repeat (first | exact .hd | apply Sel.tl)) (by first | rfl | (simp; omega) | (simp [*]; done))) rfl ?_
    refine vh_take 3 rfl (by kernel_rfl) (by kernel_rfl) (by kernel_rfl) (det_load_whole 4 (by kernel_rfl) rfl (by repeat (first | exact .hd | apply Sel.tl)) (by first | rfl | (simp; omega) | (simp [*]; done))) rfl ?_
    refine vh_one 1 (by kernel_rfl) ?_
    refine st_call rfl .no co30 rfl (tree_x (by first | (exact Bor.own (by repeat (first | exact List.Mem.head _ | apply List.Mem.tail))) | (repeat (first | assumption | apply Bor.cons))) hq hd hp) rfl (by rintro _ _ ⟨M13, rfl, hx⟩; exact (by repeat (first | exact List.Sublist.refl _ | exact List.nil_sublist _ | exact List.sublist_append_right _ _ | apply List.Sublist.cons_cons | apply List.Sublist.cons))) ?_
    rintro _ _ ⟨M13, rfl, hx⟩
    obtain ⟨ry, rv, rfl, hA⟩ := nv_ahead hx hn
    refine vh_take 7 rfl (by kernel_rfl) (by kernel_rfl) (by kernel_rfl) (det_makeFunc rfl rfl) rfl ?_
    refine vh_take 8 rfl (by kernel_rfl) (by kernel_rfl) (by kernel_rfl) (det_nilCheck_m (name := nmMeans) rfl rfl hA) rfl ?_
    refine vh_take 9 rfl (by kernel_rfl) (by kernel_rfl) (by kernel_rfl) (det_move rfl) rfl ?_
    refine vh_one 4 (by kernel_rfl) ?_
    refine st_call rfl .no co36 rfl (terms_d txt src (by omega) (by omega)) rfl (by rintro _ _ ⟨A16, c16, rfl, rfl⟩; exact (by repeat (first | exact List.Sublist.refl _ | exact List.nil_sublist _ | exact List.sublist_append_right _ _ | apply List.Sublist.cons_cons | apply List.Sublist.cons))) ?_
    rintro _ _ ⟨A16, c16, rfl, hLL⟩
    obtain rfl := hLL.symm
    refine vh_take 5 rfl (by kernel_rfl) (by kernel_rfl) (by kernel_rfl) (det_build [(0, _), (1, _)] [_, _, _, _, _] rfl rfl (by kernel_rfl)) rfl ?_
    refine vh_one 6 (by kernel_rfl) ?_
    refine st_eff rfl .no (eff_box rfl rfl) rfl (by rintro _ _ ⟨g18, rfl, rfl⟩; exact (by repeat (first | exact List.Sublist.refl _ | exact List.nil_sublist _ | exact List.sublist_append_right _ _ | apply List.Sublist.cons_cons | apply List.Sublist.cons))) ?_
    rintro _ _ ⟨g18, rfl, rfl⟩
    refine vh_one 10 (by kernel_rfl) ?_
    refine st_invoke (by kernel_rfl) rfl .no rfl rfl (means_m (x := (tm, lv, src, txt)) (T := termsL txt src) hTl hn hw (by rw [hst]; omega) (.own 9 1 A16 (termsL txt src).length c16 (strs (termsL txt src)) :: (M13 ++ (.blk g2 45 [.int .u64 (tm : Int), .int .u8 (lv.toNat : Int), .string ⟨src.toArray⟩, .string ⟨txt.toArray⟩] :: F))) _ (hx.mono (.cons _ (List.sublist_append_left _ _))) (Bor.own (.head _))) rfl (by rintro _ _ ⟨rfl, rfl⟩; exact (by repeat (first | exact List.Sublist.refl _ | exact List.nil_sublist _ | exact List.sublist_append_right _ _ | apply List.Sublist.cons_cons | apply List.Sublist.cons))) ?_
    rintro _ _ ⟨rfl, hLL⟩
    obtain rfl := hLL.symm
    refine vh_take 11 rfl (by kernel_rfl) (by kernel_rfl) (by kernel_rfl) (det_assign rfl) rfl ?_
    refine vh_take 12 rfl (by kernel_rfl) (by kernel_rfl) (by kernel_rfl) (det_assign rfl) rfl ?_
    refine vh_done [(4, _), (5, _)] ⟨rfl, rfl, trivial⟩ (by kernel_rfl) ?_
    refine then_next ?_
    refine vc_ret ?_
    refine ret_wk (L' := F) (.skip (.skip (wk_rows (.skip (.refl _)) M13))) ?_
    refine ret2 rfl rfl rfl ?_
    exact ⟨rfl, rfl⟩
end Go.Proofs.Ytakokckokchacaa
namespace Go.Proofs.Ytakokckokchacaa
open Go.RowKit
set_option linter.unusedVariables false
set_option maxRecDepth 20000
variable {B : Nat} {w0 : World} {F L M : List Ch} {A A2 : Option Addr} {n c c2 g : Nat}
def kidsT : Qt → List Qt
  | .not k => [k]
  | .group _ ks => toL ks
  | _ => []
def lastT : Qt → StepC
  | .leaf s => s
  | .not _ => (5, 0, [], 0, 0)
  | .group op ks => (op, (ks.len : Int), [], 0, 0)
  | _ => sNil
/-! how many queries steps want, ahead of them -/
def ND : List StepC → Int
  | [] => 0
  | s :: r => takesS s - 1 + ND r
/-- a row of steps in memory: where it lies, its room, the steps -/
abbrev Pq := Option Addr × Nat × List StepC
abbrev pqv (e : Pq) : Value := .slice e.1 e.2.2.length e.2.1
def PqB (B : Nat) (w0 : World) (F : List Ch) (PL : List Pq) : Prop := ∀ e ∈ PL, Bor B w0 F 5 (.slice e.1 e.2.2.length e.2.1) e.2.2.length (stepsV e.2.2)
theorem PqB.mono {PL : List Pq} (h : PqB B w0 F PL) (hs : F.Sublist M) : PqB B w0 M PL := fun e he => (h e he).mono hs
def PartsQ (B : Nat) (w0 : World) (t : Qt) (A : Option Addr) (c : Nat) (F : List Ch) (r : Value) (L : List Ch) : Prop :=
  ∃ A' c' PL, r = .slice A' (kidsT t).length c' ∧ PL.length = (kidsT t).length ∧ L = .own 22 1 A' (kidsT t).length c' (PL.map pqv) :: F ∧ PL.map (·.2.2) = (kidsT t).map Qt.st ∧ ∀ F', Bor B w0 F' 5 (.slice A t.st.length c) t.st.length (stepsV t.st) → PqB B w0 F' PL
end Go.Proofs.Ytakokckokchacaa
namespace Go.Proofs.Ytakokckokchacaa
open Go.RowKit
set_option linter.unusedVariables false
set_option maxRecDepth 20000
variable {B : Nat} {w0 : World} {F : List Ch} {A A1 A2 : Option Addr} {n c c1 c2 g : Nat}
def SameT (l1 l2 : List Txt) (k : Nat) : Prop := l1.take k = l2.take k
theorem SameT.step {l1 l2 : List Txt} {k : Nat} (h : SameT l1 l2 k) (h1 : k < l1.length) (h2 : k < l2.length) (he : l1.getD k [] = l2.getD k []) : SameT l1 l2 (k + 1) := by
  unfold SameT at *
  rw [List.take_add_one, List.take_add_one, h]
  congr 1
  rw [List.getElem?_eq_getElem h1, List.getElem?_eq_getElem h2]
  simp [List.getD, List.getElem?_eq_getElem h1, List.getElem?_eq_getElem h2] at he
  rw [he]
theorem SameT.all {l1 l2 : List Txt} {k : Nat} (h : SameT l1 l2 k) (h1 : ¬ k < l1.length) (h2 : l1.length = l2.length) : l1 = l2 := by
  unfold SameT at h
  rwa [List.take_of_length_le (by omega), List.take_of_length_le (by omega)] at h
end Go.Proofs.Ytakokckokchacaa
namespace Go.Proofs.Ytakokckokchacaa
open Go.RowKit
set_option linter.unusedVariables false
set_option maxRecDepth 20000
variable {B : Nat} {w0 : World} {F R L M : List Ch} {A A2 AT : Option Addr} {n c c2 cT g : Nat} {x : RecC} {T : List Txt} {s : StepC} {t : Qt} {q : List StepC}
def RMeQ (B : Nat) (w0 : World) (x : RecC) (t : Qt) : Prop := t.st.length ≤ 1000000 → ∀ (F : List Ch) (A : Option Addr) (c : Nat), Bor B w0 F 5 (.slice A t.st.length c) t.st.length (stepsV t.st) →
  Does Try.prog B w0 22 [.agg (RecC.cells x).toArray, .slice A t.st.length c] F (fun r L => r = .bool (meansT x (termsL x.2.2.2 x.2.2.1) t) ∧ L = F)
/-! are a record, or a query, more than statements look at? -/
theorem great29_d (x : RecC) (hb : Bor B w0 F 5 (.slice A q.length c) q.length (stepsV q)) (h1 : x.2.2.1.length ≤ 9223372036854775807) (h2 : x.2.2.2.length ≤ 9223372036854775807) :
    Does Try.prog B w0 20 [.agg (RecC.cells x).toArray, .slice A q.length c] F (fun r L => r = .bool (decide (300 < x.2.2.2.length ∨ 300 < x.2.2.1.length ∨ 60 < q.length)) ∧ L = F) := by
  obtain ⟨tm, lv, src, txt⟩ := x
  simp only at h1 h2
  show Does Try.prog B w0 20 [.agg #[.int .u64 (tm : Int), .int .u8 (lv.toNat : Int), .string ⟨src.toArray⟩, .string ⟨txt.toArray⟩], .slice A q.length c] F (fun r L => r = .bool (decide (300 < txt.length ∨ 300 < src.length ∨ 60 < q.length)) ∧ L = F)
  refine fn_walk Try.func20 20 rfl rfl rfl [(0, .agg #[.int .u64 (tm : Int), .int .u8 (lv.toNat : Int), .string ⟨src.toArray⟩, .string ⟨txt.toArray⟩]), (1, .slice A q.length c)] ⟨⟨rfl, rfl⟩, ⟨rfl, rfl⟩, trivial⟩ ?_
  refine vc_seq ?_
  refine vc_region ?_
  refine vl_eff (eff_box rfl rfl) rfl ?_
  rintro _ _ ⟨g2, rfl, rfl⟩
  refine vl_det (det_assign rfl) rfl ?_
  refine vl_end [(1, _), (2, _)] ⟨rfl, rfl, trivial⟩ ?_
  refine then_next ?_
  refine vc_seq ?_
  refine vc_region ?_
  refine vl_cut 15 19 [] (300 < txt.length ∨ 300 < src.length ∨ 60 < q.length) trivial ?_ ?_
  · skip
    refine vl_det (det_fieldAddr_ Try.underlying45 rfl (by kernel_rfl) rfl rfl) rfl ?_
    refine vl_det (det_load_blk (by kernel_rfl) rfl (by repeat (first | exact .hd | apply Sel.tl)) rfl) rfl ?_
    refine vl_det (det_len_s Try.underlying9 rfl) rfl ?_
    refine vl_det (det_gtr rfl rfl) rfl ?_
    refine vl_det (det_move rfl) rfl ?_
    refine vl_guardn rfl rfl rfl (fun h9 => ?_) (fun h9 => ?_)
    · skip
      refine vl_det (det_fieldAddr_ Try.underlying45 rfl (by kernel_rfl) rfl rfl) rfl ?_
      refine vl_guard_t rfl rfl ?_
      refine vl_det (det_load_blk (by kernel_rfl) rfl (by repeat (first | exact .hd | apply Sel.tl)) rfl) rfl ?_
      refine vl_guard_t rfl rfl ?_
      refine vl_det (det_len_s Try.underlying9 rfl) rfl ?_
      refine vl_guard_t rfl rfl ?_
      refine vl_det (det_gtr rfl rfl) rfl ?_
      refine vl_det (det_pick_f rfl rfl) rfl ?_
      refine vl_det (det_move rfl) rfl ?_
      refine vl_guardn rfl rfl rfl (fun h15 => ?_) (fun h15 => ?_)
      · skip
        refine vl_det (det_move rfl) rfl ?_
        refine vl_guard_t rfl rfl ?_
        refine vl_det (det_len_sl Try.underlying22 rfl) rfl ?_
        refine vl_guard_t rfl rfl ?_
        refine vl_det (det_gtr rfl rfl) rfl ?_
        refine vl_det (det_pick_f rfl rfl) rfl ?_
        exact vl_cut_end trivial (by first | rfl | exact bool_to_t (by first | omega | simp_all) | exact bool_to_f (by first | omega | simp_all) | exact bool_to (by first | omega | simp_all) | exact bool_to_b (by first | omega | simp_all))
      · skip
        refine vl_guard_f rfl rfl rfl rfl ?_
        refine vl_guard_f rfl rfl rfl rfl ?_
        refine vl_det (det_pick_t rfl rfl) rfl ?_
        exact vl_cut_end trivial (by first | rfl | exact bool_to_t (by first | omega | simp_all) | exact bool_to_f (by first | omega | simp_all) | exact bool_to (by first | omega | simp_all) | exact bool_to_b (by first | omega | simp_all))
    · skip
      refine vl_guard_f rfl rfl rfl rfl ?_
      refine vl_guard_f rfl rfl rfl rfl ?_
      refine vl_guard_f rfl rfl rfl rfl ?_
      refine vl_det (det_pick_t rfl rfl) rfl ?_
      refine vl_det (det_move rfl) rfl ?_
      refine vl_guard_f rfl rfl rfl rfl ?_
      refine vl_guard_f rfl rfl rfl rfl ?_
      refine vl_guard_f rfl rfl rfl rfl ?_
      refine vl_det (det_pick_t rfl rfl) rfl ?_
      exact vl_cut_end trivial (by first | rfl | exact bool_to_t (by first | omega | simp_all) | exact bool_to_f (by first | omega | simp_all) | exact bool_to (by first | omega | simp_all) | exact bool_to_b (by first | omega | simp_all))
  · skip
    refine vl_det (det_assign rfl) rfl ?_
    refine vl_end [(4, _)] ⟨rfl, trivial⟩ ?_
    refine then_next ?_
    refine vc_ret ?_
    refine ret_wk (L' := F) (.skip (.refl _)) ?_
    refine ret1 rfl rfl ?_
    exact ⟨rfl, rfl⟩
end Go.Proofs.Ytakokckokchacaa
namespace Go.Proofs.Ytakokckokchacaa
open Go.RowKit
set_option linter.unusedVariables false
set_option maxRecDepth 20000
/-! steps tell the tree -/
theorem par_st (t : Qt) (hw : t.wf) : (t.isN → ∀ S r, parS S (t.st ++ r) = parS (S ++ [t]) r) ∧ (∀ k ∈ toL t, ∀ S r, parS S (k.st ++ r) = parS (S ++ [k]) r) := by
  refine Qt.ind (P := fun t => ∀ S r, parS S (t.st ++ r) = parS (S ++ [t]) r) (fun s h1 h2 S r => ?_) (fun k h1 h2 ih S r => ?_) (fun op l h1 h2 h3 ih S r => ?_) t hw
  · show parS S (s :: r) = _
    rw [parS_cons]
    unfold stepT
    rw [if_neg (by omega), if_neg (by omega)]
  · show parS S ((k.st ++ [(5, 0, [], 0, 0)]) ++ r) = _
    rw [List.append_assoc, ih, List.singleton_append, parS_cons]
    congr 1
    unfold stepT
    simp
  · have hl : ∀ (l : List Qt) (S : List Qt) (r : List StepC), (∀ t ∈ l, ∀ S r, parS S (t.st ++ r) = parS (S ++ [t]) r) → parS S (l.flatMap Qt.st ++ r) = parS (S ++ l) r := by
      intro l
      induction l with
      | nil => intro S r _; simp
      | cons k l ihl =>
        intro S r h
        rw [List.flatMap_cons, List.append_assoc, h k (by simp), ihl _ _ fun t ht => h t (by simp [ht])]
        simp
    show parS S (((ofL l).st ++ [(op, ((ofL l).len : Int), [], 0, 0)]) ++ r) = _
    rw [ofL_st, ofL_len, List.append_assoc, hl l S _ ih, List.singleton_append, parS_cons]
    congr 1
    unfold stepT
    rw [if_neg (by simp only; omega), if_pos h1]
    simp
theorem parS_st {t : Qt} (h1 : t.isN) (h2 : t.wf) : parS [] t.st = [t] := by
  have := (par_st t h2).1 h1 [] []
  rwa [List.append_nil] at this
theorem st_inj {t z : Qt} (h1 : t.isN) (h2 : t.wf) (h3 : z.isN) (h4 : z.wf) (h : t.st = z.st) : t = z := by
  have e := parS_st h1 h2
  rw [h, parS_st h3 h4] at e
  exact (by simpa using e : z = t).symm
/-! normal form -/
def ndS (S : List Qt) : Prop := (S.map Qt.st).Nodup
def Qt.nf : Qt → Prop
  | .leaf _ => True
  | .not k => isNt k = false ∧ k.nf
  | .group op ks => ndS (toL ks) ∧ (∀ t ∈ toL ks, ¬ (isG t = true ∧ gop t = op)) ∧ ks.nf
  | .nil => True
  | .cons k r => k.nf ∧ r.nf
theorem toL_nf : ∀ {ks : Qt}, ks.nf → ∀ t ∈ toL ks, t.nf
  | .cons k r, h, t, ht => by
    simp only [toL, List.mem_cons] at ht
    rcases ht with ht | ht
    · rw [ht]; exact h.1
    · exact toL_nf h.2 t ht
  | .nil, _, t, ht => absurd ht (by simp [toL])
  | .leaf _, _, t, ht => absurd ht (by simp [toL])
  | .not _, _, t, ht => absurd ht (by simp [toL])
  | .group _ _, _, t, ht => absurd ht (by simp [toL])
theorem ofL_nf : ∀ {l : List Qt}, (∀ t ∈ l, t.nf) → (ofL l).nf
  | [], _ => trivial
  | k :: r, h => ⟨h k (by simp), ofL_nf fun t ht => h t (by simp [ht])⟩
theorem addQ_nd {S : List Qt} {x : Qt} (h : ndS S) : ndS (addQ S x) := by
  unfold addQ
  split
  · exact h
  · rename_i hx
    unfold ndS at *
    rw [List.map_append, List.nodup_append]
    refine ⟨h, by simp, fun a ha b hb e => ?_⟩
    rw [List.map_singleton, List.mem_singleton] at hb
    obtain ⟨z, hz, rfl⟩ := List.mem_map.1 ha
    exact hx (List.any_eq_true.2 ⟨z, hz, decide_eq_true (e.trans hb)⟩)
theorem fold_nd : ∀ {l S : List Qt}, ndS S → ndS (l.foldl addQ S)
  | [], S, h => h
  | x :: r, S, h => fold_nd (l := r) (addQ_nd h)
theorem gath_nd {op : Int} {S : List Qt} {x : Qt} (h : ndS S) : ndS (gath op S x) := by
  unfold gath
  split
  · exact fold_nd h
  · exact addQ_nd h
theorem gaths_nd {op : Int} : ∀ {l S : List Qt}, ndS S → ndS (l.foldl (gath op) S)
  | [], S, h => h
  | x :: r, S, h => gaths_nd (l := r) (gath_nd h)
theorem gaths_nf {op : Int} : ∀ (l S : List Qt), (∀ t ∈ l, t.nf) → (∀ t ∈ S, t.nf ∧ ¬ (isG t = true ∧ gop t = op)) → ∀ t ∈ l.foldl (gath op) S, t.nf ∧ ¬ (isG t = true ∧ gop t = op)
  | [], S, _, hS => hS
  | x :: r, S, hl, hS => gaths_nf r (gath op S x) (fun t ht => hl t (by simp [ht])) fun t ht => by
    have hx := hl x (by simp)
    unfold gath at ht
    split at ht
    · rename_i hg
      rcases fold_mem ht with h | h
      · exact hS t h
      · cases x with
        | group o ks =>
          have ho : o = op := hg.2
          exact ⟨toL_nf hx.2.2 t h, ho ▸ hx.2.1 t h⟩
        | _ => simp [gks] at h
    · rename_i hg
      rcases addQ_mem ht with h | h
      · exact hS t h
      · rw [h]; exact ⟨hx, hg⟩
theorem flatT_nf (t : Qt) (hw : t.wf) : (t.isN → (flatT t).nf) ∧ ∀ k ∈ toL t, (flatT k).nf := by
  refine Qt.ind (P := fun t => (flatT t).nf) (fun s h1 h2 => trivial) (fun k h1 h2 ih => ?_) (fun op l h1 h2 h3 ih => ?_) t hw
  · show (notT (flatT k)).nf
    generalize flatT k = x at *
    unfold notT
    split
    · cases x with
      | not j => exact ih.2
      | _ => rename_i h; cases h
    · rename_i h
      exact ⟨by simpa using h, ih⟩
  · rw [flatT_group]
    have g1 := gaths_nf (op := op) (l.map flatT) [] (fun t ht => by
      obtain ⟨k, hk, rfl⟩ := List.mem_map.1 ht
      exact ih k hk) (by simp)
    have g2 := gaths_nd (op := op) (l := l.map flatT) (S := []) (by simp [ndS])
    generalize (l.map flatT).foldl (gath op) [] = S at *
    unfold mkG
    split
    · rename_i hS
      obtain ⟨x, rfl⟩ := List.length_eq_one_iff.1 hS
      exact (g1 x (by simp)).1
    · exact ⟨by rw [toL_ofL]; exact g2, by rw [toL_ofL]; exact fun t ht => (g1 t ht).2, ofL_nf fun t ht => (g1 t ht).1⟩
theorem fold_new : ∀ {l S : List Qt}, ndS (S ++ l) → l.foldl addQ S = S ++ l
  | [], S, _ => by simp
  | x :: r, S, h => by
    have e : addQ S x = S ++ [x] := by
      unfold addQ
      rw [if_neg]
      intro hx
      obtain ⟨z, hz, hzz⟩ := List.any_eq_true.1 hx
      unfold ndS at h
      rw [List.map_append, List.nodup_append] at h
      exact h.2.2 z.st (List.mem_map_of_mem hz) x.st (by simp) (of_decide_eq_true hzz)
    rw [List.foldl_cons, e, fold_new (l := r) (by simpa using h)]
    simp
theorem nf_flat (t : Qt) (hw : t.wf) : (t.isN → t.nf → flatT t = t) ∧ ∀ k ∈ toL t, k.nf → flatT k = k := by
  refine Qt.ind (P := fun t => t.nf → flatT t = t) (fun s h1 h2 _ => rfl) (fun k h1 h2 ih hn => ?_) (fun op l h1 h2 h3 ih hn => ?_) t hw
  · show notT (flatT k) = _
    rw [ih hn.2]
    unfold notT
    rw [if_neg (by rw [hn.1]; decide)]
  · obtain ⟨n1, n2, n3⟩ := hn
    rw [toL_ofL] at n1 n2
    have hm : l.map flatT = l := by
      have h4 := toL_nf n3
      rw [toL_ofL] at h4
      conv => rhs; rw [← List.map_id l]
      exact List.map_congr_left fun t ht => ih t ht (h4 t ht)
    rw [flatT_group, hm]
    have hg : ∀ (r S : List Qt), (∀ t ∈ r, ¬ (isG t = true ∧ gop t = op)) → r.foldl (gath op) S = r.foldl addQ S := by
      intro r
      induction r with
      | nil => intro S _; rfl
      | cons x r ihr =>
        intro S h
        rw [List.foldl_cons, List.foldl_cons, show gath op S x = addQ S x from if_neg (h x (by simp)), ihr _ fun t ht => h t (by simp [ht])]
    rw [hg l [] n2, fold_new (by simpa using n1), List.nil_append]
    unfold mkG
    rw [if_neg (by omega)]
theorem flat_twice {t : Qt} (h1 : t.isN) (h2 : t.wf) : flatT (flatT t) = flatT t :=
  (nf_flat (flatT t) ((flatT_ok t h2).1 h1).2.1).1 ((flatT_ok t h2).1 h1).1 ((flatT_nf t h2).1 h1)
end Go.Proofs.Ytakokckokchacaa
namespace Go.Proofs.Ytakokckokchacaa
open Go.RowKit
set_option linter.unusedVariables false
set_option maxRecDepth 20000
variable {x : RecC} {T : List Txt} {p : Qt → Bool} {S : List Qt} {op : Int}
theorem addQ_all (hS : ∀ z ∈ S, z.isN ∧ z.wf) {t : Qt} (hn : t.isN) (hw : t.wf) : (addQ S t).all p = (S.all p && p t) := by
  unfold addQ
  split
  · rename_i h
    obtain ⟨z, hz, hzz⟩ := List.any_eq_true.1 h
    obtain ⟨z1, z2⟩ := hS z hz
    obtain rfl : z = t := st_inj z1 z2 hn hw (of_decide_eq_true hzz)
    cases hA : S.all p
    · rfl
    · rw [List.all_eq_true.1 hA z hz]; rfl
  · rw [List.all_append]; simp
theorem addQ_wf (hS : ∀ z ∈ S, z.isN ∧ z.wf) {t : Qt} (hn : t.isN) (hw : t.wf) : ∀ z ∈ addQ S t, z.isN ∧ z.wf := fun z hz => by
  rcases addQ_mem hz with h | h
  · exact hS z h
  · rw [h]; exact ⟨hn, hw⟩
theorem fold_all : ∀ (l : List Qt) {S : List Qt}, (∀ z ∈ S, z.isN ∧ z.wf) → (∀ z ∈ l, z.isN ∧ z.wf) → (l.foldl addQ S).all p = (S.all p && l.all p)
  | [], S, _, _ => by simp
  | t :: r, S, hS, hl => by
    obtain ⟨h1, h2⟩ := hl t (by simp)
    rw [List.foldl_cons, fold_all r (addQ_wf hS h1 h2) fun z hz => hl z (by simp [hz]), addQ_all hS h1 h2, List.all_cons, Bool.and_assoc]
theorem gaths_all (hp : ∀ t : Qt, t.isN → t.wf → isG t = true ∧ gop t = op → (gks t).all p = p t) : ∀ (l : List Qt) {S : List Qt}, (∀ z ∈ S, z.isN ∧ z.wf) → (∀ z ∈ l, z.isN ∧ z.wf) → (l.foldl (gath op) S).all p = (S.all p && l.all p)
  | [], S, _, _ => by simp
  | t :: r, S, hS, hl => by
    obtain ⟨h1, h2⟩ := hl t (by simp)
    have e : (gath op S t).all p = (S.all p && p t) := by
      unfold gath
      split
      · rename_i h
        rw [fold_all _ hS (gks_wf h2), hp t h1 h2 h]
      · exact addQ_all hS h1 h2
    rw [List.foldl_cons, gaths_all hp r (gath_wf hS h1 h2) fun z hz => hl z (by simp [hz]), e, List.all_cons, Bool.and_assoc]
theorem any_not (l : List Qt) (p : Qt → Bool) : l.any p = !(l.all fun t => !p t) := by
  induction l with
  | nil => rfl
  | cons a r ih => rw [List.any_cons, List.all_cons, ih]; cases p a <;> simp
theorem means_gks {t : Qt} (hw : t.wf) (h : isG t = true) : meansT x T t = if gop t = 6 then (gks t).all (meansT x T) else (gks t).any (meansT x T) := by
  obtain ⟨o, l, rfl, _⟩ := isG_iff hw h
  rw [means_grp, gks_group]; rfl
theorem means_mkG (h67 : op = 6 ∨ op = 7) (S : List Qt) : meansT x T (mkG op S) = if op = 6 then S.all (meansT x T) else S.any (meansT x T) := by
  unfold mkG
  split
  · rename_i h
    obtain ⟨z, rfl⟩ := List.length_eq_one_iff.1 h
    by_cases h6 : op = 6
    · rw [if_pos h6]; simp
    · rw [if_neg h6]; simp
  · exact means_grp op S
theorem means_flat (t : Qt) (hw : t.wf) : (t.isN → meansT x T (flatT t) = meansT x T t) ∧ ∀ k ∈ toL t, meansT x T (flatT k) = meansT x T k := by
  refine Qt.ind (P := fun t => meansT x T (flatT t) = meansT x T t) (fun s h1 h2 => rfl) (fun k h1 h2 ih => ?_) (fun op l h1 h2 h3 ih => ?_) t hw
  · show meansT x T (notT (flatT k)) = !meansT x T k
    rw [← ih]
    generalize flatT k = y
    unfold notT
    split
    · cases y with
      | not j => show meansT x T j = !(!meansT x T j); simp
      | _ => rename_i h; cases h
    · rfl
  · rw [flatT_group, means_mkG h1, means_grp]
    have hl : ∀ t ∈ l.map flatT, t.isN ∧ t.wf := fun t ht => by
      obtain ⟨k, hk, rfl⟩ := List.mem_map.1 ht
      have := (flatT_ok k (h3 k hk).2).1 (h3 k hk).1
      exact ⟨this.1, this.2.1⟩
    by_cases h6 : op = 6
    · rw [if_pos h6, if_pos h6, gaths_all (fun t h1 h2 h => by rw [means_gks h2 h.1, if_pos (h.2.trans h6)]) _ (by simp) hl, List.all_map]
      simp only [List.all_nil, Bool.true_and]
      rw [Bool.eq_iff_iff, List.all_eq_true, List.all_eq_true]
      exact ⟨fun h t ht => by have := h t ht; rwa [Function.comp_apply, ih t ht] at this, fun h t ht => by rw [Function.comp_apply, ih t ht]; exact h t ht⟩
    · rw [if_neg h6, if_neg h6, any_not, gaths_all (p := fun t => !meansT x T t) (fun t h1 h2 h => by rw [means_gks h2 h.1, if_neg (by rw [h.2]; exact h6), any_not]; simp) _ (by simp) hl, List.all_map, any_not]
      simp only [List.all_nil, Bool.true_and]
      congr 1
      rw [Bool.eq_iff_iff, List.all_eq_true, List.all_eq_true]
      exact ⟨fun h t ht => by have := h t ht; rwa [Function.comp_apply, ih t ht] at this, fun h t ht => by rw [Function.comp_apply, ih t ht]; exact h t ht⟩
end Go.Proofs.Ytakokckokchacaa
namespace Go.Proofs.Ytakokckokchacaa
open Go.RowKit
set_option linter.unusedVariables false
set_option maxRecDepth 20000
theorem dec_struct5 {P : Program} {w : World} {t : TypeId} {α β γ δ ε : Type} {f0 f1 f2 f3 f4 : Field} {F0 : α → Value} {F1 : β → Value} {F2 : γ → Value} {F3 : δ → Value} {F4 : ε → Value} {O0 : α → Prop} {O1 : β → Prop} {O2 : γ → Prop} {O3 : δ → Prop} {O4 : ε → Prop}
    (ht : P.underlying t = some (.struct #[f0, f1, f2, f3, f4])) (hc : P.cellsOf t = 5) (h0 : f0.offset = 0 ∧ P.cellsOf f0.type = 1) (h1 : f1.offset = 1 ∧ P.cellsOf f1.type = 1) (h2 : f2.offset = 2 ∧ P.cellsOf f2.type = 1) (h3 : f3.offset = 3 ∧ P.cellsOf f3.type = 1) (h4 : f4.offset = 4 ∧ P.cellsOf f4.type = 1)
    (d0 : DecT P w f0.type (fun x => [F0 x]) O0) (d1 : DecT P w f1.type (fun x => [F1 x]) O1) (d2 : DecT P w f2.type (fun x => [F2 x]) O2) (d3 : DecT P w f3.type (fun x => [F3 x]) O3) (d4 : DecT P w f4.type (fun x => [F4 x]) O4) :
    DecT P w t (fun x : α × β × γ × δ × ε => [F0 x.1, F1 x.2.1, F2 x.2.2.1, F3 x.2.2.2.1, F4 x.2.2.2.2]) (fun x => O0 x.1 ∧ O1 x.2.1 ∧ O2 x.2.2.1 ∧ O3 x.2.2.2.1 ∧ O4 x.2.2.2.2) := by
  intro H enc n cs y h
  obtain ⟨xs, n', _, _, hl, hx, hf⟩ := DataW.trod_struct ht h
  rw [hc] at hl
  obtain ⟨c0, c1, c2, c3, c4, rfl⟩ : ∃ c0 c1 c2 c3 c4, cs = [c0, c1, c2, c3, c4] := by
    match cs, hl with
    | [c0, c1, c2, c3, c4], _ => exact ⟨c0, c1, c2, c3, c4, rfl⟩
  obtain ⟨y0, y1, y2, y3, y4, rfl⟩ : ∃ y0 y1 y2 y3 y4, xs = [y0, y1, y2, y3, y4] := by
    match xs, hx with
    | [y0, y1, y2, y3, y4], _ => exact ⟨y0, y1, y2, y3, y4, rfl⟩
  have g0 := hf 0 f0 rfl
  have g1 := hf 1 f1 rfl
  have g2 := hf 2 f2 rfl
  have g3 := hf 3 f3 rfl
  have g4 := hf 4 f4 rfl
  rw [h0.1, h0.2] at g0
  rw [h1.1, h1.2] at g1
  rw [h2.1, h2.2] at g2
  rw [h3.1, h3.2] at g3
  rw [h4.1, h4.2] at g4
  obtain ⟨a, ea, oa⟩ := d0 H enc _ _ _ g0
  obtain ⟨b, eb, ob⟩ := d1 H enc _ _ _ g1
  obtain ⟨c, ec, oc⟩ := d2 H enc _ _ _ g2
  obtain ⟨d, ed, od⟩ := d3 H enc _ _ _ g3
  obtain ⟨e, ee, oe⟩ := d4 H enc _ _ _ g4
  simp at ea eb ec ed ee
  exact ⟨(a, b, c, d, e), by simp [ea, eb, ec, ed, ee], oa, ob, oc, od, oe⟩
def StepC.ok (s : StepC) : Prop := (-9223372036854775808 ≤ s.1 ∧ s.1 ≤ 9223372036854775807) ∧ (-9223372036854775808 ≤ s.2.1 ∧ s.2.1 ≤ 9223372036854775807) ∧ s.2.2.1.length ≤ maxLen ∧ s.2.2.2.1 < 18446744073709551616 ∧ s.2.2.2.2 < 18446744073709551616
theorem dec_step (w : World) : DecT Try.prog w 38 StepC.cells StepC.ok :=
  dec_struct5 Try.underlying38 (by kernel_rfl) ⟨rfl, by kernel_rfl⟩ ⟨rfl, by kernel_rfl⟩ ⟨rfl, by kernel_rfl⟩ ⟨rfl, by kernel_rfl⟩ ⟨rfl, by kernel_rfl⟩ (dec_int Try.underlying3) (dec_int Try.underlying3) (dec_strL Try.underlying9) (dec_u64 Try.underlying36) (dec_u64 Try.underlying36)
end Go.Proofs.Ytakokckokchacaa
namespace Go.Proofs.Ytakokckokchacaa
open Go.RowKit Go.WideShapes
theorem agg_of {P : Program} {W : World} {base : Nat} {t : TypeId} {fs : Array Field} {v : Value} {xs : List Value} (ht : P.underlying t = some (.struct fs)) (hv : Value.okWide P W .any base t v) (e : v.cells.toList = xs) : Value.agg xs.toArray = v := by
  obtain ⟨cs, rfl, _⟩ := okWide_struct ht hv
  simp only [Value.cells] at e
  rw [← e]
end Go.Proofs.Ytakokckokchacaa

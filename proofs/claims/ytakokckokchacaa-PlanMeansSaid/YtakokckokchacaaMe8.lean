/-
  Texts of one proof, joined: part 8. No condition.
-/
import Derived.Test.YtakokckokchacaaMe7
import Derived.WideShapes
namespace Go.Proofs.Ytakokckokchacaa
open Go.RowKit
set_option linter.unusedVariables false
set_option maxRecDepth 20000
variable {B : Nat} {w0 : World} {F R L M : List Ch} {A A2 AT : Option Addr} {n c c2 cT g : Nat} {x : RecC} {T : List Txt} {s : StepC} {t : Qt} {q : List StepC}
theorem termsL_le (txt src : List UInt8) (h1 : txt.length ≤ 100000000) (h2 : src.length ≤ 100000000) : (termsL txt src).length ≤ 1000000000 := by
  have h3 := setT_len (rawT txt src)
  have h4 := rawT_len txt src
  have h5 := wordsL_len txt
  have h6 := wordsL_len src
  unfold termsL
  omega
def NAhead (P : Program) (t : TypeId) (v : Value) (name : String) : Prop := ∀ w, (nilAhead (P.types.size + Made.depth) t v name).run P w = .ok (some false) w
theorem det_nilCheck_m {C : Cx} {fr : Fr} {L : List Ch} {ty t : TypeId} {x : Operand} {v : Value} {name name2 : String} {caps : Array Value} (hn : name2 = name) (h : ev fr x = some (.func (.method name2) #[.iface t v] caps)) (ha : NAhead C.P t v name) :
    Det C fr L (.nilCheck x) ty (.func (.method name2) #[.iface t v] caps) := fun a w hfr hw d pos af g => by
  subst hn
  have h2 := ha w
  simp only [execOp, hfr.tmp h]
  simp [Sem.run_bind, run_program, h2]
theorem nv_ahead {r : Value} (h : NV B w0 L t [r]) (hn : t.isN) : ∃ ty v, r = .iface ty v ∧ NAhead Try.prog ty v nmMeans := by
  cases t with
  | leaf s => exact ⟨_, _, by simpa using (show [r] = _ from h), fun w => by kernel_rfl⟩
  | not k => obtain ⟨x, hx, hk⟩ := h; exact ⟨_, _, by simpa using hx, fun w => by kernel_rfl⟩
  | group op ks => obtain ⟨A, c, vs, hx, _⟩ := h; exact ⟨_, _, by simpa using hx, fun w => by kernel_rfl⟩
  | nil => exact hn.elim
  | cons k r => exact hn.elim
theorem pmeans_bad (hb : Bor B w0 F 5 (.slice A q.length c) q.length (stepsV q)) (hq : checkQ q ≠ 0) :
    Does Try.prog B w0 21 [.agg (RecC.cells x).toArray, .slice A q.length c] F (fun r L => r = .tuple #[.bool false, .int .i64 (checkQ q)] ∧ L = F) := by
  refine fn_walk Try.func21 23 rfl rfl rfl [(0, .agg (RecC.cells x).toArray), (1, .slice A q.length c)] ⟨⟨rfl, rfl⟩, ⟨rfl, rfl⟩, trivial⟩ ?_
  refine vc_seq ?_
  refine vc_region ?_
  refine vl_eff (eff_box rfl rfl) rfl ?_
  rintro _ _ ⟨g2, rfl, rfl⟩
  refine vl_det (det_assign rfl) rfl ?_
  refine vl_det (det_assign rfl) rfl ?_
  refine vl_end [(1, _), (2, _)] ⟨rfl, rfl, trivial⟩ ?_
  refine then_next ?_
  refine vc_seq ?_
  refine vc_seq ?_
  refine vc_region ?_
  refine vl_det (det_move rfl) rfl ?_
  refine vl_call co16 rfl (check_d (by first | (exact Bor.own (by repeat (first | exact List.Mem.head _ | apply List.Mem.tail))) | (repeat (first | assumption | apply Bor.cons)))) rfl ?_
  rintro _ _ ⟨rfl, hLL⟩
  obtain rfl := hLL.symm
  refine vl_det (det_assign rfl) rfl ?_
  refine vl_end [(1, _), (2, _), (6, _)] ⟨rfl, rfl, rfl, trivial⟩ ?_
  refine then_next ?_
  refine vc_seq ?_
  refine vc_region ?_
  refine vl_det (det_move rfl) rfl ?_
  refine vl_det (det_neq rfl rfl) rfl ?_
  refine vl_end [(1, _), (2, _), (6, _), (10, _)] ⟨rfl, rfl, rfl, rfl, trivial⟩ ?_
  refine then_next ?_
  refine vc_decideU rfl (fun h10 => ?_) (fun h10 => ?_)
  · skip
    refine vc_seq ?_
    refine vc_region ?_
    refine vl_det (det_move rfl) rfl ?_
    refine vl_det (det_assign rfl) rfl ?_
    refine vl_det (det_assign rfl) rfl ?_
    refine vl_end [(4, _), (5, _)] ⟨rfl, rfl, trivial⟩ ?_
    refine then_next ?_
    refine vc_ret ?_
    refine then_ret ?_
    refine ret_wk (L' := F) (.skip (.refl _)) ?_
    refine ret2 rfl rfl rfl ?_
    exact ⟨rfl, rfl⟩
  · skip
    exfalso; exact h10 hq
theorem pmeans_ok (hb : Bor B w0 F 5 (.slice A q.length c) q.length (stepsV q)) (h1 : x.2.2.1.length ≤ 1000000) (h2 : x.2.2.2.length ≤ 1000000) (hc : checkQ q = 0) (hq : q.length ≤ 1000) (hd : depS [] q = some [t.dep]) (hp : parS [] q = [t]) (hn : t.isN) (hw : t.wf) (hst : t.st = q) :
    Does Try.prog B w0 21 [.agg (RecC.cells x).toArray, .slice A q.length c] F (fun r L => r = .tuple #[.bool (meansT x (termsL x.2.2.2 x.2.2.1) t), .int .i64 0] ∧ L = F) := by
  obtain ⟨tm, lv, src, txt⟩ := x
  simp only at h1 h2 ⊢
  have hTl := termsL_le txt src (by omega) (by omega)
  refine fn_walk Try.func21 23 rfl rfl rfl [(0, .agg #[.int .u64 (tm : Int), .int .u8 (lv.toNat : Int), .string ⟨src.toArray⟩, .string ⟨txt.toArray⟩]), (1, .slice A q.length c)] ⟨⟨rfl, rfl⟩, ⟨rfl, rfl⟩, trivial⟩ ?_
  refine vc_seq ?_
  refine vc_region ?_
  refine vl_eff (eff_box rfl rfl) rfl ?_
  rintro _ _ ⟨g2, rfl, rfl⟩
  refine vl_det (det_assign rfl) rfl ?_
  refine vl_det (det_assign rfl) rfl ?_
  refine vl_end [(1, _), (2, _)] ⟨rfl, rfl, trivial⟩ ?_
  refine then_next ?_
  refine vc_seq ?_
  refine vc_seq ?_
  refine vc_region ?_
  refine vl_det (det_move rfl) rfl ?_
  refine vl_call co16 rfl (check_d (by first | (exact Bor.own (by repeat (first | exact List.Mem.head _ | apply List.Mem.tail))) | (repeat (first | assumption | apply Bor.cons)))) rfl ?_
  rintro _ _ ⟨rfl, hLL⟩
  obtain rfl := hLL.symm
  refine vl_det (det_assign rfl) rfl ?_
  refine vl_end [(1, _), (2, _), (6, _)] ⟨rfl, rfl, rfl, trivial⟩ ?_
  refine then_next ?_
  refine vc_seq ?_
  refine vc_region ?_
  refine vl_det (det_move rfl) rfl ?_
  refine vl_det (det_neq rfl rfl) rfl ?_
  refine vl_end [(1, _), (2, _), (6, _), (10, _)] ⟨rfl, rfl, rfl, rfl, trivial⟩ ?_
  refine then_next ?_
  refine vc_decideU rfl (fun h10 => ?_) (fun h10 => ?_)
  · skip
    exfalso; exact h10 hc
  · skip
    refine vc_skip ?_
    refine then_next ?_
    refine vc_seq ?_
    refine vh_region (S := .blk g2 45 [.int .u64 (tm : Int), .int .u8 (lv.toNat : Int), .string ⟨src.toArray⟩, .string ⟨txt.toArray⟩] :: F) (by kernel_rfl) (by repeat (first | exact List.Sublist.refl _ | exact List.nil_sublist _ | exact List.sublist_append_right _ _ | apply List.Sublist.cons_cons | apply List.Sublist.cons)) ?_
    refine vh_take 0 rfl (by kernel_rfl) (by kernel_rfl) (by kernel_rfl) (det_move rfl) rfl ?_
    refine vh_take 2 rfl (by kernel_rfl) (by kernel_rfl) (by kernel_rfl) (det_load_whole 4 (by kernel_rfl) rfl (by repeat (first | exact .hd | apply Sel.tl)) (by first | rfl | (simp; omega) | (simp [*]; done))) rfl ?_
    refine vh_take 3 rfl (by kernel_rfl) (by kernel_rfl) (by kernel_rfl) (det_load_whole 4 (by kernel_rfl) rfl (by repeat (first | exact .hd | apply Sel.tl)) (by first | rfl | (simp; omega) | (simp [*]; done))) rfl ?_
    refine vh_one 1 (by kernel_rfl) ?_
    refine st_call rfl .no co30 rfl (tree_x (by first | (exact Bor.own (by repeat (first | exact List.Mem.head _ | apply List.Mem.tail))) | (repeat (first | assumption | apply Bor.cons))) hq hd hp) rfl (by rintro _ _ ⟨M13, rfl, hx⟩; exact (by repeat (first | exact List.Sublist.refl _ | exact List.nil_sublist _ | exact List.sublist_append_right _ _ | apply List.Sublist.cons_cons | apply List.Sublist.cons))) ?_
    rintro _ _ ⟨M13, rfl, hx⟩
    obtain ⟨ry, rv, rfl, hA⟩ := nv_ahead hx hn
    refine vh_take 7 rfl (by kernel_rfl) (by kernel_rfl) (by kernel_rfl) (det_makeFunc rfl rfl) rfl ?_
    refine vh_take 8 rfl (by kernel_rfl) (by kernel_rfl) (by kernel_rfl) (det_nilCheck_m (name := nmMeans) rfl rfl hA) rfl ?_
    refine vh_take 9 rfl (by kernel_rfl) (by kernel_rfl) (by kernel_rfl) (det_move rfl) rfl ?_
    refine vh_one 4 (by kernel_rfl) ?_
    refine st_call rfl .no co36 rfl (terms_d txt src (by omega) (by omega)) rfl (by rintro _ _ ⟨A16, c16, rfl, rfl⟩; exact (by repeat (first | exact List.Sublist.refl _ | exact List.nil_sublist _ | exact List.sublist_append_right _ _ | apply List.Sublist.cons_cons | apply List.Sublist.cons))) ?_
    rintro _ _ ⟨A16, c16, rfl, hLL⟩
    obtain rfl := hLL.symm
    refine vh_take 5 rfl (by kernel_rfl) (by kernel_rfl) (by kernel_rfl) (det_build [(0, _), (1, _)] [_, _, _, _, _] rfl rfl (by kernel_rfl)) rfl ?_
    refine vh_one 6 (by kernel_rfl) ?_
    refine st_eff rfl .no (eff_box rfl rfl) rfl (by rintro _ _ ⟨g18, rfl, rfl⟩; exact (by repeat (first | exact List.Sublist.refl _ | exact List.nil_sublist _ | exact List.sublist_append_right _ _ | apply List.Sublist.cons_cons | apply List.Sublist.cons))) ?_
    rintro _ _ ⟨g18, rfl, rfl⟩
    refine vh_one 10 (by kernel_rfl) ?_
    refine st_invoke (by kernel_rfl) rfl .no rfl rfl (means_m (x := (tm, lv, src, txt)) (T := termsL txt src) hTl hn hw (by rw [hst]; omega) (.own 9 1 A16 (termsL txt src).length c16 (strs (termsL txt src)) :: (M13 ++ (.blk g2 45 [.int .u64 (tm : Int), .int .u8 (lv.toNat : Int), .string ⟨src.toArray⟩, .string ⟨txt.toArray⟩] :: F))) _ (hx.mono (.cons _ (List.sublist_append_left _ _))) (Bor.own (.head _))) rfl (by rintro _ _ ⟨rfl, rfl⟩; exact (by repeat (first | exact List.Sublist.refl _ | exact List.nil_sublist _ | exact List.sublist_append_right _ _ | apply List.Sublist.cons_cons | apply List.Sublist.cons))) ?_
    rintro _ _ ⟨rfl, hLL⟩
    obtain rfl := hLL.symm
    refine vh_take 11 rfl (by kernel_rfl) (by kernel_rfl) (by kernel_rfl) (det_assign rfl) rfl ?_
    refine vh_take 12 rfl (by kernel_rfl) (by kernel_rfl) (by kernel_rfl) (det_assign rfl) rfl ?_
    refine vh_done [(4, _), (5, _)] ⟨rfl, rfl, trivial⟩ (by kernel_rfl) ?_
    refine then_next ?_
    refine vc_ret ?_
    refine ret_wk (L' := F) (.skip (.skip (wk_rows (.skip (.refl _)) M13))) ?_
    refine ret2 rfl rfl rfl ?_
    exact ⟨rfl, rfl⟩
end Go.Proofs.Ytakokckokchacaa
namespace Go.Proofs.Ytakokckokchacaa
open Go.RowKit
set_option linter.unusedVariables false
set_option maxRecDepth 20000
variable {B : Nat} {w0 : World} {F L M : List Ch} {A A2 : Option Addr} {n c c2 g : Nat}
def kidsT : Qt → List Qt
  | .not k => [k]
  | .group _ ks => toL ks
  | _ => []
def lastT : Qt → StepC
  | .leaf s => s
  | .not _ => (5, 0, [], 0, 0)
  | .group op ks => (op, (ks.len : Int), [], 0, 0)
  | _ => sNil
theorem st_split {t : Qt} (hn : t.isN) (hw : t.wf) : t.st = (kidsT t).flatMap Qt.st ++ [lastT t] := by
  cases t with
  | leaf s => rfl
  | not k => simp [Qt.st, kidsT, lastT]
  | group op ks => simp [Qt.st, kidsT, lastT, toL_st hw.2.2.1 hw.2.2.2]
  | nil => exact hn.elim
  | cons k r => exact hn.elim
theorem lastT_ok {t : Qt} (hn : t.isN) (hw : t.wf) : rightS (lastT t) ∧ takesS (lastT t) = (kidsT t).length := by
  cases t with
  | leaf s =>
    have h4 := hw.2
    exact ⟨hw.1, by show takesS s = ((([] : List Qt).length : Nat) : Int); unfold takesS; rw [if_neg (by omega), if_neg (by omega)]; rfl⟩
  | not k => exact ⟨(right_n rfl).2 rfl, rfl⟩
  | group op ks =>
    have h2 := hw.2.1
    have h1 := hw.1
    refine ⟨(right_g h1).2 ⟨rfl, by omega⟩, ?_⟩
    show takesS (op, (ks.len : Int), [], 0, 0) = ((toL ks).length : Int)
    rw [toL_len]
    unfold takesS
    rw [if_neg (by simp only; omega), if_pos h1]
  | nil => exact hn.elim
  | cons k r => exact hn.elim
theorem kidsT_wf {t : Qt} (hw : t.wf) : ∀ k ∈ kidsT t, k.isN ∧ k.wf := by
  cases t with
  | not k => intro x hx; rw [show x = k by simpa [kidsT] using hx]; exact hw
  | group op ks => exact toL_wf hw.2.2.2
  | _ => intro x hx; simp [kidsT] at hx
theorem st_right (t : Qt) (hw : t.wf) : (t.isN → ∀ s ∈ t.st, rightS s) ∧ ∀ k ∈ toL t, ∀ s ∈ k.st, rightS s := by
  refine Qt.ind (P := fun t => ∀ s ∈ t.st, rightS s) (fun s h1 h2 x hx => ?_) (fun k h1 h2 ih x hx => ?_) (fun op l h1 h2 h3 ih x hx => ?_) t hw
  · rw [show x = s by simpa [Qt.st] using hx]; exact h1
  · rcases List.mem_append.1 (show x ∈ k.st ++ _ from hx) with hx | hx
    · exact ih x hx
    · rw [List.mem_singleton.1 hx]; exact (right_n rfl).2 rfl
  · rcases List.mem_append.1 (show x ∈ (ofL l).st ++ _ from hx) with hx | hx
    · rw [ofL_st, List.mem_flatMap] at hx
      obtain ⟨k, hk, hx⟩ := hx
      exact ih k hk x hx
    · rw [List.mem_singleton.1 hx, ofL_len]; exact (right_g h1).2 ⟨rfl, by omega⟩
/-! how many queries steps want, ahead of them -/
def ND : List StepC → Int
  | [] => 0
  | s :: r => takesS s - 1 + ND r
theorem ND_app : ∀ a b : List StepC, ND (a ++ b) = ND a + ND b
  | [], b => by simp [ND]
  | s :: r, b => by simp only [List.cons_append, ND, ND_app r b]; omega
theorem nd_list {l : List Qt} (h : ∀ t ∈ l, ND t.st = -1 ∧ ∀ j, 0 < j → 0 ≤ ND (t.st.drop j)) : ND (l.flatMap Qt.st) = -(l.length : Int) ∧ ∀ j, 0 < j → 0 < l.length → 1 - (l.length : Int) ≤ ND ((l.flatMap Qt.st).drop j) := by
  induction l with
  | nil => exact ⟨rfl, fun j _ h => absurd h (by simp)⟩
  | cons k r ih =>
    obtain ⟨h1, h2⟩ := h k (by simp)
    obtain ⟨h3, h4⟩ := ih fun t ht => h t (by simp [ht])
    refine ⟨by rw [List.flatMap_cons, ND_app, h1, h3, List.length_cons]; omega, fun j hj _ => ?_⟩
    rw [List.flatMap_cons, List.drop_append, ND_app, List.length_cons]
    have h5 := h2 j hj
    by_cases hjk : j ≤ k.st.length
    · rw [show j - k.st.length = 0 by omega, List.drop_zero, h3]; omega
    · rw [List.drop_of_length_le (by omega)]
      rcases Nat.eq_zero_or_pos r.length with h0 | h0
      · rw [List.eq_nil_of_length_eq_zero h0]; simp [ND]
      · have := h4 (j - k.st.length) (by omega) h0
        simp only [ND]; omega
theorem nd_st (t : Qt) (hw : t.wf) : (t.isN → ND t.st = -1 ∧ ∀ j, 0 < j → 0 ≤ ND (t.st.drop j)) ∧ ∀ k ∈ toL t, ND k.st = -1 ∧ ∀ j, 0 < j → 0 ≤ ND (k.st.drop j) := by
  refine Qt.ind (P := fun t => ND t.st = -1 ∧ ∀ j, 0 < j → 0 ≤ ND (t.st.drop j)) (fun s h1 h2 => ?_) (fun k h1 h2 ih => ?_) (fun op l h1 h2 h3 ih => ?_) t hw
  · have hT : takesS s = 0 := by unfold takesS; rw [if_neg (by omega), if_neg (by omega)]
    refine ⟨by simp [Qt.st, ND, hT], fun j hj => ?_⟩
    rw [List.drop_of_length_le (by simp [Qt.st]; omega)]; simp [ND]
  · have h5 : ND [((5, 0, [], 0, 0) : StepC)] = 0 := rfl
    refine ⟨by show ND (k.st ++ _) = _; rw [ND_app, ih.1, h5]; rfl, fun j hj => ?_⟩
    show 0 ≤ ND ((k.st ++ [(5, 0, [], 0, 0)]).drop j)
    rw [List.drop_append, ND_app]
    have h6 := ih.2 j hj
    by_cases hjk : j ≤ k.st.length
    · rw [show j - k.st.length = 0 by omega, List.drop_zero, h5]; omega
    · rw [List.drop_of_length_le (l := [((5, 0, [], 0, 0) : StepC)]) (by simp; omega)]
      simp only [ND]; omega
  · obtain ⟨h4, h5⟩ := nd_list ih
    have hT : ND [((op, (l.length : Int), [], 0, 0) : StepC)] = l.length - 1 := by
      have e : takesS ((op, (l.length : Int), [], 0, 0) : StepC) = l.length := by
        unfold takesS
        rw [if_neg (by simp only; omega), if_pos h1]
      simp only [ND, e]; omega
    refine ⟨?_, fun j hj => ?_⟩
    · show ND ((ofL l).st ++ [(op, ((ofL l).len : Int), [], 0, 0)]) = _
      rw [ofL_st, ofL_len, ND_app, h4, hT]; omega
    · show 0 ≤ ND (((ofL l).st ++ [(op, ((ofL l).len : Int), [], 0, 0)]).drop j)
      rw [ofL_st, ofL_len, List.drop_append, ND_app]
      have h6 := h5 j hj (by omega)
      by_cases hjk : j ≤ (l.flatMap Qt.st).length
      · rw [show j - (l.flatMap Qt.st).length = 0 by omega, List.drop_zero, hT]; omega
      · rw [List.drop_of_length_le (l := l.flatMap Qt.st) (by omega), List.drop_of_length_le (by rw [List.length_singleton]; omega)]
        simp [ND]
theorem ND_ge : ∀ {q : List StepC}, (∀ s ∈ q, rightS s) → -(q.length : Int) ≤ ND q
  | [], _ => by simp [ND]
  | s :: r, h => by
    have h1 := takesS_ge (h s (by simp))
    have h2 := ND_ge (q := r) fun x hx => h x (by simp [hx])
    simp only [ND, List.length_cons]; omega
theorem ND_bd {t : Qt} (hn : t.isN) (hw : t.wf) (i : Nat) : -1 ≤ ND (t.st.drop i) ∧ ND (t.st.drop i) ≤ t.st.length := by
  obtain ⟨h1, h2⟩ := (nd_st t hw).1 hn
  have h3 := (st_right t hw).1 hn
  constructor
  · rcases Nat.eq_zero_or_pos i with h | h
    · rw [h, List.drop_zero, h1]; omega
    · have := h2 i h; omega
  · have h4 := ND_app (t.st.take i) (t.st.drop i)
    rw [List.take_append_drop, h1] at h4
    have h5 := ND_ge (q := t.st.take i) fun s hs => h3 s (List.mem_of_mem_take hs)
    rw [List.length_take] at h5
    omega
/-- a row of steps in memory: where it lies, its room, the steps -/
abbrev Pq := Option Addr × Nat × List StepC
abbrev pqv (e : Pq) : Value := .slice e.1 e.2.2.length e.2.1
def PqB (B : Nat) (w0 : World) (F : List Ch) (PL : List Pq) : Prop := ∀ e ∈ PL, Bor B w0 F 5 (.slice e.1 e.2.2.length e.2.1) e.2.2.length (stepsV e.2.2)
theorem pq_one (PL : List Pq) : ∀ u ∈ PL.map pqv, u.oneCell' = true := fun u hu => by
  obtain ⟨e, _, rfl⟩ := List.mem_map.1 hu; rfl
theorem PqB.mono {PL : List Pq} (h : PqB B w0 F PL) (hs : F.Sublist M) : PqB B w0 M PL := fun e he => (h e he).mono hs
theorem pq_get {PL : List Pq} {k : Nat} (h : k < PL.length) : (PL.map pqv)[k * 1]? = some (pqv (PL.getD k (none, 0, []))) := by
  rw [Nat.mul_one, List.getElem?_map, List.getElem?_eq_getElem h]; simp [List.getD, List.getElem?_eq_getElem h]
def PartsQ (B : Nat) (w0 : World) (t : Qt) (A : Option Addr) (c : Nat) (F : List Ch) (r : Value) (L : List Ch) : Prop :=
  ∃ A' c' PL, r = .slice A' (kidsT t).length c' ∧ PL.length = (kidsT t).length ∧ L = .own 22 1 A' (kidsT t).length c' (PL.map pqv) :: F ∧ PL.map (·.2.2) = (kidsT t).map Qt.st ∧ ∀ F', Bor B w0 F' 5 (.slice A t.st.length c) t.st.length (stepsV t.st) → PqB B w0 F' PL
theorem drop_szL {l : List Qt} {k : Nat} (h : k < l.length) (x : List StepC) : (l.flatMap Qt.st ++ x).drop (szL (l.take k)) = (l.getD k .nil).st ++ ((l.drop (k + 1)).flatMap Qt.st ++ x) := by
  conv => lhs; rw [← List.take_append_drop k l, List.flatMap_append, List.append_assoc]
  unfold szL
  rw [List.take_append_drop, List.drop_left, drop_getD h .nil, List.flatMap_cons, List.append_assoc]
theorem szL_take {l : List Qt} {k : Nat} (h : k < l.length) : szL (l.take (k + 1)) = szL (l.take k) + (l.getD k .nil).st.length := by
  rw [take_getD h .nil, szL_app, szL_one]
theorem getD_drop_app {α : Type} {q a b : List α} {e i : Nat} {d : α} (h : q.drop e = a ++ b) (hi : i < a.length) : q.getD (e + i) d = a.getD i d := by
  have h1 : (q.drop e)[i]? = a[i]? := by rw [h, List.getElem?_append_left hi]
  rw [List.getElem?_drop] at h1
  rw [List.getD_eq_getElem?_getD, List.getD_eq_getElem?_getD, h1]
theorem parts_d {t : Qt} (hn : t.isN) (hw : t.wf) (hl : t.st.length ≤ 1000000) (hb : Bor B w0 F 5 (.slice A t.st.length c) t.st.length (stepsV t.st)) :
    Does Try.prog B w0 15 [.slice A t.st.length c] F (PartsQ B w0 t A c F) := by
  have hsp := st_split hn hw
  obtain ⟨hlr, hlt⟩ := lastT_ok hn hw
  have hkw := kidsT_wf hw
  have hri := (st_right t hw).1 hn
  obtain ⟨q, hq⟩ : ∃ q, q = t.st := ⟨_, rfl⟩
  unfold PartsQ
  rw [← hq] at hsp hri hl hb ⊢
  obtain ⟨l, hll⟩ : ∃ l, l = kidsT t := ⟨_, rfl⟩
  rw [← hll] at hsp hlt hkw ⊢
  obtain ⟨lt, hltt⟩ : ∃ lt, lt = lastT t := ⟨_, rfl⟩
  rw [← hltt] at hsp hlr hlt
  have hql : q.length = szL l + 1 := by rw [hsp]; unfold szL; simp
  have hnl : l.length ≤ szL l := flat_len hkw
  have hlast : q.getD (q.length - 1) sNil = lt := by
    rw [show q.length - 1 = szL l by omega, hsp]
    unfold szL
    rw [List.getD_eq_getElem?_getD, List.getElem?_append_right (Nat.le_refl _)]; simp
  have hcl := step_cells (q := q) (k := q.length - 1) (by omega)
  rw [hlast] at hcl
  refine Does.bor hb fun hcap _ => ?_
  refine fn_walk Try.func15 48 rfl rfl rfl [(0, .slice A q.length c)] ⟨⟨rfl, rfl⟩, trivial⟩ ?_
  refine vc_seq ?_
  refine vc_region ?_
  refine vl_det (det_assign rfl) rfl ?_
  refine vl_end [(0, _)] ⟨rfl, trivial⟩ ?_
  refine then_next ?_
  refine vc_seq ?_
  refine vc_nil_row 22 1 none ?_
  refine vc_region ?_
  refine vl_det (det_assign rfl) rfl ?_
  refine vl_end [(0, _), (3, _)] ⟨rfl, rfl, trivial⟩ ?_
  refine then_next ?_
  refine vc_seq ?_
  refine vc_region ?_
  refine vl_det (det_move rfl) rfl ?_
  refine vl_det (det_len_sl Try.underlying22 rfl) rfl ?_
  refine vl_det (det_sub rfl rfl (w_i64 (by omega) (by omega))) rfl ?_
  refine vl_det (det_assign rfl) rfl ?_
  refine vl_end [(0, _), (3, _), (4, _)] ⟨rfl, rfl, rfl, trivial⟩ ?_
  refine then_next ?_
  refine vc_seq ?_
  refine vc_seq ?_
  refine vc_region ?_
  refine vl_det (det_assign rfl) rfl ?_
  refine vl_end [(0, _), (3, _), (4, _), (5, _)] ⟨rfl, rfl, rfl, rfl, trivial⟩ ?_
  refine then_next ?_
  refine vc_block ?_
  refine vc_loopJ (fun zf zL zm => ∃ (k e : Nat) (PL : List Pq) (A3 : Option Addr) (c3 : Nat), (k ≤ l.length ∧ e = szL (l.take (l.length - k)) ∧ PL.length = k ∧ PL.map (·.2.2) = (l.drop (l.length - k)).map Qt.st ∧ ∀ F', Bor B w0 F' 5 (.slice A q.length c) q.length (stepsV q) → PqB B w0 F' PL) ∧ l.length - k = zm ∧ Sub zf [(0, .slice A q.length c), (3, .slice A3 k c3), (4, .int .i64 e), (5, .int .i64 k)] ∧ Wk zL (.own 22 1 A3 k c3 (PL.map pqv) :: F)) _ ⟨0, szL l, [], none, 0, ⟨Nat.zero_le _, by rw [Nat.sub_zero, List.take_length], rfl, by simp, fun _ _ e h => absurd h (by simp)⟩, rfl, ⟨(by first | rfl | exact int_to (by omega) | exact sl_to (by omega)), (by first | rfl | exact int_to (by omega) | exact sl_to (by omega)), (by first | rfl | exact int_to (by omega) | exact sl_to (by omega)), (by first | rfl | exact int_to (by omega) | exact sl_to (by omega)), trivial⟩, .refl _⟩ ?_
  rintro _ _ _ ⟨k, e, PL, A3, c3, ⟨hk, he, hpl, hpm, hpb⟩, rfl, hs, hp⟩
  refine vc_weaken _ hs (vc_wk hp ?_)
  clear hs hp
  refine vc_seq ?_
  refine vc_seq ?_
  refine vc_region ?_
  refine vl_det (det_move rfl) rfl ?_
  refine vl_det (det_move rfl) rfl ?_
  refine vl_det (det_move rfl) rfl ?_
  refine vl_det (det_len_sl Try.underlying22 rfl) rfl ?_
  refine vl_det (det_sub rfl rfl (w_i64 (by omega) (by omega))) rfl ?_
  refine vl_det (det_indexAddr (i := q.length - 1) (size := 5) Try.underlying22 (by kernel_rfl) rfl rfl (by omega) (by omega) (by first | (exact Bor.own (by repeat (first | exact List.Mem.head _ | apply List.Mem.tail))) | (repeat (first | assumption | apply Bor.cons)))) rfl ?_
  refine vl_det (det_load_rowa 5 (by kernel_rfl) rfl (by first | (exact Bor.own (by repeat (first | exact List.Mem.head _ | apply List.Mem.tail))) | (repeat (first | assumption | apply Bor.cons))) (by omega) (StepC.cells lt) hcl rfl) rfl ?_
  refine vl_call co32 rfl (rtakes_d lt hlr) rfl ?_
  rintro _ _ ⟨rfl, hLL⟩
  obtain rfl := hLL.symm
  rw [hlt]
  refine vl_det (det_lss rfl rfl) rfl ?_
  refine vl_end [(0, _), (3, _), (4, _), (5, _), (19, _)] ⟨rfl, rfl, rfl, rfl, rfl, trivial⟩ ?_
  refine then_next ?_
  refine vc_decideU rfl (fun h19 => ?_) (fun h19 => ?_)
  · skip
    obtain ⟨i, hi⟩ : ∃ i, l.length - k = i + 1 := ⟨l.length - k - 1, by omega⟩
    rw [hi] at he hpm
    have hil : i < l.length := by omega
    have hkm := getD_mem hil Qt.nil
    have hkk := hkw _ hkm
    have hst := szL_take hil
    have hdr := drop_szL hil [lt]
    rw [← hsp] at hdr
    have hle : szL (l.take (i + 1)) ≤ szL l := by
      conv => rhs; rw [← List.take_append_drop (i + 1) l, szL_app]
      omega
    have hdl : l.drop i = l.getD i .nil :: l.drop (i + 1) := drop_getD hil .nil
    obtain ⟨x, hx⟩ : ∃ x, x = l.getD i .nil := ⟨_, rfl⟩
    rw [← hx] at hkk hst hdr hdl
    obtain ⟨hx1, hx2⟩ := (nd_st x hkk.2).1 hkk.1
    have hxp := st_pos hkk.1
    obtain ⟨e0, he0⟩ : ∃ e0, e0 = szL (l.take i) := ⟨_, rfl⟩
    rw [← he0] at hst hdr
    have hee : e = e0 + x.st.length := by omega
    have hgx : ∀ j, j < x.st.length → q.getD (e0 + j) sNil = x.st.getD j sNil := fun j hj => getD_drop_app hdr hj
    refine vc_skip ?_
    refine then_next ?_
    refine vc_seq ?_
    refine vc_block ?_
    refine vc_seq ?_
    refine vc_region ?_
    refine vl_det (det_move rfl) rfl ?_
    refine vl_det (det_assign rfl) rfl ?_
    refine vl_det (det_assign rfl) rfl ?_
    refine vl_end [(0, _), (3, _), (4, _), (5, _), (6, _), (7, _)] ⟨rfl, rfl, rfl, rfl, rfl, rfl, trivial⟩ ?_
    refine then_next ?_
    refine vc_seq ?_
    refine vc_block ?_
    refine vc_loopJ (fun zf zL zm => ∃ (j fr_ : Nat) (nd : Int), (j ≤ x.st.length ∧ fr_ = e0 + (x.st.length - j) ∧ nd = ND (x.st.drop (x.st.length - j))) ∧ x.st.length - j = zm ∧ Sub zf [(0, .slice A q.length c), (3, .slice A3 k c3), (4, .int .i64 e), (5, .int .i64 k), (6, .int .i64 fr_), (7, .int .i64 nd)] ∧ Wk zL (.own 22 1 A3 k c3 (PL.map pqv) :: F)) _ ⟨0, e, 0, ⟨Nat.zero_le _, by omega, by rw [Nat.sub_zero, List.drop_of_length_le (Nat.le_refl _)]; rfl⟩, rfl, ⟨(by first | rfl | exact int_to (by omega) | exact sl_to (by omega)), (by first | rfl | exact int_to (by omega) | exact sl_to (by omega)), (by first | rfl | exact int_to (by omega) | exact sl_to (by omega)), (by first | rfl | exact int_to (by omega) | exact sl_to (by omega)), (by first | rfl | exact int_to (by omega) | exact sl_to (by omega)), (by first | rfl | exact int_to (by omega) | exact sl_to (by omega)), trivial⟩, .refl _⟩ ?_
    rintro _ _ _ ⟨j, fr_, nd, ⟨hj, hfr, hnd⟩, rfl, hs, hp⟩
    refine vc_weaken _ hs (vc_wk hp ?_)
    clear hs hp
    refine vc_seq ?_
    refine vc_seq ?_
    refine vc_region ?_
    refine vl_cut 6 28 [(0, _), (3, _), (4, _), (5, _), (6, _), (7, _)] (0 ≤ nd ∧ (0 : Int) < fr_) ⟨rfl, rfl, rfl, rfl, rfl, rfl, trivial⟩ ?_ ?_
    · skip
      refine vl_det (det_move rfl) rfl ?_
      refine vl_det (det_geq rfl rfl) rfl ?_
      refine vl_det (det_move rfl) rfl ?_
      refine vl_guardp rfl rfl rfl (fun h25 => ?_) (fun h25 => ?_)
      · skip
        refine vl_det (det_move rfl) rfl ?_
        refine vl_guard_t rfl rfl ?_
        refine vl_det (det_gtr rfl rfl) rfl ?_
        refine vl_det (det_pick_t rfl rfl) rfl ?_
        exact vl_cut_end ⟨rfl, rfl, rfl, rfl, rfl, rfl, trivial⟩ (by first | rfl | exact bool_to_t (by first | omega | simp_all) | exact bool_to_f (by first | omega | simp_all) | exact bool_to (by first | omega | simp_all) | exact bool_to_b (by first | omega | simp_all))
      · skip
        refine vl_guard_f rfl rfl rfl rfl ?_
        refine vl_det (det_pick_f rfl rfl) rfl ?_
        exact vl_cut_end ⟨rfl, rfl, rfl, rfl, rfl, rfl, trivial⟩ (by first | rfl | exact bool_to_t (by first | omega | simp_all) | exact bool_to_f (by first | omega | simp_all) | exact bool_to (by first | omega | simp_all) | exact bool_to_b (by first | omega | simp_all))
    · skip
      refine vl_end [(0, _), (3, _), (4, _), (5, _), (6, _), (7, _), (28, _)] ⟨rfl, rfl, rfl, rfl, rfl, rfl, rfl, trivial⟩ ?_
      refine then_next ?_
      refine vc_decideU rfl (fun h28 => ?_) (fun h28 => ?_)
      · skip
        have hjl : j < x.st.length := by
          rcases Nat.lt_or_ge j x.st.length with h | h
          · exact h
          · rw [show x.st.length - j = 0 by omega, List.drop_zero, hx1] at hnd; omega
        obtain ⟨p, hp⟩ : ∃ p, x.st.length - j = p + 1 := ⟨x.st.length - j - 1, by omega⟩
        rw [hp] at hnd hfr
        have hpl2 : p < x.st.length := by omega
        have hdp : ND (x.st.drop p) = takesS (x.st.getD p sNil) - 1 + ND (x.st.drop (p + 1)) := by rw [drop_getD hpl2 sNil]; rfl
        have hb1 := ND_bd hkk.1 hkk.2 p
        have hb2 := ND_bd hkk.1 hkk.2 (p + 1)
        rw [← hnd] at hdp hb2
        have hgp := hgx p hpl2
        have hcp := step_cells (q := q) (k := e0 + p) (by omega)
        have hrp := hri _ (getD_mem (show e0 + p < q.length by omega) sNil)
        rw [hgp] at hcp hrp
        obtain ⟨s, hs⟩ : ∃ s, s = x.st.getD p sNil := ⟨_, rfl⟩
        rw [← hs] at hdp hcp hrp
        obtain ⟨nd2, hnd2⟩ : ∃ nd2, nd2 = ND (x.st.drop p) := ⟨_, rfl⟩
        rw [← hnd2] at hdp hb1
        refine vc_skip ?_
        refine then_next ?_
        refine vc_block ?_
        refine vc_seq ?_
        refine vc_region ?_
        refine vl_det (det_move rfl) rfl ?_
        refine vl_det (det_sub rfl rfl (r := ((e0 + p : Nat) : Int)) ((w_i64 (by omega) (by omega)).trans (by omega))) rfl ?_
        refine vl_det (det_assign rfl) rfl ?_
        refine vl_end [(0, _), (3, _), (4, _), (5, _), (6, _), (7, _)] ⟨rfl, rfl, rfl, rfl, rfl, rfl, trivial⟩ ?_
        refine then_next ?_
        refine vc_region ?_
        refine vl_det (det_move rfl) rfl ?_
        refine vl_det (det_move rfl) rfl ?_
        refine vl_det (det_move rfl) rfl ?_
        refine vl_det (det_indexAddr (i := e0 + p) (size := 5) Try.underlying22 (by kernel_rfl) rfl rfl rfl (by omega) (by first | (exact Bor.own (by repeat (first | exact List.Mem.head _ | apply List.Mem.tail))) | (repeat (first | assumption | apply Bor.cons)))) rfl ?_
        refine vl_det (det_load_rowa 5 (by kernel_rfl) rfl (by first | (exact Bor.own (by repeat (first | exact List.Mem.head _ | apply List.Mem.tail))) | (repeat (first | assumption | apply Bor.cons))) (by omega) (StepC.cells s) hcp rfl) rfl ?_
        refine vl_call co32 rfl (rtakes_d s hrp) rfl ?_
        rintro _ _ ⟨rfl, hLL⟩
        obtain rfl := hLL.symm
        refine vl_det (det_add rfl rfl (w_i64 (by omega) (by omega))) rfl ?_
        refine vl_det (det_sub rfl rfl (r := nd2) ((w_i64 (by omega) (by omega)).trans (by omega))) rfl ?_
        refine vl_det (det_assign rfl) rfl ?_
        refine vl_end [(0, _), (3, _), (4, _), (5, _), (6, _), (7, _)] ⟨rfl, rfl, rfl, rfl, rfl, rfl, trivial⟩ ?_
        refine in_normal ?_
        refine in_loop_ ⟨_, by omega, j + 1, e0 + p, nd2, ⟨by omega, by omega, by rw [hnd2, show x.st.length - (j + 1) = p by omega]⟩, rfl, ⟨(by first | rfl | exact int_to (by omega) | exact sl_to (by omega)), (by first | rfl | exact int_to (by omega) | exact sl_to (by omega)), (by first | rfl | exact int_to (by omega) | exact sl_to (by omega)), (by first | rfl | exact int_to (by omega) | exact sl_to (by omega)), (by first | rfl | exact int_to (by omega) | exact sl_to (by omega)), (by first | rfl | exact int_to (by omega) | exact sl_to (by omega)), trivial⟩, .refl _⟩
      · skip
        have hjl : j = x.st.length := by
          rcases Nat.lt_or_ge j x.st.length with h | h
          · have := hx2 (x.st.length - j) (by omega)
            rw [← hnd] at this
            exact absurd ⟨this, by omega⟩ h28
          · omega
        obtain rfl : fr_ = e0 := by omega
        have hrow : ((stepsV q).take (e * 5)).drop (fr_ * 5) = stepsV x.st := by
          rw [steps_take, steps_drop, List.drop_take, hdr, hee, Nat.add_sub_cancel_left, List.take_left]
        have hbx : ∀ F', Bor B w0 F' 5 (.slice A q.length c) q.length (stepsV q) → Bor B w0 F' 5 (.slice (if c = fr_ then A else A.map (·.add (fr_ * 5))) (e - fr_) (c - fr_)) (e - fr_) (stepsV x.st) := fun F' hb => by
          have h := (hb.head_ (k := e) (by omega)).cut (k := fr_) (by omega)
          rwa [hrow] at h
        have hel : e - fr_ = x.st.length := by omega
        rw [hel] at hbx
        have hbxF := hbx F hb
        refine vc_exit ?_
        refine then_exit ?_
        refine loop_exit ?_
        refine in_eq ?_
        refine then_next ?_
        refine vc_seq ?_
        refine vc_region ?_
        refine vl_det (det_move rfl) rfl ?_
        refine vl_det (det_move rfl) rfl ?_
        refine vl_det (det_move rfl) rfl ?_
        refine vl_det (det_slice_both (i := fr_) (j := e) (size := 5) Try.underlying22 (by kernel_rfl) rfl rfl rfl rfl rfl (by omega) (by omega)) rfl ?_
        rw [hel]
        refine vl_eff (eff_build_lit slT31 [_] rfl rfl (by first | exact bv_one _ | exact strs_one _ | exact ints_one _ _ | (simp; done) | (simp [Value.oneCell']; done) | assumption) (by omega) (by omega)) rfl ?_
        rintro _ _ ⟨A43, rfl, rfl⟩
        refine vl_det (det_move rfl) rfl ?_
        refine vl_eff (eff_app slT31 rfl (by repeat (first | exact .hd | apply Sel.tl)) rfl (by first | (exact Bor.own (by repeat (first | exact List.Mem.head _ | apply List.Mem.tail))) | (repeat (first | assumption | apply Bor.cons))) (pq_one _) (by omega) (by omega)) rfl ?_
        rintro _ _ ⟨A45, c45, rfl, rfl⟩
        refine vl_det (det_assign rfl) rfl ?_
        refine vl_end [(0, _), (3, _), (5, _), (6, _)] ⟨rfl, rfl, rfl, rfl, trivial⟩ ?_
        refine then_next ?_
        refine vc_region ?_
        refine vl_det (det_move rfl) rfl ?_
        refine vl_det (det_assign rfl) rfl ?_
        refine vl_end [(0, _), (3, _), (4, _), (5, _)] ⟨rfl, rfl, rfl, rfl, trivial⟩ ?_
        refine in_normal ?_
        refine then_next ?_
        refine vc_region ?_
        refine vl_det (det_move rfl) rfl ?_
        refine vl_det (det_add rfl rfl (w_i64 (by omega) (by omega))) rfl ?_
        refine vl_det (det_assign rfl) rfl ?_
        refine vl_end [(0, _), (3, _), (4, _), (5, _)] ⟨rfl, rfl, rfl, rfl, trivial⟩ ?_
        refine in_loop_ ⟨_, by omega, k + 1, fr_, ((if c = fr_ then A else A.map (·.add (fr_ * 5))), c - fr_, x.st) :: PL, A45, c45, ⟨by omega, by rw [he0, show l.length - (k + 1) = i by omega], by simp [hpl], by rw [show l.length - (k + 1) = i by omega, hdl, List.map_cons, List.map_cons, hpm], fun F' hF e he => by
  rcases List.mem_cons.1 he with rfl | he
  · exact hbx F' hF
  · exact hpb F' hF e he⟩, rfl, ⟨(by first | rfl | exact int_to (by omega) | exact sl_to (by omega)), (by first | rfl | exact int_to (by omega) | exact sl_to (by omega)), (by first | rfl | exact int_to (by omega) | exact sl_to (by omega)), (by first | rfl | exact int_to (by omega) | exact sl_to (by omega)), trivial⟩, wk_own (by omega) rfl (.skip (.refl _))⟩
  · skip
    obtain rfl : k = l.length := by omega
    rw [Nat.sub_self, List.drop_zero] at hpm
    refine vc_exit ?_
    refine then_exit ?_
    refine loop_exit ?_
    refine in_eq ?_
    refine then_next ?_
    refine vc_seq ?_
    refine vc_region ?_
    refine vl_det (det_move rfl) rfl ?_
    refine vl_det (det_assign rfl) rfl ?_
    refine vl_end [(2, _)] ⟨rfl, trivial⟩ ?_
    refine then_next ?_
    refine vc_ret ?_
    refine ret1 rfl rfl ?_
    exact ⟨A3, c3, PL, rfl, hpl, rfl, hpm, hpb⟩
end Go.Proofs.Ytakokckokchacaa
namespace Go.Proofs.Ytakokckokchacaa
open Go.RowKit
set_option linter.unusedVariables false
set_option maxRecDepth 20000
variable {B : Nat} {w0 : World} {F : List Ch} {A A1 A2 : Option Addr} {n c c1 c2 g : Nat}
def SameT (l1 l2 : List Txt) (k : Nat) : Prop := l1.take k = l2.take k
theorem SameT.step {l1 l2 : List Txt} {k : Nat} (h : SameT l1 l2 k) (h1 : k < l1.length) (h2 : k < l2.length) (he : l1.getD k [] = l2.getD k []) : SameT l1 l2 (k + 1) := by
  unfold SameT at *
  rw [List.take_add_one, List.take_add_one, h]
  congr 1
  rw [List.getElem?_eq_getElem h1, List.getElem?_eq_getElem h2]
  simp [List.getD, List.getElem?_eq_getElem h1, List.getElem?_eq_getElem h2] at he
  rw [he]
theorem SameT.all {l1 l2 : List Txt} {k : Nat} (h : SameT l1 l2 k) (h1 : ¬ k < l1.length) (h2 : l1.length = l2.length) : l1 = l2 := by
  unfold SameT at h
  rwa [List.take_of_length_le (by omega), List.take_of_length_le (by omega)] at h
theorem has15_d {l1 : List Txt} (t : Txt) (h1 : Bor B w0 F 1 (.slice A1 l1.length c1) l1.length (strs l1)) (hn1 : l1.length ≤ 1000000000000000) :
    Does Try.prog B w0 38 [.slice A1 l1.length c1, .string ⟨t.toArray⟩] F (fun r L => r = .bool (decide (t ∈ l1)) ∧ L = F) := by
  refine fn_walk Try.func38 18 rfl rfl rfl [(0, .slice A1 l1.length c1), (1, .string ⟨t.toArray⟩)] ⟨⟨rfl, rfl⟩, ⟨rfl, rfl⟩, trivial⟩ ?_
  refine vc_seq ?_
  refine vc_region ?_
  refine vl_det (det_assign rfl) rfl ?_
  refine vl_end [(0, _), (1, _)] ⟨rfl, rfl, trivial⟩ ?_
  refine then_next ?_
  refine vc_seq ?_
  refine vc_seq ?_
  refine vc_region ?_
  refine vl_det (det_assign rfl) rfl ?_
  refine vl_end [(0, _), (1, _), (5, _)] ⟨rfl, rfl, rfl, trivial⟩ ?_
  refine then_next ?_
  refine vc_block ?_
  refine vc_loopJ (fun zf zL zm => ∃ (k : Nat), (k ≤ l1.length ∧ t ∉ l1.take k) ∧ l1.length - k = zm ∧ Sub zf [(0, .slice A1 l1.length c1), (1, .string ⟨t.toArray⟩), (5, .int .i64 k)] ∧ Wk zL (F)) _ ⟨0, ⟨Nat.zero_le _, by simp⟩, rfl, ⟨(by first | rfl | exact int_to (by omega) | exact sl_to (by omega)), (by first | rfl | exact int_to (by omega) | exact sl_to (by omega)), (by first | rfl | exact int_to (by omega) | exact sl_to (by omega)), trivial⟩, .refl _⟩ ?_
  rintro _ _ _ ⟨k, ⟨hk, hS⟩, rfl, hs, hp⟩
  refine vc_weaken _ hs (vc_wk hp ?_)
  clear hs hp
  refine vc_seq ?_
  refine vc_seq ?_
  refine vc_region ?_
  refine vl_det (det_move rfl) rfl ?_
  refine vl_det (det_move rfl) rfl ?_
  refine vl_det (det_len_sl Try.underlying39 rfl) rfl ?_
  refine vl_det (det_lss rfl rfl) rfl ?_
  refine vl_end [(0, _), (1, _), (5, _), (9, _)] ⟨rfl, rfl, rfl, rfl, trivial⟩ ?_
  refine then_next ?_
  refine vc_decideU rfl (fun h9 => ?_) (fun h9 => ?_)
  · skip
    refine vc_skip ?_
    refine then_next ?_
    refine vc_seq ?_
    refine vc_block ?_
    refine vc_seq ?_
    refine vc_region ?_
    refine vl_det (det_move rfl) rfl ?_
    refine vl_det (det_move rfl) rfl ?_
    refine vl_det (det_indexAddr (size := 1) Try.underlying39 (by kernel_rfl) rfl rfl rfl (by omega) (by first | (exact Bor.own (by repeat (first | exact List.Mem.head _ | apply List.Mem.tail))) | (repeat (first | assumption | apply Bor.cons)))) rfl ?_
    refine vl_det (det_load_str (by kernel_rfl) rfl (by first | (exact Bor.own (by repeat (first | exact List.Mem.head _ | apply List.Mem.tail))) | (repeat (first | assumption | apply Bor.cons))) (by omega)) rfl ?_
    refine vl_det (det_move rfl) rfl ?_
    refine vl_det (det_s_eql rfl rfl) rfl ?_
    refine vl_end [(0, _), (1, _), (5, _), (17, _)] ⟨rfl, rfl, rfl, rfl, trivial⟩ ?_
    refine then_next ?_
    refine vc_decideU rfl (fun h17 => ?_) (fun h17 => ?_)
    · skip
      refine vc_seq ?_
      refine vc_region ?_
      refine vl_det (det_assign rfl) rfl ?_
      refine vl_end [(4, _)] ⟨rfl, trivial⟩ ?_
      refine then_next ?_
      refine vc_ret ?_
      refine in_ret ?_
      refine then_ret ?_
      refine loop_ret ?_
      refine in_ret ?_
      refine then_ret ?_
      refine ret1 rfl rfl ?_
      rw [decide_eq_true (h17 ▸ getD_mem (by omega) [])]; exact ⟨rfl, rfl⟩
    · skip
      refine vc_skip ?_
      refine in_normal ?_
      refine then_next ?_
      refine vc_region ?_
      refine vl_det (det_move rfl) rfl ?_
      refine vl_det (det_add rfl rfl (w_i64 (by omega) (by omega))) rfl ?_
      refine vl_det (det_assign rfl) rfl ?_
      refine vl_end [(0, _), (1, _), (5, _)] ⟨rfl, rfl, rfl, trivial⟩ ?_
      refine in_loop_ ⟨_, by omega, k + 1, ⟨by omega, by rw [take_getD (by omega) []]; simp [hS]; exact fun e => h17 (by simpa using e.symm)⟩, rfl, ⟨(by first | rfl | exact int_to (by omega) | exact sl_to (by omega)), (by first | rfl | exact int_to (by omega) | exact sl_to (by omega)), (by first | rfl | exact int_to (by omega) | exact sl_to (by omega)), trivial⟩, .refl _⟩
  · skip
    refine vc_exit ?_
    refine then_exit ?_
    refine loop_exit ?_
    refine in_eq ?_
    refine then_next ?_
    refine vc_seq ?_
    refine vc_region ?_
    refine vl_det (det_assign rfl) rfl ?_
    refine vl_end [(4, _)] ⟨rfl, trivial⟩ ?_
    refine then_next ?_
    refine vc_ret ?_
    refine ret1 rfl rfl ?_
    rw [List.take_of_length_le (by omega)] at hS; rw [decide_eq_false hS]; exact ⟨rfl, rfl⟩
end Go.Proofs.Ytakokckokchacaa
namespace Go.Proofs.Ytakokckokchacaa
open Go.RowKit
set_option linter.unusedVariables false
set_option maxRecDepth 20000
variable {B : Nat} {w0 : World} {F R L M : List Ch} {A A2 AT : Option Addr} {n c c2 cT g : Nat} {x : RecC} {T : List Txt} {s : StepC} {t : Qt} {q : List StepC}
theorem rbeginsm_d (x t : Txt) : Does Try.prog B w0 39 [.string ⟨x.toArray⟩, .string ⟨t.toArray⟩] F (fun r L => r = .bool (decide (bgT x t)) ∧ L = F) := by
  refine fn_walk Try.func39 18 rfl rfl rfl [(0, .string ⟨x.toArray⟩), (1, .string ⟨t.toArray⟩)] ⟨⟨rfl, rfl⟩, ⟨rfl, rfl⟩, trivial⟩ ?_
  refine vc_seq ?_
  refine vc_region ?_
  refine vl_det (det_assign rfl) rfl ?_
  refine vl_end [(0, _), (1, _)] ⟨rfl, rfl, trivial⟩ ?_
  refine then_next ?_
  refine vc_seq ?_
  refine vc_region ?_
  refine vl_cut 13 17 [] (bgT x t) trivial ?_ ?_
  · skip
    refine vl_det (det_move rfl) rfl ?_
    refine vl_det (det_len_s Try.underlying9 rfl) rfl ?_
    refine vl_det (det_move rfl) rfl ?_
    refine vl_det (det_len_s Try.underlying9 rfl) rfl ?_
    refine vl_det (det_geq rfl rfl) rfl ?_
    refine vl_det (det_move rfl) rfl ?_
    refine vl_guardp rfl rfl rfl (fun h10 => ?_) (fun h10 => ?_)
    · skip
      refine vl_det (det_move rfl) rfl ?_
      refine vl_guard_t rfl rfl ?_
      refine vl_det (det_move rfl) rfl ?_
      refine vl_guard_t rfl rfl ?_
      refine vl_det (det_len_s Try.underlying9 rfl) rfl ?_
      refine vl_guard_t rfl rfl ?_
      refine vl_det (det_str_hi Try.underlying9 rfl rfl rfl (by omega)) rfl ?_
      refine vl_guard_t rfl rfl ?_
      refine vl_det (det_move rfl) rfl ?_
      refine vl_guard_t rfl rfl ?_
      refine vl_det (det_s_eql rfl rfl) rfl ?_
      refine vl_det (det_pick_t rfl rfl) rfl ?_
      exact vl_cut_end trivial (by first | rfl | exact bool_to_t (by first | exact fun h => absurd h.1 (by omega) | exact ⟨fun h => ⟨by omega, h⟩, fun h => h.2⟩) | exact bool_to_f (by first | exact fun h => absurd h.1 (by omega) | exact ⟨fun h => ⟨by omega, h⟩, fun h => h.2⟩) | exact bool_to (by first | exact fun h => absurd h.1 (by omega) | exact ⟨fun h => ⟨by omega, h⟩, fun h => h.2⟩) | exact bool_to_b (by first | exact fun h => absurd h.1 (by omega) | exact ⟨fun h => ⟨by omega, h⟩, fun h => h.2⟩))
    · skip
      refine vl_guard_f rfl rfl rfl rfl ?_
      refine vl_guard_f rfl rfl rfl rfl ?_
      refine vl_guard_f rfl rfl rfl rfl ?_
      refine vl_guard_f rfl rfl rfl rfl ?_
      refine vl_guard_f rfl rfl rfl rfl ?_
      refine vl_det (det_pick_f rfl rfl) rfl ?_
      exact vl_cut_end trivial (by first | rfl | exact bool_to_t (by first | exact fun h => absurd h.1 (by omega) | exact ⟨fun h => ⟨by omega, h⟩, fun h => h.2⟩) | exact bool_to_f (by first | exact fun h => absurd h.1 (by omega) | exact ⟨fun h => ⟨by omega, h⟩, fun h => h.2⟩) | exact bool_to (by first | exact fun h => absurd h.1 (by omega) | exact ⟨fun h => ⟨by omega, h⟩, fun h => h.2⟩) | exact bool_to_b (by first | exact fun h => absurd h.1 (by omega) | exact ⟨fun h => ⟨by omega, h⟩, fun h => h.2⟩))
  · skip
    refine vl_det (det_assign rfl) rfl ?_
    refine vl_end [(4, _)] ⟨rfl, trivial⟩ ?_
    refine then_next ?_
    refine vc_ret ?_
    refine ret1 rfl rfl ?_
    exact ⟨rfl, rfl⟩
def RMeQ (B : Nat) (w0 : World) (x : RecC) (t : Qt) : Prop := t.st.length ≤ 1000000 → ∀ (F : List Ch) (A : Option Addr) (c : Nat), Bor B w0 F 5 (.slice A t.st.length c) t.st.length (stepsV t.st) →
  Does Try.prog B w0 22 [.agg (RecC.cells x).toArray, .slice A t.st.length c] F (fun r L => r = .bool (meansT x (termsL x.2.2.2 x.2.2.1) t) ∧ L = F)
theorem countP_all (l : List Qt) (p : Qt → Bool) : l.all p = decide ((l.countP p : Int) = l.length) := by
  rw [Bool.eq_iff_iff, List.all_eq_true, decide_eq_true_iff]
  have := List.countP_eq_length (p := p) (l := l)
  constructor
  · intro h; exact_mod_cast this.2 h
  · intro h; exact this.1 (by omega)
theorem countP_any (l : List Qt) (p : Qt → Bool) : l.any p = decide (0 < (l.countP p : Int)) := by
  rw [Bool.eq_iff_iff, List.any_eq_true, decide_eq_true_iff]
  have := List.countP_pos_iff (p := p) (l := l)
  constructor
  · rintro ⟨a, h1, h2⟩; have := this.2 ⟨a, h1, h2⟩; omega
  · intro h; obtain ⟨a, h1, h2⟩ := this.1 (by omega); exact ⟨a, h1, h2⟩
theorem rmeans_leaf (h1 : x.2.2.1.length ≤ 1000000) (h2 : x.2.2.2.length ≤ 1000000) (hr : rightS s) (h4 : s.1 ≤ 4) : RMeQ B w0 x (.leaf s) := fun hl F A c hb => by
  obtain ⟨op, nn, wd, fr, to⟩ := s
  obtain ⟨tm, lv, src, txt⟩ := x
  have hlv := lv.toNat_lt
  have hop : 1 ≤ op ∧ op ≤ 4 := by
    rcases hr with h | h | h | h <;> simp only at h h4 <;> omega
  simp only at h1 h2 ⊢
  have hTl := termsL_le txt src (by omega) (by omega)
  obtain ⟨T, hT⟩ : ∃ T, T = termsL txt src := ⟨_, rfl⟩
  have hrt := fun F a b => @rterms_d B w0 F a b txt src (by omega) (by omega)
  rw [← hT] at hTl hrt ⊢
  show Does Try.prog B w0 22 [.agg #[.int .u64 (tm : Int), .int .u8 (lv.toNat : Int), .string ⟨src.toArray⟩, .string ⟨txt.toArray⟩], .slice A 1 c] F (fun r L => r = .bool (leafM (tm, lv, src, txt) T (op, nn, wd, fr, to)) ∧ L = F)
  have hb1 : Bor B w0 F 5 (.slice A 1 c) 1 [.int .i64 op, .int .i64 nn, .string ⟨wd.toArray⟩, .int .u64 (fr : Int), .int .u64 (to : Int)] := by
    have := hb
    simpa [Qt.st, stepsV, StepC.cells] using this
  clear hb hl
  have hq1 : op = 1 → leafM (tm, lv, src, txt) T (op, nn, wd, fr, to) = decide (wd ∈ T) := fun h => if_pos h
  have hq2 : op = 2 → leafM (tm, lv, src, txt) T (op, nn, wd, fr, to) = T.any (fun y => decide (bgT y wd)) := fun h => by unfold leafM; simp only; rw [if_neg (by omega), if_pos h]
  have hq3 : op = 3 → leafM (tm, lv, src, txt) T (op, nn, wd, fr, to) = decide (fr ≤ tm ∧ tm ≤ to) := fun h => by unfold leafM; simp only; rw [if_neg (by omega), if_neg (by omega), if_pos h]
  have hq4 : op = 4 → leafM (tm, lv, src, txt) T (op, nn, wd, fr, to) = decide (fr ≤ lv.toNat ∧ lv.toNat ≤ to) := fun h => by unfold leafM; simp only; rw [if_neg (by omega), if_neg (by omega), if_neg (by omega)]
  have hone := step_one (op, nn, wd, fr, to)
  simp only [StepC.cells] at hone
  refine fn_walk Try.func22 104 rfl rfl rfl [(0, .agg #[.int .u64 (tm : Int), .int .u8 (lv.toNat : Int), .string ⟨src.toArray⟩, .string ⟨txt.toArray⟩]), (1, .slice A 1 c)] ⟨⟨rfl, rfl⟩, ⟨rfl, rfl⟩, trivial⟩ ?_
  refine vc_seq ?_
  refine vc_region ?_
  refine vl_eff (eff_box rfl rfl) rfl ?_
  rintro _ _ ⟨g2, rfl, rfl⟩
  refine vl_det (det_assign rfl) rfl ?_
  refine vl_end [(1, _), (2, _)] ⟨rfl, rfl, trivial⟩ ?_
  refine then_next ?_
  refine vc_seq ?_
  refine vc_region ?_
  refine vl_det (det_move rfl) rfl ?_
  refine vl_det (det_move rfl) rfl ?_
  refine vl_det (det_len_sl Try.underlying22 rfl) rfl ?_
  refine vl_det (det_sub rfl rfl (w_i64 (by omega) (by omega))) rfl ?_
  refine vl_det (det_indexAddr (i := 0) (size := 5) Try.underlying22 (by kernel_rfl) rfl rfl rfl (by omega) (by first | (exact Bor.own (by repeat (first | exact List.Mem.head _ | apply List.Mem.tail))) | (repeat (first | assumption | apply Bor.cons)))) rfl ?_
  refine vl_det (det_load_rowa (j := 0) 5 (by kernel_rfl) rfl (by first | (exact Bor.own (by repeat (first | exact List.Mem.head _ | apply List.Mem.tail))) | (repeat (first | assumption | apply Bor.cons))) (by omega) [.int .i64 op, .int .i64 nn, .string ⟨wd.toArray⟩, .int .u64 (fr : Int), .int .u64 (to : Int)] (fun q u h => by rw [Nat.zero_add]; exact h) rfl) rfl ?_
  refine vl_eff (eff_alloc_z (zv := (.agg #[.int .i64 0, .int .i64 0, .string ⟨#[]⟩, .int .u64 0, .int .u64 0])) (by kernel_rfl) rfl) rfl ?_
  rintro _ _ ⟨g5, rfl, rfl⟩
  refine vl_eff0 (eff_store_whole 5 (by kernel_rfl) rfl rfl (by first | exact bv_one _ | exact strs_one _ | exact ints_one _ _ | (simp; done) | (simp [Value.oneCell']; done) | assumption) (by repeat (first | exact .hd | apply Sel.tl)) (by first | rfl | (simp; omega) | (simp [*]; done)) (by first | rfl | (simp; omega) | (simp [*]; done))) ?_
  rintro _ _ rfl
  refine vl_end [(1, _), (2, _), (5, _)] ⟨rfl, rfl, rfl, trivial⟩ ?_
  refine then_next ?_
  refine vc_seq ?_
  refine vc_region ?_
  refine vl_det (det_load_whole 4 (by kernel_rfl) rfl (by repeat (first | exact .hd | apply Sel.tl)) (by first | rfl | (simp; omega) | (simp [*]; done))) rfl ?_
  refine vl_call co37 rfl (hrt _ _ _) rfl ?_
  rintro _ _ ⟨A18, c18, rfl, hLL⟩
  obtain rfl := hLL.symm
  refine vl_det (det_assign rfl) rfl ?_
  refine vl_end [(1, _), (2, _), (5, _), (6, _)] ⟨rfl, rfl, rfl, rfl, trivial⟩ ?_
  refine then_next ?_
  refine vc_seq ?_
  refine vc_seq ?_
  refine vc_region ?_
  refine vl_det (det_fieldAddr_ Try.underlying38 rfl (by kernel_rfl) rfl rfl) rfl ?_
  refine vl_det (det_load_blk (by kernel_rfl) rfl (by repeat (first | exact .hd | apply Sel.tl)) rfl) rfl ?_
  refine vl_det (det_eql rfl rfl) rfl ?_
  refine vl_end [(1, _), (2, _), (5, _), (6, _), (21, _)] ⟨rfl, rfl, rfl, rfl, rfl, trivial⟩ ?_
  refine then_next ?_
  refine vc_decideU rfl (fun h21 => ?_) (fun h21 => ?_)
  · skip
    refine vc_seq ?_
    refine vc_region ?_
    refine vl_det (det_move rfl) rfl ?_
    refine vl_det (det_fieldAddr_ Try.underlying38 rfl (by kernel_rfl) rfl rfl) rfl ?_
    refine vl_det (det_load_blk (by kernel_rfl) rfl (by repeat (first | exact .hd | apply Sel.tl)) rfl) rfl ?_
    refine vl_call co38 rfl (has15_d wd (by first | (exact Bor.own (by repeat (first | exact List.Mem.head _ | apply List.Mem.tail))) | (repeat (first | assumption | apply Bor.cons))) (by omega)) rfl ?_
    rintro _ _ ⟨rfl, hLL⟩
    obtain rfl := hLL.symm
    refine vl_det (det_assign rfl) rfl ?_
    refine vl_end [(4, _)] ⟨rfl, trivial⟩ ?_
    refine then_next ?_
    refine vc_ret ?_
    refine then_ret ?_
    refine ret_wk (L' := F) (.skip (.skip (.skip (.refl _)))) ?_
    refine ret1 rfl rfl ?_
    exact ⟨by rw [hq1 (by assumption)], rfl⟩
  · skip
    refine vc_skip ?_
    refine then_next ?_
    refine vc_seq ?_
    refine vc_seq ?_
    refine vc_region ?_
    refine vl_det (det_fieldAddr_ Try.underlying38 rfl (by kernel_rfl) rfl rfl) rfl ?_
    refine vl_det (det_load_blk (by kernel_rfl) rfl (by repeat (first | exact .hd | apply Sel.tl)) rfl) rfl ?_
    refine vl_det (det_eql rfl rfl) rfl ?_
    refine vl_end [(1, _), (2, _), (5, _), (6, _), (28, _)] ⟨rfl, rfl, rfl, rfl, rfl, trivial⟩ ?_
    refine then_next ?_
    refine vc_decideU rfl (fun h28 => ?_) (fun h28 => ?_)
    · skip
      refine vc_seq ?_
      refine vc_seq ?_
      refine vc_region ?_
      refine vl_det (det_assign rfl) rfl ?_
      refine vl_end [(5, _), (6, _), (7, _)] ⟨rfl, rfl, rfl, trivial⟩ ?_
      refine then_next ?_
      refine vc_block ?_
      refine vc_loopJ (fun zf zL zm => ∃ (k : Nat), (k ≤ T.length ∧ (T.take k).any (fun y => decide (bgT y wd)) = false) ∧ T.length - k = zm ∧ Sub zf [(5, .pointer (some ⟨g5, 0, none⟩)), (6, .slice A18 T.length c18), (7, .int .i64 k)] ∧ Wk zL (.own 9 1 A18 T.length c18 (strs T) :: .blk g5 38 [.int .i64 op, .int .i64 nn, .string ⟨wd.toArray⟩, .int .u64 (fr : Int), .int .u64 (to : Int)] :: .blk g2 45 [.int .u64 (tm : Int), .int .u8 (lv.toNat : Int), .string ⟨src.toArray⟩, .string ⟨txt.toArray⟩] :: F)) _ ⟨0, ⟨Nat.zero_le _, rfl⟩, rfl, ⟨(by first | rfl | exact int_to (by omega) | exact sl_to (by omega)), (by first | rfl | exact int_to (by omega) | exact sl_to (by omega)), (by first | rfl | exact int_to (by omega) | exact sl_to (by omega)), trivial⟩, .refl _⟩ ?_
      rintro _ _ _ ⟨k, ⟨hk, ha⟩, rfl, hs, hp⟩
      refine vc_weaken _ hs (vc_wk hp ?_)
      clear hs hp
      refine vc_seq ?_
      refine vc_seq ?_
      refine vc_region ?_
      refine vl_det (det_move rfl) rfl ?_
      refine vl_det (det_move rfl) rfl ?_
      refine vl_det (det_len_sl Try.underlying39 rfl) rfl ?_
      refine vl_det (det_lss rfl rfl) rfl ?_
      refine vl_end [(5, _), (6, _), (7, _), (32, _)] ⟨rfl, rfl, rfl, rfl, trivial⟩ ?_
      refine then_next ?_
      refine vc_decideU rfl (fun h32 => ?_) (fun h32 => ?_)
      · skip
        have hmem := getD_mem (show k < T.length by omega) ([] : Txt)
        have htk := take_getD (show k < T.length by omega) ([] : Txt)
        refine vc_skip ?_
        refine then_next ?_
        refine vc_seq ?_
        refine vc_block ?_
        refine vc_seq ?_
        refine vq_region (by kernel_rfl) (by kernel_rfl) ?_
        refine vq_det (det_move rfl) rfl ?_
        refine vq_det (det_move rfl) rfl ?_
        refine vq_det (det_indexAddr (size := 1) Try.underlying39 (by kernel_rfl) rfl rfl rfl (by omega) (by first | (exact Bor.own (by repeat (first | exact List.Mem.head _ | apply List.Mem.tail))) | (repeat (first | assumption | apply Bor.cons)))) rfl ?_
        refine vq_det (det_load_str (b := T) (j := k) (by kernel_rfl) rfl (by first | (exact Bor.own (by repeat (first | exact List.Mem.head _ | apply List.Mem.tail))) | (repeat (first | assumption | apply Bor.cons))) (by omega)) rfl ?_
        refine vq_det (det_fieldAddr_ Try.underlying38 rfl (by kernel_rfl) rfl rfl) rfl ?_
        refine vq_det (det_load_blk (by kernel_rfl) rfl (by repeat (first | exact .hd | apply Sel.tl)) rfl) rfl ?_
        refine vq_call co39 rfl (rbeginsm_d (T.getD k []) wd) (by rintro _ _ ⟨rfl, rfl⟩; exact ⟨rfl, List.Sublist.refl _⟩) rfl ?_
        refine vq_end [(5, _), (6, _), (7, _), (41, _)] ⟨rfl, rfl, rfl, rfl, trivial⟩ ?_
        refine then_next ?_
        refine vc_decideU rfl (fun h41 => ?_) (fun h41 => ?_)
        · skip
          refine vc_seq ?_
          refine vc_region ?_
          refine vl_det (det_assign rfl) rfl ?_
          refine vl_end [(4, _)] ⟨rfl, trivial⟩ ?_
          refine then_next ?_
          refine vc_ret ?_
          refine in_ret ?_
          refine then_ret ?_
          refine loop_ret ?_
          refine in_ret ?_
          refine then_ret ?_
          refine then_ret ?_
          refine ret_wk (L' := F) (.skip (.skip (.skip (.refl _)))) ?_
          refine ret1 rfl rfl ?_
          exact ⟨by rw [hq2 (by assumption)]; exact congrArg Value.bool (List.any_eq_true.2 ⟨_, hmem, decide_eq_true h41⟩).symm, rfl⟩
        · skip
          refine vc_skip ?_
          refine in_normal ?_
          refine then_next ?_
          refine vc_region ?_
          refine vl_det (det_move rfl) rfl ?_
          refine vl_det (det_add rfl rfl (w_i64 (by omega) (by omega))) rfl ?_
          refine vl_det (det_assign rfl) rfl ?_
          refine vl_end [(5, _), (6, _), (7, _)] ⟨rfl, rfl, rfl, trivial⟩ ?_
          refine in_loop_ ⟨_, by omega, k + 1, ⟨by omega, by rw [htk, List.any_append, ha]; simp only [List.any_cons, List.any_nil, Bool.false_or, Bool.or_false]; exact decide_eq_false h41⟩, rfl, ⟨(by first | rfl | exact int_to (by omega) | exact sl_to (by omega)), (by first | rfl | exact int_to (by omega) | exact sl_to (by omega)), (by first | rfl | exact int_to (by omega) | exact sl_to (by omega)), trivial⟩, .refl _⟩
      · skip
        have hall : T.any (fun y => decide (bgT y wd)) = false := by
          have := ha
          rwa [List.take_of_length_le (by omega)] at this
        refine vc_exit ?_
        refine then_exit ?_
        refine loop_exit ?_
        refine in_eq ?_
        refine then_next ?_
        refine vc_seq ?_
        refine vc_region ?_
        refine vl_det (det_assign rfl) rfl ?_
        refine vl_end [(4, _)] ⟨rfl, trivial⟩ ?_
        refine then_next ?_
        refine vc_ret ?_
        refine then_ret ?_
        refine ret_wk (L' := F) (.skip (.skip (.skip (.refl _)))) ?_
        refine ret1 rfl rfl ?_
        exact ⟨by rw [hq2 (by assumption), hall], rfl⟩
    · skip
      refine vc_skip ?_
      refine then_next ?_
      refine vc_seq ?_
      refine vc_seq ?_
      refine vc_region ?_
      refine vl_det (det_fieldAddr_ Try.underlying38 rfl (by kernel_rfl) rfl rfl) rfl ?_
      refine vl_det (det_load_blk (by kernel_rfl) rfl (by repeat (first | exact .hd | apply Sel.tl)) rfl) rfl ?_
      refine vl_det (det_eql rfl rfl) rfl ?_
      refine vl_end [(1, _), (2, _), (5, _), (44, _)] ⟨rfl, rfl, rfl, rfl, trivial⟩ ?_
      refine then_next ?_
      refine vc_decideU rfl (fun h44 => ?_) (fun h44 => ?_)
      · skip
        refine vc_seq ?_
        refine vc_region ?_
        refine vl_cut 12 56 [] (fr ≤ tm ∧ tm ≤ to) trivial ?_ ?_
        · skip
          refine vl_det (det_fieldAddr_ Try.underlying38 rfl (by kernel_rfl) rfl rfl) rfl ?_
          refine vl_det (det_load_blk (by kernel_rfl) rfl (by repeat (first | exact .hd | apply Sel.tl)) rfl) rfl ?_
          refine vl_det (det_fieldAddr_ Try.underlying45 rfl (by kernel_rfl) rfl rfl) rfl ?_
          refine vl_det (det_load_blk (by kernel_rfl) rfl (by repeat (first | exact .hd | apply Sel.tl)) rfl) rfl ?_
          refine vl_det (det_leq rfl rfl) rfl ?_
          refine vl_det (det_move rfl) rfl ?_
          refine vl_guardp rfl rfl rfl (fun h50 => ?_) (fun h50 => ?_)
          · skip
            refine vl_det (det_fieldAddr_ Try.underlying45 rfl (by kernel_rfl) rfl rfl) rfl ?_
            refine vl_guard_t rfl rfl ?_
            refine vl_det (det_load_blk (by kernel_rfl) rfl (by repeat (first | exact .hd | apply Sel.tl)) rfl) rfl ?_
            refine vl_guard_t rfl rfl ?_
            refine vl_det (det_fieldAddr_ Try.underlying38 rfl (by kernel_rfl) rfl rfl) rfl ?_
            refine vl_guard_t rfl rfl ?_
            refine vl_det (det_load_blk (by kernel_rfl) rfl (by repeat (first | exact .hd | apply Sel.tl)) rfl) rfl ?_
            refine vl_guard_t rfl rfl ?_
            refine vl_det (det_leq rfl rfl) rfl ?_
            refine vl_det (det_pick_t rfl rfl) rfl ?_
            exact vl_cut_end trivial (by first | rfl | exact bool_to_t (by first | omega | simp_all) | exact bool_to_f (by first | omega | simp_all) | exact bool_to (by first | omega | simp_all) | exact bool_to_b (by first | omega | simp_all))
          · skip
            refine vl_guard_f rfl rfl rfl rfl ?_
            refine vl_guard_f rfl rfl rfl rfl ?_
            refine vl_guard_f rfl rfl rfl rfl ?_
            refine vl_guard_f rfl rfl rfl rfl ?_
            refine vl_det (det_pick_f rfl rfl) rfl ?_
            exact vl_cut_end trivial (by first | rfl | exact bool_to_t (by first | omega | simp_all) | exact bool_to_f (by first | omega | simp_all) | exact bool_to (by first | omega | simp_all) | exact bool_to_b (by first | omega | simp_all))
        · skip
          refine vl_det (det_assign rfl) rfl ?_
          refine vl_end [(4, _)] ⟨rfl, trivial⟩ ?_
          refine then_next ?_
          refine vc_ret ?_
          refine then_ret ?_
          refine ret_wk (L' := F) (.skip (.skip (.skip (.refl _)))) ?_
          refine ret1 rfl rfl ?_
          exact ⟨by rw [hq3 (by assumption)], rfl⟩
      · skip
        refine vc_skip ?_
        refine then_next ?_
        refine vc_seq ?_
        refine vc_seq ?_
        refine vc_region ?_
        refine vl_det (det_fieldAddr_ Try.underlying38 rfl (by kernel_rfl) rfl rfl) rfl ?_
        refine vl_det (det_load_blk (by kernel_rfl) rfl (by repeat (first | exact .hd | apply Sel.tl)) rfl) rfl ?_
        refine vl_det (det_eql rfl rfl) rfl ?_
        refine vl_end [(1, _), (2, _), (5, _), (59, _)] ⟨rfl, rfl, rfl, rfl, trivial⟩ ?_
        refine then_next ?_
        refine vc_decideU rfl (fun h59 => ?_) (fun h59 => ?_)
        · skip
          refine vc_seq ?_
          refine vc_region ?_
          refine vl_cut 14 73 [] (fr ≤ lv.toNat ∧ lv.toNat ≤ to) trivial ?_ ?_
          · skip
            refine vl_det (det_fieldAddr_ Try.underlying38 rfl (by kernel_rfl) rfl rfl) rfl ?_
            refine vl_det (det_load_blk (by kernel_rfl) rfl (by repeat (first | exact .hd | apply Sel.tl)) rfl) rfl ?_
            refine vl_det (det_fieldAddr_ Try.underlying45 rfl (by kernel_rfl) rfl rfl) rfl ?_
            refine vl_det (det_load_blk (by kernel_rfl) rfl (by repeat (first | exact .hd | apply Sel.tl)) rfl) rfl ?_
            refine vl_det (det_conv Try.underlying5 Try.underlying36 rfl (w_u64 (by omega) (by omega))) rfl ?_
            refine vl_det (det_leq rfl rfl) rfl ?_
            refine vl_det (det_move rfl) rfl ?_
            refine vl_guardp rfl rfl rfl (fun h66 => ?_) (fun h66 => ?_)
            · skip
              refine vl_det (det_fieldAddr_ Try.underlying45 rfl (by kernel_rfl) rfl rfl) rfl ?_
              refine vl_guard_t rfl rfl ?_
              refine vl_det (det_load_blk (by kernel_rfl) rfl (by repeat (first | exact .hd | apply Sel.tl)) rfl) rfl ?_
              refine vl_guard_t rfl rfl ?_
              refine vl_det (det_conv Try.underlying5 Try.underlying36 rfl (w_u64 (by omega) (by omega))) rfl ?_
              refine vl_guard_t rfl rfl ?_
              refine vl_det (det_fieldAddr_ Try.underlying38 rfl (by kernel_rfl) rfl rfl) rfl ?_
              refine vl_guard_t rfl rfl ?_
              refine vl_det (det_load_blk (by kernel_rfl) rfl (by repeat (first | exact .hd | apply Sel.tl)) rfl) rfl ?_
              refine vl_guard_t rfl rfl ?_
              refine vl_det (det_leq rfl rfl) rfl ?_
              refine vl_det (det_pick_t rfl rfl) rfl ?_
              exact vl_cut_end trivial (by first | rfl | exact bool_to_t (by first | omega | simp_all) | exact bool_to_f (by first | omega | simp_all) | exact bool_to (by first | omega | simp_all) | exact bool_to_b (by first | omega | simp_all))
            · skip
              refine vl_guard_f rfl rfl rfl rfl ?_
              refine vl_guard_f rfl rfl rfl rfl ?_
              refine vl_guard_f rfl rfl rfl rfl ?_
              refine vl_guard_f rfl rfl rfl rfl ?_
              refine vl_guard_f rfl rfl rfl rfl ?_
              refine vl_det (det_pick_f rfl rfl) rfl ?_
              exact vl_cut_end trivial (by first | rfl | exact bool_to_t (by first | omega | simp_all) | exact bool_to_f (by first | omega | simp_all) | exact bool_to (by first | omega | simp_all) | exact bool_to_b (by first | omega | simp_all))
          · skip
            refine vl_det (det_assign rfl) rfl ?_
            refine vl_end [(4, _)] ⟨rfl, trivial⟩ ?_
            refine then_next ?_
            refine vc_ret ?_
            refine then_ret ?_
            refine ret_wk (L' := F) (.skip (.skip (.skip (.refl _)))) ?_
            refine ret1 rfl rfl ?_
            exact ⟨by rw [hq4 (by assumption)], rfl⟩
        · skip
          exfalso; omega
theorem rmeans_node (h1 : x.2.2.1.length ≤ 1000000) (h2 : x.2.2.2.length ≤ 1000000) (hn : t.isN) (hw : t.wf) (h5 : 5 ≤ (lastT t).1) (ih : ∀ k ∈ kidsT t, RMeQ B w0 x k) : RMeQ B w0 x t := fun hl F A c hb => by
  have hpd := fun F A c hb => @parts_d B w0 F A c t hn hw hl hb
  unfold PartsQ at hpd
  have hsp := st_split hn hw
  have hpos := st_pos hn
  have hkw := kidsT_wf hw
  have hkm : ∀ k ∈ kidsT t, k.st.length ≤ ((kidsT t).flatMap Qt.st).length := fun k hk => mem_flat_len hk
  have hkl := flat_len hkw
  have hql := congrArg List.length hsp
  rw [List.length_append, List.length_singleton] at hql
  have hm5 : (lastT t).1 = 5 → meansT x (termsL x.2.2.2 x.2.2.1) t = decide (((kidsT t).countP (meansT x (termsL x.2.2.2 x.2.2.1)) : Int) = 0) := fun h => by
    cases t with
    | leaf s => have := hw.2; have : s.1 = 5 := h; omega
    | not k =>
      show (!meansT x _ k) = _
      simp only [kidsT, List.countP_cons, List.countP_nil]
      cases meansT x (termsL x.2.2.2 x.2.2.1) k <;> simp
    | group op ks => have := hw.1; have : op = 5 := h; omega
    | nil => exact hn.elim
    | cons a b => exact hn.elim
  have hm6 : ¬ (lastT t).1 = 5 → meansT x (termsL x.2.2.2 x.2.2.1) t = if (lastT t).1 = 6 then decide (((kidsT t).countP (meansT x (termsL x.2.2.2 x.2.2.1)) : Int) = (kidsT t).length) else decide (0 < ((kidsT t).countP (meansT x (termsL x.2.2.2 x.2.2.1)) : Int)) := fun h => by
    cases t with
    | leaf s => have := hw.2; have : 5 ≤ s.1 := h5; omega
    | not k => exact absurd rfl h
    | group op ks =>
      have e : Qt.group op ks = .group op (ofL (toL ks)) := by rw [ofL_toL hw.2.2.1 hw.2.2.2]
      rw [← countP_all, ← countP_any]
      conv => lhs; rw [e, means_grp]
      rfl
    | nil => exact hn.elim
    | cons a b => exact hn.elim
  obtain ⟨ls, hls⟩ : ∃ ls, ls = lastT t := ⟨_, rfl⟩
  obtain ⟨l, hll⟩ : ∃ l, l = kidsT t := ⟨_, rfl⟩
  obtain ⟨b, hbb⟩ : ∃ b, b = meansT x (termsL x.2.2.2 x.2.2.1) t := ⟨_, rfl⟩
  rw [← hbb] at hm5 hm6 ⊢
  rw [← hls] at hsp h5 hm5 hm6
  rw [← hll] at hsp hkw hkm hkl hql hpd hm5 hm6 ih
  obtain ⟨q, hq⟩ : ∃ q, q = t.st := ⟨_, rfl⟩
  rw [← hq] at hsp hl hb hpos hpd hql ⊢
  have hcl := step_cells (q := q) (k := q.length - 1) (by omega)
  rw [show q.getD (q.length - 1) sNil = ls by rw [show q.length - 1 = (l.flatMap Qt.st).length by omega, hsp]; simp] at hcl
  have hone := step_one ls
  obtain ⟨op, nn, wd, fr, to⟩ := ls
  simp only [StepC.cells] at hone hcl
  simp only at h5 hm5 hm6
  have ihx := ih
  obtain ⟨tm, lv, src, txt⟩ := x
  simp only at h1 h2 hm5 hm6
  have hTl := termsL_le txt src (by omega) (by omega)
  have hrt := fun F a b => @rterms_d B w0 F a b txt src (by omega) (by omega)
  obtain ⟨T, hT⟩ : ∃ T, T = termsL txt src := ⟨_, rfl⟩
  have ihk : ∀ k ∈ l, ∀ (F : List Ch) (A : Option Addr) (c : Nat), Bor B w0 F 5 (.slice A k.st.length c) k.st.length (stepsV k.st) → Does Try.prog B w0 22 [.agg #[.int .u64 (tm : Int), .int .u8 (lv.toNat : Int), .string ⟨src.toArray⟩, .string ⟨txt.toArray⟩], .slice A k.st.length c] F (fun r L => r = .bool (meansT (tm, lv, src, txt) (termsL txt src) k) ∧ L = F) := fun k hk => ih k hk (by have := hkm k hk; omega)
  rw [← hT] at hTl hrt hm5 hm6 ihk
  clear ih ihx hsp hls hll
  show Does Try.prog B w0 22 [.agg #[.int .u64 (tm : Int), .int .u8 (lv.toNat : Int), .string ⟨src.toArray⟩, .string ⟨txt.toArray⟩], .slice A q.length c] F (fun r L => r = .bool b ∧ L = F)
  refine fn_walk Try.func22 104 rfl rfl rfl [(0, .agg #[.int .u64 (tm : Int), .int .u8 (lv.toNat : Int), .string ⟨src.toArray⟩, .string ⟨txt.toArray⟩]), (1, .slice A q.length c)] ⟨⟨rfl, rfl⟩, ⟨rfl, rfl⟩, trivial⟩ ?_
  refine vc_seq ?_
  refine vc_region ?_
  refine vl_eff (eff_box rfl rfl) rfl ?_
  rintro _ _ ⟨g2, rfl, rfl⟩
  refine vl_det (det_assign rfl) rfl ?_
  refine vl_end [(1, _), (2, _)] ⟨rfl, rfl, trivial⟩ ?_
  refine then_next ?_
  refine vc_seq ?_
  refine vc_region ?_
  refine vl_det (det_move rfl) rfl ?_
  refine vl_det (det_move rfl) rfl ?_
  refine vl_det (det_len_sl Try.underlying22 rfl) rfl ?_
  refine vl_det (det_sub rfl rfl (w_i64 (by omega) (by omega))) rfl ?_
  refine vl_det (det_indexAddr (i := q.length - 1) (size := 5) Try.underlying22 (by kernel_rfl) rfl rfl (by omega) (by omega) (by first | (exact Bor.own (by repeat (first | exact List.Mem.head _ | apply List.Mem.tail))) | (repeat (first | assumption | apply Bor.cons)))) rfl ?_
  refine vl_det (det_load_rowa 5 (by kernel_rfl) rfl (by first | (exact Bor.own (by repeat (first | exact List.Mem.head _ | apply List.Mem.tail))) | (repeat (first | assumption | apply Bor.cons))) (by omega) [.int .i64 op, .int .i64 nn, .string ⟨wd.toArray⟩, .int .u64 (fr : Int), .int .u64 (to : Int)] hcl rfl) rfl ?_
  refine vl_eff (eff_alloc_z (zv := (.agg #[.int .i64 0, .int .i64 0, .string ⟨#[]⟩, .int .u64 0, .int .u64 0])) (by kernel_rfl) rfl) rfl ?_
  rintro _ _ ⟨g5, rfl, rfl⟩
  refine vl_eff0 (eff_store_whole 5 (by kernel_rfl) rfl rfl (by first | exact bv_one _ | exact strs_one _ | exact ints_one _ _ | (simp; done) | (simp [Value.oneCell']; done) | assumption) (by repeat (first | exact .hd | apply Sel.tl)) (by first | rfl | (simp; omega) | (simp [*]; done)) (by first | rfl | (simp; omega) | (simp [*]; done))) ?_
  rintro _ _ rfl
  refine vl_end [(1, _), (2, _), (5, _)] ⟨rfl, rfl, rfl, trivial⟩ ?_
  refine then_next ?_
  refine vc_seq ?_
  refine vc_region ?_
  refine vl_det (det_load_whole 4 (by kernel_rfl) rfl (by repeat (first | exact .hd | apply Sel.tl)) (by first | rfl | (simp; omega) | (simp [*]; done))) rfl ?_
  refine vl_call co37 rfl (hrt _ _ _) rfl ?_
  rintro _ _ ⟨A18, c18, rfl, hLL⟩
  obtain rfl := hLL.symm
  refine vl_det (det_assign rfl) rfl ?_
  refine vl_end [(1, _), (2, _), (5, _), (6, _)] ⟨rfl, rfl, rfl, rfl, trivial⟩ ?_
  refine then_next ?_
  refine vc_seq ?_
  refine vc_seq ?_
  refine vc_region ?_
  refine vl_det (det_fieldAddr_ Try.underlying38 rfl (by kernel_rfl) rfl rfl) rfl ?_
  refine vl_det (det_load_blk (by kernel_rfl) rfl (by repeat (first | exact .hd | apply Sel.tl)) rfl) rfl ?_
  refine vl_det (det_eql rfl rfl) rfl ?_
  refine vl_end [(1, _), (2, _), (5, _), (6, _), (21, _)] ⟨rfl, rfl, rfl, rfl, rfl, trivial⟩ ?_
  refine then_next ?_
  refine vc_decideU rfl (fun h21 => ?_) (fun h21 => ?_)
  · skip
    exfalso; omega
  · skip
    refine vc_skip ?_
    refine then_next ?_
    refine vc_seq ?_
    refine vc_seq ?_
    refine vc_region ?_
    refine vl_det (det_fieldAddr_ Try.underlying38 rfl (by kernel_rfl) rfl rfl) rfl ?_
    refine vl_det (det_load_blk (by kernel_rfl) rfl (by repeat (first | exact .hd | apply Sel.tl)) rfl) rfl ?_
    refine vl_det (det_eql rfl rfl) rfl ?_
    refine vl_end [(1, _), (2, _), (5, _), (6, _), (28, _)] ⟨rfl, rfl, rfl, rfl, rfl, trivial⟩ ?_
    refine then_next ?_
    refine vc_decideU rfl (fun h28 => ?_) (fun h28 => ?_)
    · skip
      exfalso; omega
    · skip
      refine vc_skip ?_
      refine then_next ?_
      refine vc_seq ?_
      refine vc_seq ?_
      refine vc_region ?_
      refine vl_det (det_fieldAddr_ Try.underlying38 rfl (by kernel_rfl) rfl rfl) rfl ?_
      refine vl_det (det_load_blk (by kernel_rfl) rfl (by repeat (first | exact .hd | apply Sel.tl)) rfl) rfl ?_
      refine vl_det (det_eql rfl rfl) rfl ?_
      refine vl_end [(1, _), (2, _), (5, _), (44, _)] ⟨rfl, rfl, rfl, rfl, trivial⟩ ?_
      refine then_next ?_
      refine vc_decideU rfl (fun h44 => ?_) (fun h44 => ?_)
      · skip
        exfalso; omega
      · skip
        refine vc_skip ?_
        refine then_next ?_
        refine vc_seq ?_
        refine vc_seq ?_
        refine vc_region ?_
        refine vl_det (det_fieldAddr_ Try.underlying38 rfl (by kernel_rfl) rfl rfl) rfl ?_
        refine vl_det (det_load_blk (by kernel_rfl) rfl (by repeat (first | exact .hd | apply Sel.tl)) rfl) rfl ?_
        refine vl_det (det_eql rfl rfl) rfl ?_
        refine vl_end [(1, _), (2, _), (5, _), (59, _)] ⟨rfl, rfl, rfl, rfl, trivial⟩ ?_
        refine then_next ?_
        refine vc_decideU rfl (fun h59 => ?_) (fun h59 => ?_)
        · skip
          exfalso; omega
        · skip
          refine vc_skip ?_
          refine then_next ?_
          refine vc_seq ?_
          refine vc_region ?_
          refine vl_det (det_move rfl) rfl ?_
          refine vl_call co15 rfl (hpd _ _ _ (by first | (exact Bor.own (by repeat (first | exact List.Mem.head _ | apply List.Mem.tail))) | (repeat (first | assumption | apply Bor.cons)))) rfl ?_
          rintro _ _ ⟨A75, c75, PL, rfl, hpl, hLL, hpm, hpb⟩
          obtain rfl := hLL.symm
          have hPB := hpb _ hb
          refine vl_det (det_assign rfl) rfl ?_
          refine vl_end [(2, _), (5, _), (8, _)] ⟨rfl, rfl, rfl, trivial⟩ ?_
          refine then_next ?_
          refine vc_seq ?_
          refine vc_region ?_
          refine vl_det (det_assign rfl) rfl ?_
          refine vl_end [(2, _), (5, _), (8, _), (9, _)] ⟨rfl, rfl, rfl, rfl, trivial⟩ ?_
          refine then_next ?_
          refine vc_seq ?_
          refine vc_seq ?_
          refine vc_region ?_
          refine vl_det (det_assign rfl) rfl ?_
          refine vl_end [(2, _), (5, _), (8, _), (9, _), (10, _)] ⟨rfl, rfl, rfl, rfl, rfl, trivial⟩ ?_
          refine then_next ?_
          refine vc_block ?_
          refine vc_loopJ (fun zf zL zm => ∃ (i m : Nat), (i ≤ l.length ∧ m = (l.take i).countP (meansT (tm, lv, src, txt) T)) ∧ l.length - i = zm ∧ Sub zf [(2, .pointer (some ⟨g2, 0, none⟩)), (5, .pointer (some ⟨g5, 0, none⟩)), (8, .slice A75 l.length c75), (9, .int .i64 m), (10, .int .i64 i)] ∧ Wk zL (.own 22 1 A75 l.length c75 (PL.map pqv) :: .own 9 1 A18 T.length c18 (strs T) :: .blk g5 38 [.int .i64 op, .int .i64 nn, .string ⟨wd.toArray⟩, .int .u64 (fr : Int), .int .u64 (to : Int)] :: .blk g2 45 [.int .u64 (tm : Int), .int .u8 (lv.toNat : Int), .string ⟨src.toArray⟩, .string ⟨txt.toArray⟩] :: F)) _ ⟨0, 0, ⟨Nat.zero_le _, rfl⟩, rfl, ⟨(by first | rfl | exact int_to (by omega) | exact sl_to (by omega)), (by first | rfl | exact int_to (by omega) | exact sl_to (by omega)), (by first | rfl | exact int_to (by omega) | exact sl_to (by omega)), (by first | rfl | exact int_to (by omega) | exact sl_to (by omega)), (by first | rfl | exact int_to (by omega) | exact sl_to (by omega)), trivial⟩, .refl _⟩ ?_
          rintro _ _ _ ⟨i, m, ⟨hi, hm⟩, rfl, hs, hp⟩
          refine vc_weaken _ hs (vc_wk hp ?_)
          clear hs hp
          refine vc_seq ?_
          refine vc_seq ?_
          refine vc_region ?_
          refine vl_det (det_move rfl) rfl ?_
          refine vl_det (det_move rfl) rfl ?_
          refine vl_det (det_len_sl Try.underlying31 rfl) rfl ?_
          refine vl_det (det_lss rfl rfl) rfl ?_
          refine vl_end [(2, _), (5, _), (8, _), (9, _), (10, _), (79, _)] ⟨rfl, rfl, rfl, rfl, rfl, rfl, trivial⟩ ?_
          refine then_next ?_
          refine vc_decideU rfl (fun h79 => ?_) (fun h79 => ?_)
          · skip
            have hil : i < l.length := by omega
            have hg := pq_get (PL := PL) (k := i) (by omega)
            have hbe := hPB _ (getD_mem (show i < PL.length by omega) ((none, 0, []) : Pq))
            have hmem := getD_mem hil Qt.nil
            have hst : (PL.getD i (none, 0, [])).2.2 = (l.getD i .nil).st := by
              have h1 : (PL.map (·.2.2))[i]? = (l.map Qt.st)[i]? := by rw [hpm]
              rw [List.getElem?_map, List.getElem?_map, List.getElem?_eq_getElem (show i < PL.length by omega), List.getElem?_eq_getElem hil] at h1
              simpa [List.getD, List.getElem?_eq_getElem (show i < PL.length by omega), List.getElem?_eq_getElem hil] using h1
            have htk := take_getD hil Qt.nil
            have hcl2 := List.countP_le_length (p := meansT (tm, lv, src, txt) T) (l := l.take i)
            rw [List.length_take] at hcl2
            obtain ⟨k, hk⟩ : ∃ k, k = l.getD i .nil := ⟨_, rfl⟩
            rw [← hk] at hst hmem htk
            obtain ⟨⟨A8, c8, q8⟩, he8⟩ : ∃ e, e = PL.getD i (none, 0, []) := ⟨_, rfl⟩
            rw [← he8] at hg hbe hst
            obtain rfl : q8 = k.st := hst
            have hbe2 : Bor B w0 (.own 22 1 A75 l.length c75 (PL.map pqv) :: .own 9 1 A18 T.length c18 (strs T) :: .blk g5 38 [.int .i64 op, .int .i64 nn, .string ⟨wd.toArray⟩, .int .u64 (fr : Int), .int .u64 (to : Int)] :: .blk g2 45 [.int .u64 (tm : Int), .int .u8 (lv.toNat : Int), .string ⟨src.toArray⟩, .string ⟨txt.toArray⟩] :: F) 5 (.slice A8 k.st.length c8) k.st.length (stepsV k.st) := hbe.cons.cons.cons.cons
            refine vc_skip ?_
            refine then_next ?_
            refine vc_seq ?_
            refine vc_block ?_
            refine vc_seq ?_
            refine vq_region (by kernel_rfl) (by kernel_rfl) ?_
            refine vq_det (det_load_whole 4 (by kernel_rfl) rfl (by repeat (first | exact .hd | apply Sel.tl)) (by first | rfl | (simp; omega) | (simp [*]; done))) rfl ?_
            refine vq_det (det_move rfl) rfl ?_
            refine vq_det (det_move rfl) rfl ?_
            refine vq_det (det_indexAddr (size := 1) Try.underlying31 (by kernel_rfl) rfl rfl rfl (by omega) (by first | (exact Bor.own (by repeat (first | exact List.Mem.head _ | apply List.Mem.tail))) | (repeat (first | assumption | apply Bor.cons)))) rfl ?_
            refine vq_det (det_load_row (by kernel_rfl) rfl (by first | (exact Bor.own (by repeat (first | exact List.Mem.head _ | apply List.Mem.tail))) | (repeat (first | assumption | apply Bor.cons))) (by omega) hg) rfl ?_
            refine vq_call co22 rfl (ihk k hmem _ _ _ hbe2) (by rintro _ _ ⟨rfl, rfl⟩; exact ⟨rfl, List.Sublist.refl _⟩) rfl ?_
            refine vq_end [(2, _), (5, _), (8, _), (9, _), (10, _), (87, _)] ⟨rfl, rfl, rfl, rfl, rfl, rfl, trivial⟩ ?_
            refine then_next ?_
            refine vc_condU rfl (fun h87 => ?_) (fun h87 => ?_)
            · skip
              have hco : (l.take (i + 1)).countP (meansT (tm, lv, src, txt) T) = m + 1 := by rw [htk, List.countP_append, ← hm, List.countP_singleton, if_pos h87]
              refine vc_region ?_
              refine vl_det (det_move rfl) rfl ?_
              refine vl_det (det_add rfl rfl (w_i64 (by omega) (by omega))) rfl ?_
              refine vl_det (det_assign rfl) rfl ?_
              refine vl_end [(2, _), (5, _), (8, _), (9, _), (10, _)] ⟨rfl, rfl, rfl, rfl, rfl, trivial⟩ ?_
              refine in_normal ?_
              refine then_next ?_
              refine vc_region ?_
              refine vl_det (det_move rfl) rfl ?_
              refine vl_det (det_add rfl rfl (w_i64 (by omega) (by omega))) rfl ?_
              refine vl_det (det_assign rfl) rfl ?_
              refine vl_end [(2, _), (5, _), (8, _), (9, _), (10, _)] ⟨rfl, rfl, rfl, rfl, rfl, trivial⟩ ?_
              refine in_loop_ ⟨_, by omega, i + 1, m + 1, ⟨by omega, hco.symm⟩, rfl, ⟨(by first | rfl | exact int_to (by omega) | exact sl_to (by omega)), (by first | rfl | exact int_to (by omega) | exact sl_to (by omega)), (by first | rfl | exact int_to (by omega) | exact sl_to (by omega)), (by first | rfl | exact int_to (by omega) | exact sl_to (by omega)), (by first | rfl | exact int_to (by omega) | exact sl_to (by omega)), trivial⟩, .refl _⟩
            · skip
              have hco : (l.take (i + 1)).countP (meansT (tm, lv, src, txt) T) = m := by rw [htk, List.countP_append, ← hm, List.countP_singleton, if_neg (by rw [h87]; decide)]; rfl
              refine vc_skip ?_
              refine in_normal ?_
              refine then_next ?_
              refine vc_region ?_
              refine vl_det (det_move rfl) rfl ?_
              refine vl_det (det_add rfl rfl (w_i64 (by omega) (by omega))) rfl ?_
              refine vl_det (det_assign rfl) rfl ?_
              refine vl_end [(2, _), (5, _), (8, _), (9, _), (10, _)] ⟨rfl, rfl, rfl, rfl, rfl, trivial⟩ ?_
              refine in_loop_ ⟨_, by omega, i + 1, m, ⟨by omega, hco.symm⟩, rfl, ⟨(by first | rfl | exact int_to (by omega) | exact sl_to (by omega)), (by first | rfl | exact int_to (by omega) | exact sl_to (by omega)), (by first | rfl | exact int_to (by omega) | exact sl_to (by omega)), (by first | rfl | exact int_to (by omega) | exact sl_to (by omega)), (by first | rfl | exact int_to (by omega) | exact sl_to (by omega)), trivial⟩, .refl _⟩
          · skip
            obtain rfl : i = l.length := by omega
            rw [List.take_length] at hm
            rw [← hm] at hm5 hm6
            refine vc_exit ?_
            refine then_exit ?_
            refine loop_exit ?_
            refine in_eq ?_
            refine then_next ?_
            refine vc_seq ?_
            refine vc_seq ?_
            refine vc_region ?_
            refine vl_det (det_fieldAddr_ Try.underlying38 rfl (by kernel_rfl) rfl rfl) rfl ?_
            refine vl_det (det_load_blk (by kernel_rfl) rfl (by repeat (first | exact .hd | apply Sel.tl)) rfl) rfl ?_
            refine vl_det (det_eql rfl rfl) rfl ?_
            refine vl_end [(5, _), (8, _), (9, _), (92, _)] ⟨rfl, rfl, rfl, rfl, trivial⟩ ?_
            refine then_next ?_
            refine vc_decideU rfl (fun h92 => ?_) (fun h92 => ?_)
            · skip
              refine vc_seq ?_
              refine vc_region ?_
              refine vl_det (det_move rfl) rfl ?_
              refine vl_det (det_eql rfl rfl) rfl ?_
              refine vl_det (det_assign rfl) rfl ?_
              refine vl_end [(4, _)] ⟨rfl, trivial⟩ ?_
              refine then_next ?_
              refine vc_ret ?_
              refine then_ret ?_
              refine ret_wk (L' := F) (.skip (.skip (.skip (.skip (.refl _))))) ?_
              refine ret1 rfl rfl ?_
              first | exact ⟨by rw [hm5 (by assumption)], rfl⟩ | exact ⟨by rw [hm6 (by assumption), if_pos (by assumption)], rfl⟩ | exact ⟨by rw [hm6 (by assumption), if_neg (by assumption)], rfl⟩
            · skip
              refine vc_skip ?_
              refine then_next ?_
              refine vc_seq ?_
              refine vc_seq ?_
              refine vc_region ?_
              refine vl_det (det_fieldAddr_ Try.underlying38 rfl (by kernel_rfl) rfl rfl) rfl ?_
              refine vl_det (det_load_blk (by kernel_rfl) rfl (by repeat (first | exact .hd | apply Sel.tl)) rfl) rfl ?_
              refine vl_det (det_eql rfl rfl) rfl ?_
              refine vl_end [(8, _), (9, _), (97, _)] ⟨rfl, rfl, rfl, trivial⟩ ?_
              refine then_next ?_
              refine vc_decideU rfl (fun h97 => ?_) (fun h97 => ?_)
              · skip
                refine vc_seq ?_
                refine vc_region ?_
                refine vl_det (det_move rfl) rfl ?_
                refine vl_det (det_move rfl) rfl ?_
                refine vl_det (det_len_sl Try.underlying31 rfl) rfl ?_
                refine vl_det (det_eql rfl rfl) rfl ?_
                refine vl_det (det_assign rfl) rfl ?_
                refine vl_end [(4, _)] ⟨rfl, trivial⟩ ?_
                refine then_next ?_
                refine vc_ret ?_
                refine then_ret ?_
                refine ret_wk (L' := F) (.skip (.skip (.skip (.skip (.refl _))))) ?_
                refine ret1 rfl rfl ?_
                first | exact ⟨by rw [hm5 (by assumption)], rfl⟩ | exact ⟨by rw [hm6 (by assumption), if_pos (by assumption)], rfl⟩ | exact ⟨by rw [hm6 (by assumption), if_neg (by assumption)], rfl⟩
              · skip
                refine vc_skip ?_
                refine then_next ?_
                refine vc_seq ?_
                refine vc_region ?_
                refine vl_det (det_move rfl) rfl ?_
                refine vl_det (det_gtr rfl rfl) rfl ?_
                refine vl_det (det_assign rfl) rfl ?_
                refine vl_end [(4, _)] ⟨rfl, trivial⟩ ?_
                refine then_next ?_
                refine vc_ret ?_
                refine ret_wk (L' := F) (.skip (.skip (.skip (.skip (.refl _))))) ?_
                refine ret1 rfl rfl ?_
                first | exact ⟨by rw [hm5 (by assumption)], rfl⟩ | exact ⟨by rw [hm6 (by assumption), if_pos (by assumption)], rfl⟩ | exact ⟨by rw [hm6 (by assumption), if_neg (by assumption)], rfl⟩
theorem rmeans_d (h1 : x.2.2.1.length ≤ 1000000) (h2 : x.2.2.2.length ≤ 1000000) {t : Qt} (hn : t.isN) (hw : t.wf) : RMeQ B w0 x t :=
  (Qt.ind (P := fun t => RMeQ B w0 x t) (fun s a b => rmeans_leaf h1 h2 a b)
    (fun k a b ih => rmeans_node h1 h2 (t := .not k) trivial ⟨a, b⟩ (show (5 : Int) ≤ 5 by decide) fun j hj => by rw [show j = k by simpa [kidsT] using hj]; exact ih)
    (fun op l a b d ih => rmeans_node h1 h2 (t := .group op (ofL l)) trivial ⟨a, by rw [ofL_len]; exact b, ofL_isL _, ofL_wf d⟩ (show (5 : Int) ≤ op by omega) fun k hk => ih k (by have e : kidsT (.group op (ofL l)) = l := toL_ofL l; rwa [e] at hk)) t hw).1 hn
/-! are a record, or a query, more than statements look at? -/
theorem great29_d (x : RecC) (hb : Bor B w0 F 5 (.slice A q.length c) q.length (stepsV q)) (h1 : x.2.2.1.length ≤ 9223372036854775807) (h2 : x.2.2.2.length ≤ 9223372036854775807) :
    Does Try.prog B w0 20 [.agg (RecC.cells x).toArray, .slice A q.length c] F (fun r L => r = .bool (decide (300 < x.2.2.2.length ∨ 300 < x.2.2.1.length ∨ 60 < q.length)) ∧ L = F) := by
  obtain ⟨tm, lv, src, txt⟩ := x
  simp only at h1 h2
  show Does Try.prog B w0 20 [.agg #[.int .u64 (tm : Int), .int .u8 (lv.toNat : Int), .string ⟨src.toArray⟩, .string ⟨txt.toArray⟩], .slice A q.length c] F (fun r L => r = .bool (decide (300 < txt.length ∨ 300 < src.length ∨ 60 < q.length)) ∧ L = F)
  refine fn_walk Try.func20 20 rfl rfl rfl [(0, .agg #[.int .u64 (tm : Int), .int .u8 (lv.toNat : Int), .string ⟨src.toArray⟩, .string ⟨txt.toArray⟩]), (1, .slice A q.length c)] ⟨⟨rfl, rfl⟩, ⟨rfl, rfl⟩, trivial⟩ ?_
  refine vc_seq ?_
  refine vc_region ?_
  refine vl_eff (eff_box rfl rfl) rfl ?_
  rintro _ _ ⟨g2, rfl, rfl⟩
  refine vl_det (det_assign rfl) rfl ?_
  refine vl_end [(1, _), (2, _)] ⟨rfl, rfl, trivial⟩ ?_
  refine then_next ?_
  refine vc_seq ?_
  refine vc_region ?_
  refine vl_cut 15 19 [] (300 < txt.length ∨ 300 < src.length ∨ 60 < q.length) trivial ?_ ?_
  · skip
    refine vl_det (det_fieldAddr_ Try.underlying45 rfl (by kernel_rfl) rfl rfl) rfl ?_
    refine vl_det (det_load_blk (by kernel_rfl) rfl (by repeat (first | exact .hd | apply Sel.tl)) rfl) rfl ?_
    refine vl_det (det_len_s Try.underlying9 rfl) rfl ?_
    refine vl_det (det_gtr rfl rfl) rfl ?_
    refine vl_det (det_move rfl) rfl ?_
    refine vl_guardn rfl rfl rfl (fun h9 => ?_) (fun h9 => ?_)
    · skip
      refine vl_det (det_fieldAddr_ Try.underlying45 rfl (by kernel_rfl) rfl rfl) rfl ?_
      refine vl_guard_t rfl rfl ?_
      refine vl_det (det_load_blk (by kernel_rfl) rfl (by repeat (first | exact .hd | apply Sel.tl)) rfl) rfl ?_
      refine vl_guard_t rfl rfl ?_
      refine vl_det (det_len_s Try.underlying9 rfl) rfl ?_
      refine vl_guard_t rfl rfl ?_
      refine vl_det (det_gtr rfl rfl) rfl ?_
      refine vl_det (det_pick_f rfl rfl) rfl ?_
      refine vl_det (det_move rfl) rfl ?_
      refine vl_guardn rfl rfl rfl (fun h15 => ?_) (fun h15 => ?_)
      · skip
        refine vl_det (det_move rfl) rfl ?_
        refine vl_guard_t rfl rfl ?_
        refine vl_det (det_len_sl Try.underlying22 rfl) rfl ?_
        refine vl_guard_t rfl rfl ?_
        refine vl_det (det_gtr rfl rfl) rfl ?_
        refine vl_det (det_pick_f rfl rfl) rfl ?_
        exact vl_cut_end trivial (by first | rfl | exact bool_to_t (by first | omega | simp_all) | exact bool_to_f (by first | omega | simp_all) | exact bool_to (by first | omega | simp_all) | exact bool_to_b (by first | omega | simp_all))
      · skip
        refine vl_guard_f rfl rfl rfl rfl ?_
        refine vl_guard_f rfl rfl rfl rfl ?_
        refine vl_det (det_pick_t rfl rfl) rfl ?_
        exact vl_cut_end trivial (by first | rfl | exact bool_to_t (by first | omega | simp_all) | exact bool_to_f (by first | omega | simp_all) | exact bool_to (by first | omega | simp_all) | exact bool_to_b (by first | omega | simp_all))
    · skip
      refine vl_guard_f rfl rfl rfl rfl ?_
      refine vl_guard_f rfl rfl rfl rfl ?_
      refine vl_guard_f rfl rfl rfl rfl ?_
      refine vl_det (det_pick_t rfl rfl) rfl ?_
      refine vl_det (det_move rfl) rfl ?_
      refine vl_guard_f rfl rfl rfl rfl ?_
      refine vl_guard_f rfl rfl rfl rfl ?_
      refine vl_guard_f rfl rfl rfl rfl ?_
      refine vl_det (det_pick_t rfl rfl) rfl ?_
      exact vl_cut_end trivial (by first | rfl | exact bool_to_t (by first | omega | simp_all) | exact bool_to_f (by first | omega | simp_all) | exact bool_to (by first | omega | simp_all) | exact bool_to_b (by first | omega | simp_all))
  · skip
    refine vl_det (det_assign rfl) rfl ?_
    refine vl_end [(4, _)] ⟨rfl, trivial⟩ ?_
    refine then_next ?_
    refine vc_ret ?_
    refine ret_wk (L' := F) (.skip (.refl _)) ?_
    refine ret1 rfl rfl ?_
    exact ⟨rfl, rfl⟩
end Go.Proofs.Ytakokckokchacaa
namespace Go.Proofs.Ytakokckokchacaa
open Go.RowKit
set_option linter.unusedVariables false
set_option maxRecDepth 20000
theorem dec_struct5 {P : Program} {w : World} {t : TypeId} {α β γ δ ε : Type} {f0 f1 f2 f3 f4 : Field} {F0 : α → Value} {F1 : β → Value} {F2 : γ → Value} {F3 : δ → Value} {F4 : ε → Value} {O0 : α → Prop} {O1 : β → Prop} {O2 : γ → Prop} {O3 : δ → Prop} {O4 : ε → Prop}
    (ht : P.underlying t = some (.struct #[f0, f1, f2, f3, f4])) (hc : P.cellsOf t = 5) (h0 : f0.offset = 0 ∧ P.cellsOf f0.type = 1) (h1 : f1.offset = 1 ∧ P.cellsOf f1.type = 1) (h2 : f2.offset = 2 ∧ P.cellsOf f2.type = 1) (h3 : f3.offset = 3 ∧ P.cellsOf f3.type = 1) (h4 : f4.offset = 4 ∧ P.cellsOf f4.type = 1)
    (d0 : DecT P w f0.type (fun x => [F0 x]) O0) (d1 : DecT P w f1.type (fun x => [F1 x]) O1) (d2 : DecT P w f2.type (fun x => [F2 x]) O2) (d3 : DecT P w f3.type (fun x => [F3 x]) O3) (d4 : DecT P w f4.type (fun x => [F4 x]) O4) :
    DecT P w t (fun x : α × β × γ × δ × ε => [F0 x.1, F1 x.2.1, F2 x.2.2.1, F3 x.2.2.2.1, F4 x.2.2.2.2]) (fun x => O0 x.1 ∧ O1 x.2.1 ∧ O2 x.2.2.1 ∧ O3 x.2.2.2.1 ∧ O4 x.2.2.2.2) := by
  intro H enc n cs y h
  obtain ⟨xs, n', _, _, hl, hx, hf⟩ := DataW.trod_struct ht h
  rw [hc] at hl
  obtain ⟨c0, c1, c2, c3, c4, rfl⟩ : ∃ c0 c1 c2 c3 c4, cs = [c0, c1, c2, c3, c4] := by
    match cs, hl with
    | [c0, c1, c2, c3, c4], _ => exact ⟨c0, c1, c2, c3, c4, rfl⟩
  obtain ⟨y0, y1, y2, y3, y4, rfl⟩ : ∃ y0 y1 y2 y3 y4, xs = [y0, y1, y2, y3, y4] := by
    match xs, hx with
    | [y0, y1, y2, y3, y4], _ => exact ⟨y0, y1, y2, y3, y4, rfl⟩
  have g0 := hf 0 f0 rfl
  have g1 := hf 1 f1 rfl
  have g2 := hf 2 f2 rfl
  have g3 := hf 3 f3 rfl
  have g4 := hf 4 f4 rfl
  rw [h0.1, h0.2] at g0
  rw [h1.1, h1.2] at g1
  rw [h2.1, h2.2] at g2
  rw [h3.1, h3.2] at g3
  rw [h4.1, h4.2] at g4
  obtain ⟨a, ea, oa⟩ := d0 H enc _ _ _ g0
  obtain ⟨b, eb, ob⟩ := d1 H enc _ _ _ g1
  obtain ⟨c, ec, oc⟩ := d2 H enc _ _ _ g2
  obtain ⟨d, ed, od⟩ := d3 H enc _ _ _ g3
  obtain ⟨e, ee, oe⟩ := d4 H enc _ _ _ g4
  simp at ea eb ec ed ee
  exact ⟨(a, b, c, d, e), by simp [ea, eb, ec, ed, ee], oa, ob, oc, od, oe⟩
def StepC.ok (s : StepC) : Prop := (-9223372036854775808 ≤ s.1 ∧ s.1 ≤ 9223372036854775807) ∧ (-9223372036854775808 ≤ s.2.1 ∧ s.2.1 ≤ 9223372036854775807) ∧ s.2.2.1.length ≤ maxLen ∧ s.2.2.2.1 < 18446744073709551616 ∧ s.2.2.2.2 < 18446744073709551616
theorem dec_step (w : World) : DecT Try.prog w 38 StepC.cells StepC.ok :=
  dec_struct5 Try.underlying38 (by kernel_rfl) ⟨rfl, by kernel_rfl⟩ ⟨rfl, by kernel_rfl⟩ ⟨rfl, by kernel_rfl⟩ ⟨rfl, by kernel_rfl⟩ ⟨rfl, by kernel_rfl⟩ (dec_int Try.underlying3) (dec_int Try.underlying3) (dec_strL Try.underlying9) (dec_u64 Try.underlying36) (dec_u64 Try.underlying36)
end Go.Proofs.Ytakokckokchacaa
namespace Go.Proofs.Ytakokckokchacaa
open Go.RowKit Go.WideShapes
theorem agg_of {P : Program} {W : World} {base : Nat} {t : TypeId} {fs : Array Field} {v : Value} {xs : List Value} (ht : P.underlying t = some (.struct fs)) (hv : Value.okWide P W .any base t v) (e : v.cells.toList = xs) : Value.agg xs.toArray = v := by
  obtain ⟨cs, rfl, _⟩ := okWide_struct ht hv
  simp only [Value.cells] at e
  rw [← e]
end Go.Proofs.Ytakokckokchacaa
namespace Go.Proofs.Ytakokckokchacaa
open Go.RowKit
set_option linter.unusedVariables false
set_option maxRecDepth 20000
/-! steps tell the tree -/
/-! normal form -/
def ndS (S : List Qt) : Prop := (S.map Qt.st).Nodup
def Qt.nf : Qt → Prop
  | .leaf _ => True
  | .not k => isNt k = false ∧ k.nf
  | .group op ks => ndS (toL ks) ∧ (∀ t ∈ toL ks, ¬ (isG t = true ∧ gop t = op)) ∧ ks.nf
  | .nil => True
  | .cons k r => k.nf ∧ r.nf
end Go.Proofs.Ytakokckokchacaa

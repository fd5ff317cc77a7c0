/-
  Texts of one proof, joined: part 5. No condition.
-/
import Derived.Test.YtakokckokchacaaPa4
namespace Go.Proofs.Ytakokckokchacaa
open Go.RowKit
set_option linter.unusedVariables false
set_option maxRecDepth 20000
variable {B : Nat} {w0 : World} {F L M : List Ch} {A A2 : Option Addr} {n c c2 g : Nat}
def kidsT : Qt → List Qt
  | .not k => [k]
  | .group _ ks => toL ks
  | _ => []
def lastT : Qt → StepC
  | .leaf s => s
  | .not _ => (5, 0, [], 0, 0)
  | .group op ks => (op, (ks.len : Int), [], 0, 0)
  | _ => sNil
theorem st_split {t : Qt} (hn : t.isN) (hw : t.wf) : t.st = (kidsT t).flatMap Qt.st ++ [lastT t] := by
  cases t with
  | leaf s => rfl
  | not k => simp [Qt.st, kidsT, lastT]
  | group op ks => simp [Qt.st, kidsT, lastT, toL_st hw.2.2.1 hw.2.2.2]
  | nil => exact hn.elim
  | cons k r => exact hn.elim
theorem lastT_ok {t : Qt} (hn : t.isN) (hw : t.wf) : rightS (lastT t) ∧ takesS (lastT t) = (kidsT t).length := by
  cases t with
  | leaf s =>
    have h4 := hw.2
    exact ⟨hw.1, by show takesS s = ((([] : List Qt).length : Nat) : Int); unfold takesS; rw [if_neg (by omega), if_neg (by omega)]; rfl⟩
  | not k => exact ⟨(right_n rfl).2 rfl, rfl⟩
  | group op ks =>
    have h2 := hw.2.1
    have h1 := hw.1
    refine ⟨(right_g h1).2 ⟨rfl, by omega⟩, ?_⟩
    show takesS (op, (ks.len : Int), [], 0, 0) = ((toL ks).length : Int)
    rw [toL_len]
    unfold takesS
    rw [if_neg (by simp only; omega), if_pos h1]
  | nil => exact hn.elim
  | cons k r => exact hn.elim
theorem kidsT_wf {t : Qt} (hw : t.wf) : ∀ k ∈ kidsT t, k.isN ∧ k.wf := by
  cases t with
  | not k => intro x hx; rw [show x = k by simpa [kidsT] using hx]; exact hw
  | group op ks => exact toL_wf hw.2.2.2
  | _ => intro x hx; simp [kidsT] at hx
theorem st_right (t : Qt) (hw : t.wf) : (t.isN → ∀ s ∈ t.st, rightS s) ∧ ∀ k ∈ toL t, ∀ s ∈ k.st, rightS s := by
  refine Qt.ind (P := fun t => ∀ s ∈ t.st, rightS s) (fun s h1 h2 x hx => ?_) (fun k h1 h2 ih x hx => ?_) (fun op l h1 h2 h3 ih x hx => ?_) t hw
  · rw [show x = s by simpa [Qt.st] using hx]; exact h1
  · rcases List.mem_append.1 (show x ∈ k.st ++ _ from hx) with hx | hx
    · exact ih x hx
    · rw [List.mem_singleton.1 hx]; exact (right_n rfl).2 rfl
  · rcases List.mem_append.1 (show x ∈ (ofL l).st ++ _ from hx) with hx | hx
    · rw [ofL_st, List.mem_flatMap] at hx
      obtain ⟨k, hk, hx⟩ := hx
      exact ih k hk x hx
    · rw [List.mem_singleton.1 hx, ofL_len]; exact (right_g h1).2 ⟨rfl, by omega⟩
/-! how many queries steps want, ahead of them -/
def ND : List StepC → Int
  | [] => 0
  | s :: r => takesS s - 1 + ND r
theorem ND_app : ∀ a b : List StepC, ND (a ++ b) = ND a + ND b
  | [], b => by simp [ND]
  | s :: r, b => by simp only [List.cons_append, ND, ND_app r b]; omega
theorem nd_list {l : List Qt} (h : ∀ t ∈ l, ND t.st = -1 ∧ ∀ j, 0 < j → 0 ≤ ND (t.st.drop j)) : ND (l.flatMap Qt.st) = -(l.length : Int) ∧ ∀ j, 0 < j → 0 < l.length → 1 - (l.length : Int) ≤ ND ((l.flatMap Qt.st).drop j) := by
  induction l with
  | nil => exact ⟨rfl, fun j _ h => absurd h (by simp)⟩
  | cons k r ih =>
    obtain ⟨h1, h2⟩ := h k (by simp)
    obtain ⟨h3, h4⟩ := ih fun t ht => h t (by simp [ht])
    refine ⟨by rw [List.flatMap_cons, ND_app, h1, h3, List.length_cons]; omega, fun j hj _ => ?_⟩
    rw [List.flatMap_cons, List.drop_append, ND_app, List.length_cons]
    have h5 := h2 j hj
    by_cases hjk : j ≤ k.st.length
    · rw [show j - k.st.length = 0 by omega, List.drop_zero, h3]; omega
    · rw [List.drop_of_length_le (by omega)]
      rcases Nat.eq_zero_or_pos r.length with h0 | h0
      · rw [List.eq_nil_of_length_eq_zero h0]; simp [ND]
      · have := h4 (j - k.st.length) (by omega) h0
        simp only [ND]; omega
theorem nd_st (t : Qt) (hw : t.wf) : (t.isN → ND t.st = -1 ∧ ∀ j, 0 < j → 0 ≤ ND (t.st.drop j)) ∧ ∀ k ∈ toL t, ND k.st = -1 ∧ ∀ j, 0 < j → 0 ≤ ND (k.st.drop j) := by
  refine Qt.ind (P := fun t => ND t.st = -1 ∧ ∀ j, 0 < j → 0 ≤ ND (t.st.drop j)) (fun s h1 h2 => ?_) (fun k h1 h2 ih => ?_) (fun op l h1 h2 h3 ih => ?_) t hw
  · have hT : takesS s = 0 := by unfold takesS; rw [if_neg (by omega), if_neg (by omega)]
    refine ⟨by simp [Qt.st, ND, hT], fun j hj => ?_⟩
    rw [List.drop_of_length_le (by simp [Qt.st]; omega)]; simp [ND]
  · have h5 : ND [((5, 0, [], 0, 0) : StepC)] = 0 := rfl
    refine ⟨by show ND (k.st ++ _) = _; rw [ND_app, ih.1, h5]; rfl, fun j hj => ?_⟩
    show 0 ≤ ND ((k.st ++ [(5, 0, [], 0, 0)]).drop j)
    rw [List.drop_append, ND_app]
    have h6 := ih.2 j hj
    by_cases hjk : j ≤ k.st.length
    · rw [show j - k.st.length = 0 by omega, List.drop_zero, h5]; omega
    · rw [List.drop_of_length_le (l := [((5, 0, [], 0, 0) : StepC)]) (by simp; omega)]
      simp only [ND]; omega
  · obtain ⟨h4, h5⟩ := nd_list ih
    have hT : ND [((op, (l.length : Int), [], 0, 0) : StepC)] = l.length - 1 := by
      have e : takesS ((op, (l.length : Int), [], 0, 0) : StepC) = l.length := by
        unfold takesS
        rw [if_neg (by simp only; omega), if_pos h1]
      simp only [ND, e]; omega
    refine ⟨?_, fun j hj => ?_⟩
    · show ND ((ofL l).st ++ [(op, ((ofL l).len : Int), [], 0, 0)]) = _
      rw [ofL_st, ofL_len, ND_app, h4, hT]; omega
    · show 0 ≤ ND (((ofL l).st ++ [(op, ((ofL l).len : Int), [], 0, 0)]).drop j)
      rw [ofL_st, ofL_len, List.drop_append, ND_app]
      have h6 := h5 j hj (by omega)
      by_cases hjk : j ≤ (l.flatMap Qt.st).length
      · rw [show j - (l.flatMap Qt.st).length = 0 by omega, List.drop_zero, hT]; omega
      · rw [List.drop_of_length_le (l := l.flatMap Qt.st) (by omega), List.drop_of_length_le (by rw [List.length_singleton]; omega)]
        simp [ND]
theorem ND_ge : ∀ {q : List StepC}, (∀ s ∈ q, rightS s) → -(q.length : Int) ≤ ND q
  | [], _ => by simp [ND]
  | s :: r, h => by
    have h1 := takesS_ge (h s (by simp))
    have h2 := ND_ge (q := r) fun x hx => h x (by simp [hx])
    simp only [ND, List.length_cons]; omega
theorem ND_bd {t : Qt} (hn : t.isN) (hw : t.wf) (i : Nat) : -1 ≤ ND (t.st.drop i) ∧ ND (t.st.drop i) ≤ t.st.length := by
  obtain ⟨h1, h2⟩ := (nd_st t hw).1 hn
  have h3 := (st_right t hw).1 hn
  constructor
  · rcases Nat.eq_zero_or_pos i with h | h
    · rw [h, List.drop_zero, h1]; omega
    · have := h2 i h; omega
  · have h4 := ND_app (t.st.take i) (t.st.drop i)
    rw [List.take_append_drop, h1] at h4
    have h5 := ND_ge (q := t.st.take i) fun s hs => h3 s (List.mem_of_mem_take hs)
    rw [List.length_take] at h5
    omega
/-- a row of steps in memory: where it lies, its room, the steps -/
abbrev Pq := Option Addr × Nat × List StepC
abbrev pqv (e : Pq) : Value := .slice e.1 e.2.2.length e.2.1
def PqB (B : Nat) (w0 : World) (F : List Ch) (PL : List Pq) : Prop := ∀ e ∈ PL, Bor B w0 F 5 (.slice e.1 e.2.2.length e.2.1) e.2.2.length (stepsV e.2.2)
theorem pq_one (PL : List Pq) : ∀ u ∈ PL.map pqv, u.oneCell' = true := fun u hu => by
  obtain ⟨e, _, rfl⟩ := List.mem_map.1 hu; rfl
theorem PqB.mono {PL : List Pq} (h : PqB B w0 F PL) (hs : F.Sublist M) : PqB B w0 M PL := fun e he => (h e he).mono hs
theorem pq_get {PL : List Pq} {k : Nat} (h : k < PL.length) : (PL.map pqv)[k * 1]? = some (pqv (PL.getD k (none, 0, []))) := by
  rw [Nat.mul_one, List.getElem?_map, List.getElem?_eq_getElem h]; simp [List.getD, List.getElem?_eq_getElem h]
def PartsQ (B : Nat) (w0 : World) (t : Qt) (A : Option Addr) (c : Nat) (F : List Ch) (r : Value) (L : List Ch) : Prop :=
  ∃ A' c' PL, r = .slice A' (kidsT t).length c' ∧ PL.length = (kidsT t).length ∧ L = .own 22 1 A' (kidsT t).length c' (PL.map pqv) :: F ∧ PL.map (·.2.2) = (kidsT t).map Qt.st ∧ ∀ F', Bor B w0 F' 5 (.slice A t.st.length c) t.st.length (stepsV t.st) → PqB B w0 F' PL
theorem drop_szL {l : List Qt} {k : Nat} (h : k < l.length) (x : List StepC) : (l.flatMap Qt.st ++ x).drop (szL (l.take k)) = (l.getD k .nil).st ++ ((l.drop (k + 1)).flatMap Qt.st ++ x) := by
  conv => lhs; rw [← List.take_append_drop k l, List.flatMap_append, List.append_assoc]
  unfold szL
  rw [List.take_append_drop, List.drop_left, drop_getD h .nil, List.flatMap_cons, List.append_assoc]
theorem szL_take {l : List Qt} {k : Nat} (h : k < l.length) : szL (l.take (k + 1)) = szL (l.take k) + (l.getD k .nil).st.length := by
  rw [take_getD h .nil, szL_app, szL_one]
theorem getD_drop_app {α : Type} {q a b : List α} {e i : Nat} {d : α} (h : q.drop e = a ++ b) (hi : i < a.length) : q.getD (e + i) d = a.getD i d := by
  have h1 : (q.drop e)[i]? = a[i]? := by rw [h, List.getElem?_append_left hi]
  rw [List.getElem?_drop] at h1
  rw [List.getD_eq_getElem?_getD, List.getD_eq_getElem?_getD, h1]
theorem parts_d {t : Qt} (hn : t.isN) (hw : t.wf) (hl : t.st.length ≤ 1000000) (hb : Bor B w0 F 5 (.slice A t.st.length c) t.st.length (stepsV t.st)) :
    Does Try.prog B w0 15 [.slice A t.st.length c] F (PartsQ B w0 t A c F) := by
  have hsp := st_split hn hw
  obtain ⟨hlr, hlt⟩ := lastT_ok hn hw
  have hkw := kidsT_wf hw
  have hri := (st_right t hw).1 hn
  obtain ⟨q, hq⟩ : ∃ q, q = t.st := ⟨_, rfl⟩
  unfold PartsQ
  rw [← hq] at hsp hri hl hb ⊢
  obtain ⟨l, hll⟩ : ∃ l, l = kidsT t := ⟨_, rfl⟩
  rw [← hll] at hsp hlt hkw ⊢
  obtain ⟨lt, hltt⟩ : ∃ lt, lt = lastT t := ⟨_, rfl⟩
  rw [← hltt] at hsp hlr hlt
  have hql : q.length = szL l + 1 := by rw [hsp]; unfold szL; simp
  have hnl : l.length ≤ szL l := flat_len hkw
  have hlast : q.getD (q.length - 1) sNil = lt := by
    rw [show q.length - 1 = szL l by omega, hsp]
    unfold szL
    rw [List.getD_eq_getElem?_getD, List.getElem?_append_right (Nat.le_refl _)]; simp
  have hcl := step_cells (q := q) (k := q.length - 1) (by omega)
  rw [hlast] at hcl
  refine Does.bor hb fun hcap _ => ?_
  refine fn_walk Try.func15 48 rfl rfl rfl [(0, .slice A q.length c)] ⟨⟨rfl, rfl⟩, trivial⟩ ?_
  refine vc_seq ?_
  refine vc_region ?_
  refine vl_det (det_assign rfl) rfl ?_
  refine vl_end [(0, _)] ⟨rfl, trivial⟩ ?_
  refine then_next ?_
  refine vc_seq ?_
  refine vc_nil_row 22 1 none ?_
  refine vc_region ?_
  refine vl_det (det_assign rfl) rfl ?_
  refine vl_end [(0, _), (3, _)] ⟨rfl, rfl, trivial⟩ ?_
  refine then_next ?_
  refine vc_seq ?_
  refine vc_region ?_
  refine vl_det (det_move rfl) rfl ?_
  refine vl_det (det_len_sl Try.underlying22 rfl) rfl ?_
  refine vl_det (det_sub rfl rfl (w_i64 (by omega) (by omega))) rfl ?_
  refine vl_det (det_assign rfl) rfl ?_
  refine vl_end [(0, _), (3, _), (4, _)] ⟨rfl, rfl, rfl, trivial⟩ ?_
  refine then_next ?_
  refine vc_seq ?_
  refine vc_seq ?_
  refine vc_region ?_
  refine vl_det (det_assign rfl) rfl ?_
  refine vl_end [(0, _), (3, _), (4, _), (5, _)] ⟨rfl, rfl, rfl, rfl, trivial⟩ ?_
  refine then_next ?_
  refine vc_block ?_
  refine vc_loopJ (fun zf zL zm => ∃ (k e : Nat) (PL : List Pq) (A3 : Option Addr) (c3 : Nat), (k ≤ l.length ∧ e = szL (l.take (l.length - k)) ∧ PL.length = k ∧ PL.map (·.2.2) = (l.drop (l.length - k)).map Qt.st ∧ ∀ F', Bor B w0 F' 5 (.slice A q.length c) q.length (stepsV q) → PqB B w0 F' PL) ∧ l.length - k = zm ∧ Sub zf [(0, .slice A q.length c), (3, .slice A3 k c3), (4, .int .i64 e), (5, .int .i64 k)] ∧ Wk zL (.own 22 1 A3 k c3 (PL.map pqv) :: F)) _ ⟨0, szL l, [], none, 0, ⟨Nat.zero_le _, by rw [Nat.sub_zero, List.take_length], rfl, by simp, fun _ _ e h => absurd h (by simp)⟩, rfl, ⟨(by first | rfl | exact int_to (by omega) | exact sl_to (by omega)), (by first | rfl | exact int_to (by omega) | exact sl_to (by omega)), (by first | rfl | exact int_to (by omega) | exact sl_to (by omega)), (by first | rfl | exact int_to (by omega) | exact sl_to (by omega)), trivial⟩, .refl _⟩ ?_
  rintro _ _ _ ⟨k, e, PL, A3, c3, ⟨hk, he, hpl, hpm, hpb⟩, rfl, hs, hp⟩
  refine vc_weaken _ hs (vc_wk hp ?_)
  clear hs hp
  refine vc_seq ?_
  refine vc_seq ?_
  refine vc_region ?_
  refine vl_det (det_move rfl) rfl ?_
  refine vl_det (det_move rfl) rfl ?_
  refine vl_det (det_move rfl) rfl ?_
  refine vl_det (det_len_sl Try.underlying22 rfl) rfl ?_
  refine vl_det (det_sub rfl rfl (w_i64 (by omega) (by omega))) rfl ?_
  refine vl_det (det_indexAddr (i := q.length - 1) (size := 5) Try.underlying22 (by kernel_rfl) rfl rfl (by omega) (by omega) (by first | (exact Bor.own (by repeat (first | exact List.Mem.head _ | apply List.Mem.tail))) | (repeat (first | assumption | apply Bor.cons)))) rfl ?_
  refine vl_det (det_load_rowa 5 (by kernel_rfl) rfl (by first | (exact Bor.own (by repeat (first | exact List.Mem.head _ | apply List.Mem.tail))) | (repeat (first | assumption | apply Bor.cons))) (by omega) (StepC.cells lt) hcl rfl) rfl ?_
  refine vl_call co32 rfl (rtakes_d lt hlr) rfl ?_
  rintro _ _ ⟨rfl, hLL⟩
  obtain rfl := hLL.symm
  rw [hlt]
  refine vl_det (det_lss rfl rfl) rfl ?_
  refine vl_end [(0, _), (3, _), (4, _), (5, _), (19, _)] ⟨rfl, rfl, rfl, rfl, rfl, trivial⟩ ?_
  refine then_next ?_
  refine vc_decideU rfl (fun h19 => ?_) (fun h19 => ?_)
  · skip
    obtain ⟨i, hi⟩ : ∃ i, l.length - k = i + 1 := ⟨l.length - k - 1, by omega⟩
    rw [hi] at he hpm
    have hil : i < l.length := by omega
    have hkm := getD_mem hil Qt.nil
    have hkk := hkw _ hkm
    have hst := szL_take hil
    have hdr := drop_szL hil [lt]
    rw [← hsp] at hdr
    have hle : szL (l.take (i + 1)) ≤ szL l := by
      conv => rhs; rw [← List.take_append_drop (i + 1) l, szL_app]
      omega
    have hdl : l.drop i = l.getD i .nil :: l.drop (i + 1) := drop_getD hil .nil
    obtain ⟨x, hx⟩ : ∃ x, x = l.getD i .nil := ⟨_, rfl⟩
    rw [← hx] at hkk hst hdr hdl
    obtain ⟨hx1, hx2⟩ := (nd_st x hkk.2).1 hkk.1
    have hxp := st_pos hkk.1
    obtain ⟨e0, he0⟩ : ∃ e0, e0 = szL (l.take i) := ⟨_, rfl⟩
    rw [← he0] at hst hdr
    have hee : e = e0 + x.st.length := by omega
    have hgx : ∀ j, j < x.st.length → q.getD (e0 + j) sNil = x.st.getD j sNil := fun j hj => getD_drop_app hdr hj
    refine vc_skip ?_
    refine then_next ?_
    refine vc_seq ?_
    refine vc_block ?_
    refine vc_seq ?_
    refine vc_region ?_
    refine vl_det (det_move rfl) rfl ?_
    refine vl_det (det_assign rfl) rfl ?_
    refine vl_det (det_assign rfl) rfl ?_
    refine vl_end [(0, _), (3, _), (4, _), (5, _), (6, _), (7, _)] ⟨rfl, rfl, rfl, rfl, rfl, rfl, trivial⟩ ?_
    refine then_next ?_
    refine vc_seq ?_
    refine vc_block ?_
    refine vc_loopJ (fun zf zL zm => ∃ (j fr_ : Nat) (nd : Int), (j ≤ x.st.length ∧ fr_ = e0 + (x.st.length - j) ∧ nd = ND (x.st.drop (x.st.length - j))) ∧ x.st.length - j = zm ∧ Sub zf [(0, .slice A q.length c), (3, .slice A3 k c3), (4, .int .i64 e), (5, .int .i64 k), (6, .int .i64 fr_), (7, .int .i64 nd)] ∧ Wk zL (.own 22 1 A3 k c3 (PL.map pqv) :: F)) _ ⟨0, e, 0, ⟨Nat.zero_le _, by omega, by rw [Nat.sub_zero, List.drop_of_length_le (Nat.le_refl _)]; rfl⟩, rfl, ⟨(by first | rfl | exact int_to (by omega) | exact sl_to (by omega)), (by first | rfl | exact int_to (by omega) | exact sl_to (by omega)), (by first | rfl | exact int_to (by omega) | exact sl_to (by omega)), (by first | rfl | exact int_to (by omega) | exact sl_to (by omega)), (by first | rfl | exact int_to (by omega) | exact sl_to (by omega)), (by first | rfl | exact int_to (by omega) | exact sl_to (by omega)), trivial⟩, .refl _⟩ ?_
    rintro _ _ _ ⟨j, fr_, nd, ⟨hj, hfr, hnd⟩, rfl, hs, hp⟩
    refine vc_weaken _ hs (vc_wk hp ?_)
    clear hs hp
    refine vc_seq ?_
    refine vc_seq ?_
    refine vc_region ?_
    refine vl_cut 6 28 [(0, _), (3, _), (4, _), (5, _), (6, _), (7, _)] (0 ≤ nd ∧ (0 : Int) < fr_) ⟨rfl, rfl, rfl, rfl, rfl, rfl, trivial⟩ ?_ ?_
    · skip
      refine vl_det (det_move rfl) rfl ?_
      refine vl_det (det_geq rfl rfl) rfl ?_
      refine vl_det (det_move rfl) rfl ?_
      refine vl_guardp rfl rfl rfl (fun h25 => ?_) (fun h25 => ?_)
      · skip
        refine vl_det (det_move rfl) rfl ?_
        refine vl_guard_t rfl rfl ?_
        refine vl_det (det_gtr rfl rfl) rfl ?_
        refine vl_det (det_pick_t rfl rfl) rfl ?_
        exact vl_cut_end ⟨rfl, rfl, rfl, rfl, rfl, rfl, trivial⟩ (by first | rfl | exact bool_to_t (by first | omega | simp_all) | exact bool_to_f (by first | omega | simp_all) | exact bool_to (by first | omega | simp_all) | exact bool_to_b (by first | omega | simp_all))
      · skip
        refine vl_guard_f rfl rfl rfl rfl ?_
        refine vl_det (det_pick_f rfl rfl) rfl ?_
        exact vl_cut_end ⟨rfl, rfl, rfl, rfl, rfl, rfl, trivial⟩ (by first | rfl | exact bool_to_t (by first | omega | simp_all) | exact bool_to_f (by first | omega | simp_all) | exact bool_to (by first | omega | simp_all) | exact bool_to_b (by first | omega | simp_all))
    · skip
      refine vl_end [(0, _), (3, _), (4, _), (5, _), (6, _), (7, _), (28, _)] ⟨rfl, rfl, rfl, rfl, rfl, rfl, rfl, trivial⟩ ?_
      refine then_next ?_
      refine vc_decideU rfl (fun h28 => ?_) (fun h28 => ?_)
      · skip
        have hjl : j < x.st.length := by
          rcases Nat.lt_or_ge j x.st.length with h | h
          · exact h
          · rw [show x.st.length - j = 0 by omega, List.drop_zero, hx1] at hnd; omega
        obtain ⟨p, hp⟩ : ∃ p, x.st.length - j = p + 1 := ⟨x.st.length - j - 1, by omega⟩
        rw [hp] at hnd hfr
        have hpl2 : p < x.st.length := by omega
        have hdp : ND (x.st.drop p) = takesS (x.st.getD p sNil) - 1 + ND (x.st.drop (p + 1)) := by rw [drop_getD hpl2 sNil]; rfl
        have hb1 := ND_bd hkk.1 hkk.2 p
        have hb2 := ND_bd hkk.1 hkk.2 (p + 1)
        rw [← hnd] at hdp hb2
        have hgp := hgx p hpl2
        have hcp := step_cells (q := q) (k := e0 + p) (by omega)
        have hrp := hri _ (getD_mem (show e0 + p < q.length by omega) sNil)
        rw [hgp] at hcp hrp
        obtain ⟨s, hs⟩ : ∃ s, s = x.st.getD p sNil := ⟨_, rfl⟩
        rw [← hs] at hdp hcp hrp
        obtain ⟨nd2, hnd2⟩ : ∃ nd2, nd2 = ND (x.st.drop p) := ⟨_, rfl⟩
        rw [← hnd2] at hdp hb1
        refine vc_skip ?_
        refine then_next ?_
        refine vc_block ?_
        refine vc_seq ?_
        refine vc_region ?_
        refine vl_det (det_move rfl) rfl ?_
        refine vl_det (det_sub rfl rfl (r := ((e0 + p : Nat) : Int)) ((w_i64 (by omega) (by omega)).trans (by omega))) rfl ?_
        refine vl_det (det_assign rfl) rfl ?_
        refine vl_end [(0, _), (3, _), (4, _), (5, _), (6, _), (7, _)] ⟨rfl, rfl, rfl, rfl, rfl, rfl, trivial⟩ ?_
        refine then_next ?_
        refine vc_region ?_
        refine vl_det (det_move rfl) rfl ?_
        refine vl_det (det_move rfl) rfl ?_
        refine vl_det (det_move rfl) rfl ?_
        refine vl_det (det_indexAddr (i := e0 + p) (size := 5) Try.underlying22 (by kernel_rfl) rfl rfl rfl (by omega) (by first | (exact Bor.own (by repeat (first | exact List.Mem.head _ | apply List.Mem.tail))) | (repeat (first | assumption | apply Bor.cons)))) rfl ?_
        refine vl_det (det_load_rowa 5 (by kernel_rfl) rfl (by first | (exact Bor.own (by repeat (first | exact List.Mem.head _ | apply List.Mem.tail))) | (repeat (first | assumption | apply Bor.cons))) (by omega) (StepC.cells s) hcp rfl) rfl ?_
        refine vl_call co32 rfl (rtakes_d s hrp) rfl ?_
        rintro _ _ ⟨rfl, hLL⟩
        obtain rfl := hLL.symm
        refine vl_det (det_add rfl rfl (w_i64 (by omega) (by omega))) rfl ?_
        refine vl_det (det_sub rfl rfl (r := nd2) ((w_i64 (by omega) (by omega)).trans (by omega))) rfl ?_
        refine vl_det (det_assign rfl) rfl ?_
        refine vl_end [(0, _), (3, _), (4, _), (5, _), (6, _), (7, _)] ⟨rfl, rfl, rfl, rfl, rfl, rfl, trivial⟩ ?_
        refine in_normal ?_
        refine in_loop_ ⟨_, by omega, j + 1, e0 + p, nd2, ⟨by omega, by omega, by rw [hnd2, show x.st.length - (j + 1) = p by omega]⟩, rfl, ⟨(by first | rfl | exact int_to (by omega) | exact sl_to (by omega)), (by first | rfl | exact int_to (by omega) | exact sl_to (by omega)), (by first | rfl | exact int_to (by omega) | exact sl_to (by omega)), (by first | rfl | exact int_to (by omega) | exact sl_to (by omega)), (by first | rfl | exact int_to (by omega) | exact sl_to (by omega)), (by first | rfl | exact int_to (by omega) | exact sl_to (by omega)), trivial⟩, .refl _⟩
      · skip
        have hjl : j = x.st.length := by
          rcases Nat.lt_or_ge j x.st.length with h | h
          · have := hx2 (x.st.length - j) (by omega)
            rw [← hnd] at this
            exact absurd ⟨this, by omega⟩ h28
          · omega
        obtain rfl : fr_ = e0 := by omega
        have hrow : ((stepsV q).take (e * 5)).drop (fr_ * 5) = stepsV x.st := by
          rw [steps_take, steps_drop, List.drop_take, hdr, hee, Nat.add_sub_cancel_left, List.take_left]
        have hbx : ∀ F', Bor B w0 F' 5 (.slice A q.length c) q.length (stepsV q) → Bor B w0 F' 5 (.slice (if c = fr_ then A else A.map (·.add (fr_ * 5))) (e - fr_) (c - fr_)) (e - fr_) (stepsV x.st) := fun F' hb => by
          have h := (hb.head_ (k := e) (by omega)).cut (k := fr_) (by omega)
          rwa [hrow] at h
        have hel : e - fr_ = x.st.length := by omega
        rw [hel] at hbx
        have hbxF := hbx F hb
        refine vc_exit ?_
        refine then_exit ?_
        refine loop_exit ?_
        refine in_eq ?_
        refine then_next ?_
        refine vc_seq ?_
        refine vc_region ?_
        refine vl_det (det_move rfl) rfl ?_
        refine vl_det (det_move rfl) rfl ?_
        refine vl_det (det_move rfl) rfl ?_
        refine vl_det (det_slice_both (i := fr_) (j := e) (size := 5) Try.underlying22 (by kernel_rfl) rfl rfl rfl rfl rfl (by omega) (by omega)) rfl ?_
        rw [hel]
        refine vl_eff (eff_build_lit slT31 [_] rfl rfl (by first | exact bv_one _ | exact strs_one _ | exact ints_one _ _ | (simp; done) | (simp [Value.oneCell']; done) | assumption) (by omega) (by omega)) rfl ?_
        rintro _ _ ⟨A43, rfl, rfl⟩
        refine vl_det (det_move rfl) rfl ?_
        refine vl_eff (eff_app slT31 rfl (by repeat (first | exact .hd | apply Sel.tl)) rfl (by first | (exact Bor.own (by repeat (first | exact List.Mem.head _ | apply List.Mem.tail))) | (repeat (first | assumption | apply Bor.cons))) (pq_one _) (by omega) (by omega)) rfl ?_
        rintro _ _ ⟨A45, c45, rfl, rfl⟩
        refine vl_det (det_assign rfl) rfl ?_
        refine vl_end [(0, _), (3, _), (5, _), (6, _)] ⟨rfl, rfl, rfl, rfl, trivial⟩ ?_
        refine then_next ?_
        refine vc_region ?_
        refine vl_det (det_move rfl) rfl ?_
        refine vl_det (det_assign rfl) rfl ?_
        refine vl_end [(0, _), (3, _), (4, _), (5, _)] ⟨rfl, rfl, rfl, rfl, trivial⟩ ?_
        refine in_normal ?_
        refine then_next ?_
        refine vc_region ?_
        refine vl_det (det_move rfl) rfl ?_
        refine vl_det (det_add rfl rfl (w_i64 (by omega) (by omega))) rfl ?_
        refine vl_det (det_assign rfl) rfl ?_
        refine vl_end [(0, _), (3, _), (4, _), (5, _)] ⟨rfl, rfl, rfl, rfl, trivial⟩ ?_
        refine in_loop_ ⟨_, by omega, k + 1, fr_, ((if c = fr_ then A else A.map (·.add (fr_ * 5))), c - fr_, x.st) :: PL, A45, c45, ⟨by omega, by rw [he0, show l.length - (k + 1) = i by omega], by simp [hpl], by rw [show l.length - (k + 1) = i by omega, hdl, List.map_cons, List.map_cons, hpm], fun F' hF e he => by
  rcases List.mem_cons.1 he with rfl | he
  · exact hbx F' hF
  · exact hpb F' hF e he⟩, rfl, ⟨(by first | rfl | exact int_to (by omega) | exact sl_to (by omega)), (by first | rfl | exact int_to (by omega) | exact sl_to (by omega)), (by first | rfl | exact int_to (by omega) | exact sl_to (by omega)), (by first | rfl | exact int_to (by omega) | exact sl_to (by omega)), trivial⟩, wk_own (by omega) rfl (.skip (.refl _))⟩
  · skip
    obtain rfl : k = l.length := by omega
    rw [Nat.sub_self, List.drop_zero] at hpm
    refine vc_exit ?_
    refine then_exit ?_
    refine loop_exit ?_
    refine in_eq ?_
    refine then_next ?_
    refine vc_seq ?_
    refine vc_region ?_
    refine vl_det (det_move rfl) rfl ?_
    refine vl_det (det_assign rfl) rfl ?_
    refine vl_end [(2, _)] ⟨rfl, trivial⟩ ?_
    refine then_next ?_
    refine vc_ret ?_
    refine ret1 rfl rfl ?_
    exact ⟨A3, c3, PL, rfl, hpl, rfl, hpm, hpb⟩
end Go.Proofs.Ytakokckokchacaa
namespace Go.Proofs.Ytakokckokchacaa
open Go.RowKit
set_option linter.unusedVariables false
set_option maxRecDepth 20000
variable {B : Nat} {w0 : World} {F L M : List Ch} {A A2 : Option Addr} {n c c2 g : Nat}
theorem set_last {α : Type} {l : List α} (h : 1 ≤ l.length) (v : α) : l.set (l.length - 1) v = l.take (l.length - 1) ++ [v] := by
  rw [List.set_eq_take_append_cons_drop, if_pos (by omega), List.drop_of_length_le (by omega)]
theorem nv_iface {t : Qt} {u : Value} (h : NV B w0 L t [u]) (hn : t.isN) : ∃ ty v, u = .iface ty v := by
  cases t with
  | leaf s => exact ⟨_, _, by simpa using (show [u] = _ from h)⟩
  | not k => obtain ⟨x, hx, _⟩ := h; exact ⟨_, _, by simpa using hx⟩
  | group op ks => obtain ⟨A, c, vs, hx, _⟩ := h; exact ⟨_, _, by simpa using hx⟩
  | nil => exact hn.elim
  | cons k r => exact hn.elim
theorem tree_x {q : List StepC} {t : Qt} (hb : Bor B w0 F 5 (.slice A q.length c) q.length (stepsV q)) (hq : q.length ≤ 1000) (hd : depS [] q = some [t.dep]) (hp : parS [] q = [t]) :
    Does Try.prog B w0 30 [.slice A q.length c] F (fun r L => ∃ M, L = M ++ F ∧ NV B w0 M t [r]) := by
  refine fn_walk Try.func30 63 rfl rfl rfl [(0, .slice A q.length c)] ⟨⟨rfl, rfl⟩, trivial⟩ ?_
  refine vc_seq ?_
  refine vc_region ?_
  refine vl_det (det_assign rfl) rfl ?_
  refine vl_end [(0, _)] ⟨rfl, trivial⟩ ?_
  refine then_next ?_
  refine vc_seq ?_
  refine vc_region ?_
  refine vl_det (det_assign rfl) rfl ?_
  refine vl_end [(0, _), (3, _)] ⟨rfl, rfl, trivial⟩ ?_
  refine then_next ?_
  refine vc_seq ?_
  refine vc_seq ?_
  refine vc_nil_row 58 1 none ?_
  refine vc_region ?_
  refine vl_det (det_move rfl) rfl ?_
  refine vl_det (det_len_sl Try.underlying22 rfl) rfl ?_
  refine vl_det (det_move rfl) rfl ?_
  refine vl_end [(3, _), (8, _), (9, _), (10, _)] ⟨rfl, rfl, rfl, rfl, trivial⟩ ?_
  refine then_next ?_
  refine vc_block ?_
  refine vc_loopJ (fun zf zL zm => ∃ (k : Nat) (S : List Qt) (us : List Value) (M : List Ch) (A3 : Option Addr) (c3 : Nat), (k ≤ q.length ∧ (∀ t ∈ S, t.isN ∧ t.wf) ∧ depS (S.map Qt.dep) (q.drop k) = some [t.dep] ∧ parS S (q.drop k) = [t] ∧ NVs B w0 M S us ∧ S.length ≤ k) ∧ q.length - k = zm ∧ Sub zf [(3, .slice A3 S.length c3), (8, .slice A q.length c), (9, .int .i64 q.length), (10, .int .i64 k)] ∧ Wk zL (.own 58 1 A3 S.length c3 us :: (M ++ F))) _ ⟨0, [], [], [], none, 0, ⟨Nat.zero_le _, fun t h => absurd h (by simp), hd, hp, rfl, Nat.le_refl _⟩, rfl, ⟨(by first | rfl | exact int_to (by omega) | exact sl_to (by omega)), (by first | rfl | exact int_to (by omega) | exact sl_to (by omega)), (by first | rfl | exact int_to (by omega) | exact sl_to (by omega)), (by first | rfl | exact int_to (by omega) | exact sl_to (by omega)), trivial⟩, .refl _⟩ ?_
  rintro _ _ _ ⟨k, S, us, M, A3, c3, ⟨hk, hS, hD, hP, hN, hSk⟩, rfl, hs, hp⟩
  refine vc_weaken _ hs (vc_wk hp ?_)
  clear hs hp
  refine vc_seq ?_
  refine vc_region ?_
  refine vl_det (det_lss rfl rfl) rfl ?_
  refine vl_end [(3, _), (8, _), (9, _), (10, _), (11, _)] ⟨rfl, rfl, rfl, rfl, rfl, trivial⟩ ?_
  refine then_next ?_
  refine vc_seq ?_
  refine vc_decideU rfl (fun h11 => ?_) (fun h11 => ?_)
  · skip
    rw [drop_getD (show k < q.length by omega) sNil] at hD hP
    have hone := step_one (q.getD k sNil)
    have hcl := step_cells (q := q) (k := k) (by omega)
    obtain ⟨s, hs⟩ : ∃ s, s = q.getD k sNil := ⟨_, rfl⟩
    rw [← hs] at hD hP hone hcl
    have hul := hN.len
    have hbb : Bor B w0 (M ++ F) 5 (.slice A q.length c) q.length (stepsV q) := hb.mono (List.sublist_append_right ..)
    rw [depS_cons, List.length_map] at hD
    have hcnd : rightS s ∧ takesS s ≤ S.length := Classical.byContradiction fun h => by rw [if_neg h] at hD; cases hD
    rw [if_pos hcnd] at hD
    obtain ⟨hrs, htk⟩ := hcnd
    obtain ⟨hS2, hD2, _⟩ := stepT_ok hS hrs htk
    rw [← hD2] at hD
    rw [parS_cons] at hP
    clear hD2
    obtain ⟨op, nn, wd, fr, to⟩ := s
    simp only [StepC.cells] at hone hcl
    refine vc_skip ?_
    refine then_next ?_
    refine vc_seq ?_
    refine vc_block ?_
    refine vc_seq ?_
    refine vc_region ?_
    refine vl_det (det_indexAddr (size := 5) Try.underlying22 (by kernel_rfl) rfl rfl rfl (by omega) (by first | (exact Bor.own (by repeat (first | exact List.Mem.head _ | apply List.Mem.tail))) | (repeat (first | assumption | apply Bor.cons)))) rfl ?_
    refine vl_det (det_load_rowa 5 (by kernel_rfl) rfl (by first | (exact Bor.own (by repeat (first | exact List.Mem.head _ | apply List.Mem.tail))) | (repeat (first | assumption | apply Bor.cons))) (by omega) [.int .i64 op, .int .i64 nn, .string ⟨wd.toArray⟩, .int .u64 (fr : Int), .int .u64 (to : Int)] hcl rfl) rfl ?_
    refine vl_eff (eff_alloc_z (zv := (.agg #[.int .i64 0, .int .i64 0, .string ⟨#[]⟩, .int .u64 0, .int .u64 0])) (by kernel_rfl) rfl) rfl ?_
    rintro _ _ ⟨g5, rfl, rfl⟩
    refine vl_eff0 (eff_store_whole 5 (by kernel_rfl) rfl rfl (by first | exact bv_one _ | exact strs_one _ | exact ints_one _ _ | (simp; done) | (simp [Value.oneCell']; done) | assumption) (by repeat (first | exact .hd | apply Sel.tl)) (by first | rfl | (simp; omega) | (simp [*]; done)) (by first | rfl | (simp; omega) | (simp [*]; done))) ?_
    rintro _ _ rfl
    refine vl_end [(3, _), (5, _), (8, _), (9, _), (10, _)] ⟨rfl, rfl, rfl, rfl, rfl, trivial⟩ ?_
    refine then_next ?_
    refine vc_seq ?_
    refine vc_region ?_
    refine vl_det (det_fieldAddr_ Try.underlying38 rfl (by kernel_rfl) rfl rfl) rfl ?_
    refine vl_det (det_load_blk (by kernel_rfl) rfl (by repeat (first | exact .hd | apply Sel.tl)) rfl) rfl ?_
    refine vl_end [(3, _), (5, _), (8, _), (9, _), (10, _), (15, _)] ⟨rfl, rfl, rfl, rfl, rfl, rfl, trivial⟩ ?_
    refine then_next ?_
    refine vc_block ?_
    refine vc_seq ?_
    refine vc_region ?_
    refine vl_det (det_eql rfl rfl) rfl ?_
    refine vl_det (det_assign rfl) rfl ?_
    refine vl_end [(3, _), (5, _), (8, _), (9, _), (10, _), (15, _), (22, _)] ⟨rfl, rfl, rfl, rfl, rfl, rfl, rfl, trivial⟩ ?_
    refine then_next ?_
    refine vc_decideU rfl (fun h22 => ?_) (fun h22 => ?_)
    · skip
      have hT : takesS (op, nn, wd, fr, to) = 1 := by unfold takesS; simp [h22]
      have hE : stepT S (op, nn, wd, fr, to) = S.take (S.length - 1) ++ [.not (S.getD (S.length - 1) .nil)] := by unfold stepT; simp [h22]
      rw [hT] at htk
      rw [hE] at hS2 hD hP
      obtain ⟨u, hu, hku⟩ := hN.get (k := S.length - 1) (by omega)
      obtain ⟨uy, uv, rfl⟩ := nv_iface hku (hS _ (getD_mem (show S.length - 1 < S.length by omega) .nil)).1
      have hu1 : us[(S.length - 1) * 1]? = some (.iface uy uv) := by rw [Nat.mul_one]; exact hu
      have hnm : NV B w0 M (.not (S.getD (S.length - 1) .nil)) [.iface 64 (.agg #[.iface uy uv])] := ⟨_, rfl, hku⟩
      have hset : ∀ v, us.set ((S.length - 1) * 1) v = us.take (S.length - 1) ++ [v] := fun v => by rw [Nat.mul_one, ← hul]; exact set_last (by omega) v
      refine vc_region ?_
      refine vl_det (det_move rfl) rfl ?_
      refine vl_det (det_move rfl) rfl ?_
      refine vl_det (det_len_sl Try.underlying65 rfl) rfl ?_
      refine vl_det (det_sub rfl rfl (w_i64 (by omega) (by omega))) rfl ?_
      refine vl_det (det_move rfl) rfl ?_
      refine vl_det (det_move rfl) rfl ?_
      refine vl_det (det_len_sl Try.underlying65 rfl) rfl ?_
      refine vl_det (det_sub rfl rfl (w_i64 (by omega) (by omega))) rfl ?_
      refine vl_det (det_indexAddr (i := S.length - 1) (size := 1) Try.underlying65 (by kernel_rfl) rfl rfl (by omega) (by omega) (by first | (exact Bor.own (by repeat (first | exact List.Mem.head _ | apply List.Mem.tail))) | (repeat (first | assumption | apply Bor.cons)))) rfl ?_
      refine vl_det (det_load_row (by kernel_rfl) rfl (by first | (exact Bor.own (by repeat (first | exact List.Mem.head _ | apply List.Mem.tail))) | (repeat (first | assumption | apply Bor.cons))) (by omega) hu1) rfl ?_
      refine vl_det (det_build [(0, _)] [_] rfl rfl (by kernel_rfl)) rfl ?_
      refine vl_det (det_makeIface (by kernel_rfl) rfl) rfl ?_
      refine vl_det (det_indexAddr (i := S.length - 1) (size := 1) Try.underlying65 (by kernel_rfl) rfl rfl (by omega) (by omega) (by first | (exact Bor.own (by repeat (first | exact List.Mem.head _ | apply List.Mem.tail))) | (repeat (first | assumption | apply Bor.cons)))) rfl ?_
      refine vl_eff0 (eff_store_row (by kernel_rfl) rfl rfl rfl (by repeat (first | exact .hd | apply Sel.tl)) (by first | omega | (simp; done) | (simp; omega))) ?_
      rintro _ _ rfl
      refine vl_end [(3, _), (8, _), (9, _), (10, _)] ⟨rfl, rfl, rfl, rfl, trivial⟩ ?_
      refine in_normal ?_
      refine in_normal ?_
      refine then_next ?_
      refine vc_region ?_
      refine vl_det (det_add rfl rfl (w_i64 (by omega) (by omega))) rfl ?_
      refine vl_det (det_move rfl) rfl ?_
      refine vl_end [(3, _), (8, _), (9, _), (10, _)] ⟨rfl, rfl, rfl, rfl, trivial⟩ ?_
      have hel : S.length = (S.take (S.length - 1) ++ [Qt.not (S.getD (S.length - 1) .nil)]).length := by simp; omega
      refine in_loop_ ⟨_, by omega, k + 1, S.take (S.length - 1) ++ [.not (S.getD (S.length - 1) .nil)], us.take (S.length - 1) ++ [.iface 64 (.agg #[.iface uy uv])], M, A3, c3, ⟨by omega, hS2, hD, hP, NVs.append (S := S.take (S.length - 1)) (hN.take _) (NVs.sing hnm), by omega⟩, rfl, ⟨(by first | rfl | exact int_to (by omega) | exact sl_to (by omega)), (by first | rfl | exact int_to (by omega) | exact sl_to (by omega)), (by first | rfl | exact int_to (by omega) | exact sl_to (by omega)), (by first | rfl | exact int_to (by omega) | exact sl_to (by omega)), trivial⟩, .skip (wk_own hel (hset _) (.refl _))⟩
    · skip
      have hT : takesS (op, nn, wd, fr, to) = if op = 6 ∨ op = 7 then nn else 0 := by unfold takesS; simp [h22]
      rw [hT] at htk
      refine vc_seq ?_
      refine vc_seq ?_
      refine vc_region ?_
      refine vl_det (det_eql rfl rfl) rfl ?_
      refine vl_det (det_assign rfl) rfl ?_
      refine vl_end [(3, _), (5, _), (8, _), (9, _), (10, _), (15, _), (37, _)] ⟨rfl, rfl, rfl, rfl, rfl, rfl, rfl, trivial⟩ ?_
      refine then_next ?_
      refine vc_decideU rfl (fun h37 => ?_) (fun h37 => ?_)
      · skip
        have h67 : op = 6 ∨ op = 7 := by omega
        have hE : stepT S (op, nn, wd, fr, to) = S.take (S.length - nn.toNat) ++ [.group op (ofL (S.drop (S.length - nn.toNat)))] := by unfold stepT; simp [h22, h67]
        rw [if_pos h67] at htk
        have hn2 := ((right_g h67).1 hrs).2
        obtain ⟨i, hi⟩ : ∃ i, i = S.length - nn.toNat := ⟨_, rfl⟩
        rw [← hi] at hE
        rw [hE] at hS2 hD hP
        have hii : (S.length : Int) - nn = i := by omega
        have hil : i ≤ S.length := by omega
        have hdl : (S.drop i).length = S.length - i := List.length_drop
        have hbd : ∀ {L : List Ch}, .own 58 1 A3 S.length c3 us ∈ L → Bor B w0 L 1 (.slice (if c3 = i then A3 else A3.map (·.add (i * 1))) (S.length - i) (c3 - i)) (S.length - i) (us.drop i) := fun h => by
          have := (Bor.own h).cut (B := B) (w0 := w0) hil; rwa [show us.drop (i * 1) = us.drop i by rw [Nat.mul_one]] at this
        have hgm : ∀ A50 c50, NV B w0 (.own 58 1 A50 (S.length - i) c50 (us.drop i) :: M) (.group op (ofL (S.drop i))) [.iface 67 (.agg #[.int .i64 op, .slice A50 (S.length - i) c50])] := fun A50 c50 => by
          have := nv_group_mk (op := op) (l := S.drop i) (L := .own 58 1 A50 (S.length - i) c50 (us.drop i) :: M) (A := A50) (c := c50) (vs := us.drop i) (by rw [hdl]; exact Bor.own (.head _)) (hN.drop i).cons_
          rwa [hdl] at this
        refine vc_skip ?_
        refine then_next ?_
        refine vc_cond_t rfl ?_
        refine vc_seq ?_
        refine vc_bor (Bor.own (B := B) (w0 := w0) (L := .blk g5 38 [.int .i64 op, .int .i64 nn, .string ⟨wd.toArray⟩, .int .u64 (fr : Int), .int .u64 (to : Int)] :: .own 58 1 A3 S.length c3 us :: (M ++ F)) (.tail _ (.head _))) fun hcap _ => ?_
        refine vc_region ?_
        refine vl_det (det_move rfl) rfl ?_
        refine vl_det (det_len_sl Try.underlying65 rfl) rfl ?_
        refine vl_det (det_fieldAddr_ Try.underlying38 rfl (by kernel_rfl) rfl rfl) rfl ?_
        refine vl_det (det_load_blk (by kernel_rfl) rfl (by repeat (first | exact .hd | apply Sel.tl)) rfl) rfl ?_
        refine vl_det (det_sub rfl rfl (r := (i : Int)) ((w_i64 (by omega) (by omega)).trans hii)) rfl ?_
        refine vl_det (det_assign rfl) rfl ?_
        refine vl_end [(3, _), (5, _), (6, _), (8, _), (9, _), (10, _)] ⟨rfl, rfl, rfl, rfl, rfl, rfl, trivial⟩ ?_
        refine then_next ?_
        refine vc_seqJ (fun zf zL => ∃ (A50 : Option Addr) (c50 g7 : Nat), Sub zf [(3, .slice A3 S.length c3), (6, .int .i64 i), (7, .pointer (some ⟨g7, 0, none⟩)), (8, .slice A q.length c), (9, .int .i64 q.length), (10, .int .i64 k)] ∧ Wk zL (.own 58 1 A3 S.length c3 us :: .own 58 1 A50 (S.length - i) c50 (us.drop i) :: .blk g7 67 [.int .i64 op, .slice A50 (S.length - i) c50] :: (M ++ F))) ?_ ?_
        · skip
          refine vh_region (S := .blk g5 38 [.int .i64 op, .int .i64 nn, .string ⟨wd.toArray⟩, .int .u64 (fr : Int), .int .u64 (to : Int)] :: .own 58 1 A3 S.length c3 us :: (M ++ F)) (by kernel_rfl) (by repeat (first | exact List.Sublist.refl _ | exact List.nil_sublist _ | exact List.sublist_append_right _ _ | apply List.Sublist.cons_cons | apply List.Sublist.cons)) ?_
          refine vh_take 0 rfl (by kernel_rfl) (by kernel_rfl) (by kernel_rfl) (det_fieldAddr_ Try.underlying38 rfl (by kernel_rfl) rfl rfl) rfl ?_
          refine vh_take 1 rfl (by kernel_rfl) (by kernel_rfl) (by kernel_rfl) (det_load_blk (by kernel_rfl) rfl (by repeat (first | exact .hd | apply Sel.tl)) rfl) rfl ?_
          refine vh_take 2 rfl (by kernel_rfl) (by kernel_rfl) (by kernel_rfl) (det_move rfl) rfl ?_
          refine vh_take 3 rfl (by kernel_rfl) (by kernel_rfl) (by kernel_rfl) (det_move rfl) rfl ?_
          refine vh_take 4 rfl (by kernel_rfl) (by kernel_rfl) (by kernel_rfl) (det_slice_lo (i := i) (size := 1) Try.underlying65 (by kernel_rfl) rfl rfl rfl hil) rfl ?_
          refine vh_two 5 7 (by kernel_rfl) ?_ ?_
          · skip
            refine st_call rfl .no co47 rfl (nclone_d (hbd (by repeat (first | exact List.Mem.head _ | apply List.Mem.tail))) (fun u hu => hN.one u (List.mem_of_mem_drop hu)) (by omega)) rfl (by rintro _ _ ⟨A50, c50, rfl, rfl⟩; exact (by repeat (first | exact List.Sublist.refl _ | exact List.nil_sublist _ | exact List.sublist_append_right _ _ | apply List.Sublist.cons_cons | apply List.Sublist.cons))) ?_
            rintro _ _ ⟨A50, c50, rfl, hLL⟩
            obtain rfl := hLL.symm
            refine vh_take 6 rfl (by kernel_rfl) (by kernel_rfl) (by kernel_rfl) (det_build [(0, _), (1, _)] [_, _] rfl rfl (by kernel_rfl)) rfl ?_
            refine vh_one 7 (by kernel_rfl) ?_
            refine st_eff rfl .no (eff_alloc_z (zv := (.agg #[.int .i64 0, .slice none 0 0])) (by kernel_rfl) rfl) rfl (by rintro _ _ ⟨g7, rfl, rfl⟩; exact (by repeat (first | exact List.Sublist.refl _ | exact List.nil_sublist _ | exact List.sublist_append_right _ _ | apply List.Sublist.cons_cons | apply List.Sublist.cons))) ?_
            rintro _ _ ⟨g7, rfl, rfl⟩
            refine vh_one 8 (by kernel_rfl) ?_
            refine st_eff0 rfl .no (eff_store_whole 2 (by kernel_rfl) rfl rfl (by first | exact bv_one _ | exact strs_one _ | exact ints_one _ _ | (simp; done) | (simp [Value.oneCell']; done) | assumption) (by repeat (first | exact .hd | apply Sel.tl)) (by first | rfl | (simp; omega) | (simp [*]; done)) (by first | rfl | (simp; omega) | (simp [*]; done))) (by rintro _ _ rfl; exact (by repeat (first | exact List.Sublist.refl _ | exact List.nil_sublist _ | exact List.sublist_append_right _ _ | apply List.Sublist.cons_cons | apply List.Sublist.cons))) ?_
            rintro _ _ rfl
            refine vh_done [(3, _), (6, _), (7, _), (8, _), (9, _), (10, _)] ⟨rfl, rfl, rfl, rfl, rfl, rfl, trivial⟩ (by kernel_rfl) ?_
            exact in_join ⟨A50, c50, g7, ⟨(by first | rfl | exact int_to (by omega) | exact sl_to (by omega)), (by first | rfl | exact int_to (by omega) | exact sl_to (by omega)), (by first | rfl | exact int_to (by omega) | exact sl_to (by omega)), (by first | rfl | exact int_to (by omega) | exact sl_to (by omega)), (by first | rfl | exact int_to (by omega) | exact sl_to (by omega)), (by first | rfl | exact int_to (by omega) | exact sl_to (by omega)), trivial⟩, (wu3 (wu1 (wu0 (.skip (.refl _)))))⟩
          · skip
            refine st_eff rfl .no (eff_alloc_z (zv := (.agg #[.int .i64 0, .slice none 0 0])) (by kernel_rfl) rfl) rfl (by rintro _ _ ⟨g7, rfl, rfl⟩; exact (by repeat (first | exact List.Sublist.refl _ | exact List.nil_sublist _ | exact List.sublist_append_right _ _ | apply List.Sublist.cons_cons | apply List.Sublist.cons))) ?_
            rintro _ _ ⟨g7, rfl, rfl⟩
            refine vh_one 5 (by kernel_rfl) ?_
            refine st_call rfl .no co47 rfl (nclone_d (hbd (by repeat (first | exact List.Mem.head _ | apply List.Mem.tail))) (fun u hu => hN.one u (List.mem_of_mem_drop hu)) (by omega)) rfl (by rintro _ _ ⟨A50, c50, rfl, rfl⟩; exact (by repeat (first | exact List.Sublist.refl _ | exact List.nil_sublist _ | exact List.sublist_append_right _ _ | apply List.Sublist.cons_cons | apply List.Sublist.cons))) ?_
            rintro _ _ ⟨A50, c50, rfl, hLL⟩
            obtain rfl := hLL.symm
            refine vh_take 6 rfl (by kernel_rfl) (by kernel_rfl) (by kernel_rfl) (det_build [(0, _), (1, _)] [_, _] rfl rfl (by kernel_rfl)) rfl ?_
            refine vh_one 8 (by kernel_rfl) ?_
            refine st_eff0 rfl .no (eff_store_whole 2 (by kernel_rfl) rfl rfl (by first | exact bv_one _ | exact strs_one _ | exact ints_one _ _ | (simp; done) | (simp [Value.oneCell']; done) | assumption) (by repeat (first | exact .hd | apply Sel.tl)) (by first | rfl | (simp; omega) | (simp [*]; done)) (by first | rfl | (simp; omega) | (simp [*]; done))) (by rintro _ _ rfl; exact (by repeat (first | exact List.Sublist.refl _ | exact List.nil_sublist _ | exact List.sublist_append_right _ _ | apply List.Sublist.cons_cons | apply List.Sublist.cons))) ?_
            rintro _ _ rfl
            refine vh_done [(3, _), (6, _), (7, _), (8, _), (9, _), (10, _)] ⟨rfl, rfl, rfl, rfl, rfl, rfl, trivial⟩ (by kernel_rfl) ?_
            exact in_join ⟨A50, c50, g7, ⟨(by first | rfl | exact int_to (by omega) | exact sl_to (by omega)), (by first | rfl | exact int_to (by omega) | exact sl_to (by omega)), (by first | rfl | exact int_to (by omega) | exact sl_to (by omega)), (by first | rfl | exact int_to (by omega) | exact sl_to (by omega)), (by first | rfl | exact int_to (by omega) | exact sl_to (by omega)), (by first | rfl | exact int_to (by omega) | exact sl_to (by omega)), trivial⟩, (wu3 (wu0 (wu0 (.skip (.refl _)))))⟩
        · rintro _ _ ⟨A50, c50, g7, hs, hp⟩
          refine vc_weaken _ hs (vc_wk hp ?_)
          clear hs hp
          refine vc_cut_row i (by repeat (first | exact .hd | apply Sel.tl)) hil ?_
          rw [Nat.mul_one]
          refine vh_region (S := .own 58 1 A50 (S.length - i) c50 (us.drop i) :: .blk g7 67 [.int .i64 op, .slice A50 (S.length - i) c50] :: (M ++ F)) (by kernel_rfl) (by repeat (first | exact List.Sublist.refl _ | exact List.nil_sublist _ | exact List.sublist_append_right _ _ | apply List.Sublist.cons_cons | apply List.Sublist.cons)) ?_
          refine vh_take 0 rfl (by kernel_rfl) (by kernel_rfl) (by kernel_rfl) (det_move rfl) rfl ?_
          refine vh_take 1 rfl (by kernel_rfl) (by kernel_rfl) (by kernel_rfl) (det_move rfl) rfl ?_
          refine vh_take 2 rfl (by kernel_rfl) (by kernel_rfl) (by kernel_rfl) (det_slice_hi (i := i) (size := 1) Try.underlying65 (by kernel_rfl) rfl rfl rfl (by omega)) rfl ?_
          refine vh_take 3 rfl (by kernel_rfl) (by kernel_rfl) (by kernel_rfl) (det_load_whole 2 (by kernel_rfl) rfl (by repeat (first | exact .hd | apply Sel.tl)) (by first | rfl | (simp; omega) | (simp [*]; done))) rfl ?_
          refine vh_take 4 rfl (by kernel_rfl) (by kernel_rfl) (by kernel_rfl) (det_makeIface (by kernel_rfl) rfl) rfl ?_
          refine vh_one 5 (by kernel_rfl) ?_
          refine st_eff rfl .no (eff_build_lit slT65 [_] rfl rfl (by first | exact bv_one _ | exact strs_one _ | exact ints_one _ _ | (simp; done) | (simp [Value.oneCell']; done) | assumption) (by omega) (by omega)) rfl (by rintro _ _ ⟨A57, rfl, rfl⟩; exact (by repeat (first | exact List.Sublist.refl _ | exact List.nil_sublist _ | exact List.sublist_append_right _ _ | apply List.Sublist.cons_cons | apply List.Sublist.cons))) ?_
          rintro _ _ ⟨A57, rfl, rfl⟩
          refine vh_one 6 (by kernel_rfl) ?_
          refine st_eff rfl .no (eff_app slT65 rfl (by repeat (first | exact .hd | apply Sel.tl)) rfl (by first | (exact Bor.own (by repeat (first | exact List.Mem.head _ | apply List.Mem.tail))) | (repeat (first | assumption | apply Bor.cons))) (by first | exact bv_one _ | exact strs_one _ | exact ints_one _ _ | (simp; done) | (simp [Value.oneCell']; done) | assumption) (by omega) (by omega)) rfl (by rintro _ _ ⟨A58, c58, rfl, rfl⟩; exact (by repeat (first | exact List.Sublist.refl _ | exact List.nil_sublist _ | exact List.sublist_append_right _ _ | apply List.Sublist.cons_cons | apply List.Sublist.cons))) ?_
          rintro _ _ ⟨A58, c58, rfl, rfl⟩
          refine vh_take 7 rfl (by kernel_rfl) (by kernel_rfl) (by kernel_rfl) (det_assign rfl) rfl ?_
          refine vh_done [(3, _), (8, _), (9, _), (10, _)] ⟨rfl, rfl, rfl, rfl, trivial⟩ (by kernel_rfl) ?_
          refine in_normal ?_
          refine in_normal ?_
          refine then_next ?_
          refine vc_region ?_
          refine vl_det (det_add rfl rfl (w_i64 (by omega) (by omega))) rfl ?_
          refine vl_det (det_move rfl) rfl ?_
          refine vl_end [(3, _), (8, _), (9, _), (10, _)] ⟨rfl, rfl, rfl, rfl, trivial⟩ ?_
          have hel : i + 1 = (S.take i ++ [Qt.group op (ofL (S.drop i))]).length := by simp; omega
          refine in_loop_ ⟨_, by omega, k + 1, S.take i ++ [.group op (ofL (S.drop i))], us.take i ++ [.iface 67 (.agg #[.int .i64 op, .slice A50 (S.length - i) c50])], .own 58 1 A50 (S.length - i) c50 (us.drop i) :: M, A58, c58, ⟨by omega, hS2, hD, hP, NVs.append (S := S.take i) ((hN.take i).cons_) (NVs.sing (hgm A50 c50)), by omega⟩, rfl, ⟨(by first | rfl | exact int_to (by omega) | exact sl_to (by omega)), (by first | rfl | exact int_to (by omega) | exact sl_to (by omega)), (by first | rfl | exact int_to (by omega) | exact sl_to (by omega)), (by first | rfl | exact int_to (by omega) | exact sl_to (by omega)), trivial⟩, .skip (wk_own hel rfl (.cons (.skip (.refl _))))⟩
      · skip
        refine vc_region ?_
        refine vl_det (det_eql rfl rfl) rfl ?_
        refine vl_det (det_assign rfl) rfl ?_
        refine vl_end [(3, _), (5, _), (8, _), (9, _), (10, _), (37, _)] ⟨rfl, rfl, rfl, rfl, rfl, rfl, trivial⟩ ?_
        refine then_next ?_
        refine vc_decideU rfl (fun h37 => ?_) (fun h37 => ?_)
        · skip
          have h67 : op = 6 ∨ op = 7 := by omega
          have hE : stepT S (op, nn, wd, fr, to) = S.take (S.length - nn.toNat) ++ [.group op (ofL (S.drop (S.length - nn.toNat)))] := by unfold stepT; simp [h22, h67]
          rw [if_pos h67] at htk
          have hn2 := ((right_g h67).1 hrs).2
          obtain ⟨i, hi⟩ : ∃ i, i = S.length - nn.toNat := ⟨_, rfl⟩
          rw [← hi] at hE
          rw [hE] at hS2 hD hP
          have hii : (S.length : Int) - nn = i := by omega
          have hil : i ≤ S.length := by omega
          have hdl : (S.drop i).length = S.length - i := List.length_drop
          have hbd : ∀ {L : List Ch}, .own 58 1 A3 S.length c3 us ∈ L → Bor B w0 L 1 (.slice (if c3 = i then A3 else A3.map (·.add (i * 1))) (S.length - i) (c3 - i)) (S.length - i) (us.drop i) := fun h => by
            have := (Bor.own h).cut (B := B) (w0 := w0) hil; rwa [show us.drop (i * 1) = us.drop i by rw [Nat.mul_one]] at this
          have hgm : ∀ A50 c50, NV B w0 (.own 58 1 A50 (S.length - i) c50 (us.drop i) :: M) (.group op (ofL (S.drop i))) [.iface 67 (.agg #[.int .i64 op, .slice A50 (S.length - i) c50])] := fun A50 c50 => by
            have := nv_group_mk (op := op) (l := S.drop i) (L := .own 58 1 A50 (S.length - i) c50 (us.drop i) :: M) (A := A50) (c := c50) (vs := us.drop i) (by rw [hdl]; exact Bor.own (.head _)) (hN.drop i).cons_
            rwa [hdl] at this
          refine vc_seq ?_
          refine vc_bor (Bor.own (B := B) (w0 := w0) (L := .blk g5 38 [.int .i64 op, .int .i64 nn, .string ⟨wd.toArray⟩, .int .u64 (fr : Int), .int .u64 (to : Int)] :: .own 58 1 A3 S.length c3 us :: (M ++ F)) (.tail _ (.head _))) fun hcap _ => ?_
          refine vc_region ?_
          refine vl_det (det_move rfl) rfl ?_
          refine vl_det (det_len_sl Try.underlying65 rfl) rfl ?_
          refine vl_det (det_fieldAddr_ Try.underlying38 rfl (by kernel_rfl) rfl rfl) rfl ?_
          refine vl_det (det_load_blk (by kernel_rfl) rfl (by repeat (first | exact .hd | apply Sel.tl)) rfl) rfl ?_
          refine vl_det (det_sub rfl rfl (r := (i : Int)) ((w_i64 (by omega) (by omega)).trans hii)) rfl ?_
          refine vl_det (det_assign rfl) rfl ?_
          refine vl_end [(3, _), (5, _), (6, _), (8, _), (9, _), (10, _)] ⟨rfl, rfl, rfl, rfl, rfl, rfl, trivial⟩ ?_
          refine then_next ?_
          refine vc_seqJ (fun zf zL => ∃ (A50 : Option Addr) (c50 g7 : Nat), Sub zf [(3, .slice A3 S.length c3), (6, .int .i64 i), (7, .pointer (some ⟨g7, 0, none⟩)), (8, .slice A q.length c), (9, .int .i64 q.length), (10, .int .i64 k)] ∧ Wk zL (.own 58 1 A3 S.length c3 us :: .own 58 1 A50 (S.length - i) c50 (us.drop i) :: .blk g7 67 [.int .i64 op, .slice A50 (S.length - i) c50] :: (M ++ F))) ?_ ?_
          · skip
            refine vh_region (S := .blk g5 38 [.int .i64 op, .int .i64 nn, .string ⟨wd.toArray⟩, .int .u64 (fr : Int), .int .u64 (to : Int)] :: .own 58 1 A3 S.length c3 us :: (M ++ F)) (by kernel_rfl) (by repeat (first | exact List.Sublist.refl _ | exact List.nil_sublist _ | exact List.sublist_append_right _ _ | apply List.Sublist.cons_cons | apply List.Sublist.cons)) ?_
            refine vh_take 0 rfl (by kernel_rfl) (by kernel_rfl) (by kernel_rfl) (det_fieldAddr_ Try.underlying38 rfl (by kernel_rfl) rfl rfl) rfl ?_
            refine vh_take 1 rfl (by kernel_rfl) (by kernel_rfl) (by kernel_rfl) (det_load_blk (by kernel_rfl) rfl (by repeat (first | exact .hd | apply Sel.tl)) rfl) rfl ?_
            refine vh_take 2 rfl (by kernel_rfl) (by kernel_rfl) (by kernel_rfl) (det_move rfl) rfl ?_
            refine vh_take 3 rfl (by kernel_rfl) (by kernel_rfl) (by kernel_rfl) (det_move rfl) rfl ?_
            refine vh_take 4 rfl (by kernel_rfl) (by kernel_rfl) (by kernel_rfl) (det_slice_lo (i := i) (size := 1) Try.underlying65 (by kernel_rfl) rfl rfl rfl hil) rfl ?_
            refine vh_two 5 7 (by kernel_rfl) ?_ ?_
            · skip
              refine st_call rfl .no co47 rfl (nclone_d (hbd (by repeat (first | exact List.Mem.head _ | apply List.Mem.tail))) (fun u hu => hN.one u (List.mem_of_mem_drop hu)) (by omega)) rfl (by rintro _ _ ⟨A50, c50, rfl, rfl⟩; exact (by repeat (first | exact List.Sublist.refl _ | exact List.nil_sublist _ | exact List.sublist_append_right _ _ | apply List.Sublist.cons_cons | apply List.Sublist.cons))) ?_
              rintro _ _ ⟨A50, c50, rfl, hLL⟩
              obtain rfl := hLL.symm
              refine vh_take 6 rfl (by kernel_rfl) (by kernel_rfl) (by kernel_rfl) (det_build [(0, _), (1, _)] [_, _] rfl rfl (by kernel_rfl)) rfl ?_
              refine vh_one 7 (by kernel_rfl) ?_
              refine st_eff rfl .no (eff_alloc_z (zv := (.agg #[.int .i64 0, .slice none 0 0])) (by kernel_rfl) rfl) rfl (by rintro _ _ ⟨g7, rfl, rfl⟩; exact (by repeat (first | exact List.Sublist.refl _ | exact List.nil_sublist _ | exact List.sublist_append_right _ _ | apply List.Sublist.cons_cons | apply List.Sublist.cons))) ?_
              rintro _ _ ⟨g7, rfl, rfl⟩
              refine vh_one 8 (by kernel_rfl) ?_
              refine st_eff0 rfl .no (eff_store_whole 2 (by kernel_rfl) rfl rfl (by first | exact bv_one _ | exact strs_one _ | exact ints_one _ _ | (simp; done) | (simp [Value.oneCell']; done) | assumption) (by repeat (first | exact .hd | apply Sel.tl)) (by first | rfl | (simp; omega) | (simp [*]; done)) (by first | rfl | (simp; omega) | (simp [*]; done))) (by rintro _ _ rfl; exact (by repeat (first | exact List.Sublist.refl _ | exact List.nil_sublist _ | exact List.sublist_append_right _ _ | apply List.Sublist.cons_cons | apply List.Sublist.cons))) ?_
              rintro _ _ rfl
              refine vh_done [(3, _), (6, _), (7, _), (8, _), (9, _), (10, _)] ⟨rfl, rfl, rfl, rfl, rfl, rfl, trivial⟩ (by kernel_rfl) ?_
              exact in_join ⟨A50, c50, g7, ⟨(by first | rfl | exact int_to (by omega) | exact sl_to (by omega)), (by first | rfl | exact int_to (by omega) | exact sl_to (by omega)), (by first | rfl | exact int_to (by omega) | exact sl_to (by omega)), (by first | rfl | exact int_to (by omega) | exact sl_to (by omega)), (by first | rfl | exact int_to (by omega) | exact sl_to (by omega)), (by first | rfl | exact int_to (by omega) | exact sl_to (by omega)), trivial⟩, (wu3 (wu1 (wu0 (.skip (.refl _)))))⟩
            · skip
              refine st_eff rfl .no (eff_alloc_z (zv := (.agg #[.int .i64 0, .slice none 0 0])) (by kernel_rfl) rfl) rfl (by rintro _ _ ⟨g7, rfl, rfl⟩; exact (by repeat (first | exact List.Sublist.refl _ | exact List.nil_sublist _ | exact List.sublist_append_right _ _ | apply List.Sublist.cons_cons | apply List.Sublist.cons))) ?_
              rintro _ _ ⟨g7, rfl, rfl⟩
              refine vh_one 5 (by kernel_rfl) ?_
              refine st_call rfl .no co47 rfl (nclone_d (hbd (by repeat (first | exact List.Mem.head _ | apply List.Mem.tail))) (fun u hu => hN.one u (List.mem_of_mem_drop hu)) (by omega)) rfl (by rintro _ _ ⟨A50, c50, rfl, rfl⟩; exact (by repeat (first | exact List.Sublist.refl _ | exact List.nil_sublist _ | exact List.sublist_append_right _ _ | apply List.Sublist.cons_cons | apply List.Sublist.cons))) ?_
              rintro _ _ ⟨A50, c50, rfl, hLL⟩
              obtain rfl := hLL.symm
              refine vh_take 6 rfl (by kernel_rfl) (by kernel_rfl) (by kernel_rfl) (det_build [(0, _), (1, _)] [_, _] rfl rfl (by kernel_rfl)) rfl ?_
              refine vh_one 8 (by kernel_rfl) ?_
              refine st_eff0 rfl .no (eff_store_whole 2 (by kernel_rfl) rfl rfl (by first | exact bv_one _ | exact strs_one _ | exact ints_one _ _ | (simp; done) | (simp [Value.oneCell']; done) | assumption) (by repeat (first | exact .hd | apply Sel.tl)) (by first | rfl | (simp; omega) | (simp [*]; done)) (by first | rfl | (simp; omega) | (simp [*]; done))) (by rintro _ _ rfl; exact (by repeat (first | exact List.Sublist.refl _ | exact List.nil_sublist _ | exact List.sublist_append_right _ _ | apply List.Sublist.cons_cons | apply List.Sublist.cons))) ?_
              rintro _ _ rfl
              refine vh_done [(3, _), (6, _), (7, _), (8, _), (9, _), (10, _)] ⟨rfl, rfl, rfl, rfl, rfl, rfl, trivial⟩ (by kernel_rfl) ?_
              exact in_join ⟨A50, c50, g7, ⟨(by first | rfl | exact int_to (by omega) | exact sl_to (by omega)), (by first | rfl | exact int_to (by omega) | exact sl_to (by omega)), (by first | rfl | exact int_to (by omega) | exact sl_to (by omega)), (by first | rfl | exact int_to (by omega) | exact sl_to (by omega)), (by first | rfl | exact int_to (by omega) | exact sl_to (by omega)), (by first | rfl | exact int_to (by omega) | exact sl_to (by omega)), trivial⟩, (wu3 (wu0 (wu0 (.skip (.refl _)))))⟩
          · rintro _ _ ⟨A50, c50, g7, hs, hp⟩
            refine vc_weaken _ hs (vc_wk hp ?_)
            clear hs hp
            refine vc_cut_row i (by repeat (first | exact .hd | apply Sel.tl)) hil ?_
            rw [Nat.mul_one]
            refine vh_region (S := .own 58 1 A50 (S.length - i) c50 (us.drop i) :: .blk g7 67 [.int .i64 op, .slice A50 (S.length - i) c50] :: (M ++ F)) (by kernel_rfl) (by repeat (first | exact List.Sublist.refl _ | exact List.nil_sublist _ | exact List.sublist_append_right _ _ | apply List.Sublist.cons_cons | apply List.Sublist.cons)) ?_
            refine vh_take 0 rfl (by kernel_rfl) (by kernel_rfl) (by kernel_rfl) (det_move rfl) rfl ?_
            refine vh_take 1 rfl (by kernel_rfl) (by kernel_rfl) (by kernel_rfl) (det_move rfl) rfl ?_
            refine vh_take 2 rfl (by kernel_rfl) (by kernel_rfl) (by kernel_rfl) (det_slice_hi (i := i) (size := 1) Try.underlying65 (by kernel_rfl) rfl rfl rfl (by omega)) rfl ?_
            refine vh_take 3 rfl (by kernel_rfl) (by kernel_rfl) (by kernel_rfl) (det_load_whole 2 (by kernel_rfl) rfl (by repeat (first | exact .hd | apply Sel.tl)) (by first | rfl | (simp; omega) | (simp [*]; done))) rfl ?_
            refine vh_take 4 rfl (by kernel_rfl) (by kernel_rfl) (by kernel_rfl) (det_makeIface (by kernel_rfl) rfl) rfl ?_
            refine vh_one 5 (by kernel_rfl) ?_
            refine st_eff rfl .no (eff_build_lit slT65 [_] rfl rfl (by first | exact bv_one _ | exact strs_one _ | exact ints_one _ _ | (simp; done) | (simp [Value.oneCell']; done) | assumption) (by omega) (by omega)) rfl (by rintro _ _ ⟨A57, rfl, rfl⟩; exact (by repeat (first | exact List.Sublist.refl _ | exact List.nil_sublist _ | exact List.sublist_append_right _ _ | apply List.Sublist.cons_cons | apply List.Sublist.cons))) ?_
            rintro _ _ ⟨A57, rfl, rfl⟩
            refine vh_one 6 (by kernel_rfl) ?_
            refine st_eff rfl .no (eff_app slT65 rfl (by repeat (first | exact .hd | apply Sel.tl)) rfl (by first | (exact Bor.own (by repeat (first | exact List.Mem.head _ | apply List.Mem.tail))) | (repeat (first | assumption | apply Bor.cons))) (by first | exact bv_one _ | exact strs_one _ | exact ints_one _ _ | (simp; done) | (simp [Value.oneCell']; done) | assumption) (by omega) (by omega)) rfl (by rintro _ _ ⟨A58, c58, rfl, rfl⟩; exact (by repeat (first | exact List.Sublist.refl _ | exact List.nil_sublist _ | exact List.sublist_append_right _ _ | apply List.Sublist.cons_cons | apply List.Sublist.cons))) ?_
            rintro _ _ ⟨A58, c58, rfl, rfl⟩
            refine vh_take 7 rfl (by kernel_rfl) (by kernel_rfl) (by kernel_rfl) (det_assign rfl) rfl ?_
            refine vh_done [(3, _), (8, _), (9, _), (10, _)] ⟨rfl, rfl, rfl, rfl, trivial⟩ (by kernel_rfl) ?_
            refine in_normal ?_
            refine in_normal ?_
            refine then_next ?_
            refine vc_region ?_
            refine vl_det (det_add rfl rfl (w_i64 (by omega) (by omega))) rfl ?_
            refine vl_det (det_move rfl) rfl ?_
            refine vl_end [(3, _), (8, _), (9, _), (10, _)] ⟨rfl, rfl, rfl, rfl, trivial⟩ ?_
            have hel : i + 1 = (S.take i ++ [Qt.group op (ofL (S.drop i))]).length := by simp; omega
            refine in_loop_ ⟨_, by omega, k + 1, S.take i ++ [.group op (ofL (S.drop i))], us.take i ++ [.iface 67 (.agg #[.int .i64 op, .slice A50 (S.length - i) c50])], .own 58 1 A50 (S.length - i) c50 (us.drop i) :: M, A58, c58, ⟨by omega, hS2, hD, hP, NVs.append (S := S.take i) ((hN.take i).cons_) (NVs.sing (hgm A50 c50)), by omega⟩, rfl, ⟨(by first | rfl | exact int_to (by omega) | exact sl_to (by omega)), (by first | rfl | exact int_to (by omega) | exact sl_to (by omega)), (by first | rfl | exact int_to (by omega) | exact sl_to (by omega)), (by first | rfl | exact int_to (by omega) | exact sl_to (by omega)), trivial⟩, .skip (wk_own hel rfl (.cons (.skip (.refl _))))⟩
        · skip
          have h67 : ¬ (op = 6 ∨ op = 7) := by omega
          have hE : stepT S (op, nn, wd, fr, to) = S ++ [.leaf (op, nn, wd, fr, to)] := by unfold stepT; simp [h22, h67]
          rw [hE] at hS2 hD hP
          refine vc_region ?_
          refine vl_det (det_move rfl) rfl ?_
          refine vl_det (det_load_whole 5 (by kernel_rfl) rfl (by repeat (first | exact .hd | apply Sel.tl)) (by first | rfl | (simp; omega) | (simp [*]; done))) rfl ?_
          refine vl_det (det_build [(0, _)] [_, _, _, _, _] rfl rfl (by kernel_rfl)) rfl ?_
          refine vl_det (det_makeIface (by kernel_rfl) rfl) rfl ?_
          refine vl_push slT65 rfl rfl rfl rfl rfl (fun _ => rfl) (by repeat (first | exact .hd | apply Sel.tl)) (by omega) (by omega) ?_
          intro _ A21 c21
          refine vl_det (det_assign rfl) rfl ?_
          refine vl_end [(3, _), (8, _), (9, _), (10, _)] ⟨rfl, rfl, rfl, rfl, trivial⟩ ?_
          refine in_normal ?_
          refine in_normal ?_
          refine then_next ?_
          refine vc_region ?_
          refine vl_det (det_add rfl rfl (w_i64 (by omega) (by omega))) rfl ?_
          refine vl_det (det_move rfl) rfl ?_
          refine vl_end [(3, _), (8, _), (9, _), (10, _)] ⟨rfl, rfl, rfl, rfl, trivial⟩ ?_
          have hel : S.length + 1 = (S ++ [Qt.leaf (op, nn, wd, fr, to)]).length := by simp
          refine in_loop_ ⟨_, by omega, k + 1, S ++ [.leaf (op, nn, wd, fr, to)], us ++ [.iface 88 (.agg (StepC.cells (op, nn, wd, fr, to)).toArray)], M, A21, c21, ⟨by omega, hS2, hD, hP, NVs.append (S := S) hN (NVs.sing (show NV B w0 M (.leaf (op, nn, wd, fr, to)) [_] from rfl)), by omega⟩, rfl, ⟨(by first | rfl | exact int_to (by omega) | exact sl_to (by omega)), (by first | rfl | exact int_to (by omega) | exact sl_to (by omega)), (by first | rfl | exact int_to (by omega) | exact sl_to (by omega)), (by first | rfl | exact int_to (by omega) | exact sl_to (by omega)), trivial⟩, .skip (wk_own hel rfl (.refl _))⟩
  · skip
    obtain rfl : k = q.length := by omega
    rw [List.drop_of_length_le (Nat.le_refl _)] at hP
    obtain rfl : S = [t] := hP
    obtain ⟨u, hu, hku⟩ := hN.get (k := 0) (by simp)
    refine vc_exit ?_
    refine then_exit ?_
    refine loop_exit ?_
    refine in_eq ?_
    refine then_next ?_
    refine vc_seq ?_
    refine vc_region ?_
    refine vl_det (det_move rfl) rfl ?_
    refine vl_det (det_indexAddr (i := 0) (size := 1) Try.underlying65 (by kernel_rfl) rfl rfl rfl (by simp) (by first | (exact Bor.own (by repeat (first | exact List.Mem.head _ | apply List.Mem.tail))) | (repeat (first | assumption | apply Bor.cons)))) rfl ?_
    refine vl_det (det_load_row (by kernel_rfl) rfl (by first | (exact Bor.own (by repeat (first | exact List.Mem.head _ | apply List.Mem.tail))) | (repeat (first | assumption | apply Bor.cons))) (by simp) (show us[0 * 1]? = some u from hu)) rfl ?_
    refine vl_det (det_assign rfl) rfl ?_
    refine vl_end [(2, _)] ⟨rfl, trivial⟩ ?_
    refine then_next ?_
    refine vc_ret ?_
    refine ret_wk (L' := M ++ F) (.skip (.refl _)) ?_
    refine ret1 rfl rfl ?_
    exact ⟨M, rfl, hku⟩
theorem tree_d {q : List StepC} {t : Qt} (hb : Bor B w0 F 5 (.slice A q.length c) q.length (stepsV q)) (hq : q.length ≤ 1000) (hd : depS [] q = some [t.dep]) (hp : parS [] q = [t]) :
    Does Try.prog B w0 30 [.slice A q.length c] F (fun r L => ∃ M, L = M ++ F ∧ NV B w0 (M ++ F) t [r]) :=
  (tree_x hb hq hd hp).mono fun r L ⟨M, h1, h2⟩ => ⟨M, h1, h2.mono (List.sublist_append_left M F)⟩
end Go.Proofs.Ytakokckokchacaa

/-
  Texts of one proof, joined: part 5. No condition.
-/
import Derived.Test.YtpamjobiohbibaaMp4
namespace Go.Proofs.Ytpamjobiohbibaa
open Go.RowKit
set_option linter.unusedVariables false
set_option maxRecDepth 20000
variable {B : Nat} {w0 : World} {F : List Ch} {A A1 A2 : Option Addr} {n c c1 c2 g : Nat}
/-- the numbers below n at which a text is among the texts -/
def lsF (f : Nat → List Txt) (n : Nat) (s : Txt) : List Nat := (List.range n).filter fun q => decide (s ∈ f q)
theorem lsF_succ (f : Nat → List Txt) (n : Nat) (s : Txt) : lsF f (n + 1) s = lsF f n s ++ (if s ∈ f n then [n] else []) := by
  unfold lsF
  rw [List.range_succ, List.filter_append]
  congr 1
  by_cases h : s ∈ f n <;> simp [h]
theorem lsF_ne {f : Nat → List Txt} {n : Nat} {s : Txt} : lsF f n s ≠ [] ↔ ∃ q, q < n ∧ s ∈ f q := by
  unfold lsF
  rw [Ne, List.filter_eq_nil_iff]
  simp only [List.mem_range, decide_eq_true_eq]
  constructor
  · intro h
    refine Classical.byContradiction fun h2 => h fun q hq hs => h2 ⟨q, hq, hs⟩
  · rintro ⟨q, h1, h2⟩ h3
    exact h3 q h1 h2
def bldT (f : Nat → List Txt) (n : Nat) : List Txt := setT ((List.range n).flatMap f)
def bldL (f : Nat → List Txt) (n : Nat) : List (List Nat) := (bldT f n).map (lsF f n)
/-- the map so far -/
structure GInv (f : Nat → List Txt) (i : Nat) (part : List Txt) (D : List Grp) : Prop where
  ids : ∀ s, gsT s D = lsF f i s ++ (if s ∈ part then [i] else [])
  keys : ∀ s, s ∈ D.map (·.1) ↔ gsT s D ≠ []
  nd : (D.map (·.1)).Nodup
theorem GInv.start (f : Nat → List Txt) : GInv f 0 [] [] := ⟨fun s => by simp [gsT, lsF], fun s => by simp [gsT], by simp⟩
theorem GInv.step {f : Nat → List Txt} {i j : Nat} {T : List Txt} {D : List Grp} (h : GInv f i (T.take j) D) (hn : T.Nodup) (hj : j < T.length) (A : Option Addr) (c : Nat) : GInv f i (T.take (j + 1)) (upG (T.getD j []) A c i D) := by
  have hg : T.getD j [] = T[j] := by simp [List.getD, List.getElem?_eq_getElem hj]
  have htk : T.take (j + 1) = T.take j ++ [T[j]] := by rw [List.take_add_one, List.getElem?_eq_getElem hj]; rfl
  have hnot : T[j] ∉ T.take j := by
    have h2 : (T.take (j + 1)).Nodup := hn.sublist (List.take_sublist _ _)
    rw [htk, List.nodup_append] at h2
    exact fun q => h2.2.2 _ q _ (by simp) rfl
  have hm : ∀ s, s ∈ T.take (j + 1) ↔ s ∈ T.take j ∨ s = T[j] := fun s => by rw [htk, List.mem_append, List.mem_singleton]
  rw [hg]
  refine ⟨fun s => ?_, fun s => ?_, nodup_up _ _ _ _ _ h.nd⟩
  · rw [gsT_up, h.ids s]
    by_cases e : s = T[j]
    · rw [if_pos e, if_neg (fun q => hnot (e ▸ q)), if_pos ((hm s).2 (.inr e)), List.append_nil]
    · rw [if_neg e]
      by_cases q : s ∈ T.take j
      · rw [if_pos q, if_pos ((hm s).2 (.inl q))]
      · rw [if_neg q, if_neg (fun k => ((hm s).1 k).elim q e)]
  · rw [keys_up, gsT_up, h.keys s]
    by_cases e : s = T[j]
    · simp [e]
    · simp [e]
theorem StT.nd {l : List Txt} (h : StT l) : l.Nodup := List.Pairwise.imp (fun {a b} (q : ltT a b) (e : a = b) => ltT_irrefl a (by rw [← e] at q; exact q)) h
theorem GInv.next {f : Nat → List Txt} {i : Nat} {D : List Grp} (h : GInv f i (f i) D) : GInv f (i + 1) [] D :=
  ⟨fun s => by rw [h.ids s, lsF_succ]; simp, h.keys, h.nd⟩
theorem GInv.done {f : Nat → List Txt} {n : Nat} {D : List Grp} (h : GInv f n [] D) : setT (D.map (·.1)) = bldT f n ∧ ∀ s, gsT s D = lsF f n s := by
  have hi : ∀ s, gsT s D = lsF f n s := fun s => by rw [h.ids s]; simp
  refine ⟨setT_uniq (setT_st _) fun x => ?_, hi⟩
  rw [bldT, setT_mem, h.keys, hi, lsF_ne, List.mem_flatMap]
  simp only [List.mem_range]
/-- a list of numbers in memory: where it lies, its room, the numbers -/
abbrev Lst := Option Addr × Nat × List Nat
abbrev lVal (e : Lst) : Value := .slice e.1 e.2.2.length e.2.1
abbrev lRow (e : Lst) : Ch := .own 3 1 e.1 e.2.2.length e.2.1 (natv e.2.2)
def geT (t : Txt) : List Grp → Lst
  | [] => (none, 0, [])
  | e :: r => if t = e.1 then e.2 else geT t r
theorem lk_get (t : Txt) : ∀ D : List Grp, ((fndM t (gVals D) 0).map (·.2)).getD (.slice none 0 0) = lVal (geT t D)
  | [] => rfl
  | e :: r => by
    show ((fndM t ((e.1, gVal e) :: gVals r) 0).map (·.2)).getD _ = _
    unfold fndM geT
    by_cases h : t = e.1
    · rw [if_pos h, if_pos h]; rfl
    · rw [if_neg h, if_neg h, fndM_succ, ← lk_get t r]
      cases fndM t (gVals r) 0 <;> rfl
theorem geT_ids (t : Txt) : ∀ D : List Grp, (geT t D).2.2 = gsT t D
  | [] => rfl
  | e :: r => by
    unfold geT gsT
    split
    · rfl
    · exact geT_ids t r
theorem rows_get : ∀ D : List Grp, (D.map (·.1)).Nodup → D.map gRow = (D.map (·.1)).map fun t => lRow (geT t D)
  | [], _ => rfl
  | e :: r, h => by
    rw [List.map_cons, List.nodup_cons] at h
    rw [List.map_cons, List.map_cons, List.map_cons]
    congr 1
    · unfold geT; rw [if_pos rfl]; rfl
    · rw [rows_get r h.2]
      apply List.map_congr_left
      intro t ht
      have hne : ¬ t = e.1 := fun q => h.1 (q ▸ ht)
      show _ = lRow (geT t (e :: r))
      rw [geT, if_neg hne]
theorem rows_perm {D : List Grp} (h : (D.map (·.1)).Nodup) : (D.map gRow).Perm (((setT (D.map (·.1))).map (geT · D)).map lRow) := by
  have hp : (D.map (·.1)).Perm (setT (D.map (·.1))) := (List.perm_ext_iff_of_nodup h (setT_st _).nd).2 fun x => (setT_mem _ x).symm
  have e : ((setT (D.map (·.1))).map (geT · D)).map lRow = (setT (D.map (·.1))).map (fun t => lRow (geT t D)) := List.map_map
  rw [rows_get D h, e]
  exact hp.map _
theorem sl_grpP {w : World} (P : List Ch) {D : List Grp} {xs : List Nat} {o : Obj} {R : List Ch} (h : (D.map gRow).Perm (.own 3 1 A xs.length c (natv xs) :: R) ∨ (A = none ∧ c = 0 ∧ xs = [] ∧ R = D.map gRow))
    (hw : SL B w0 (P ++ .obj g o :: (D.map gRow ++ F)) w) : SL B w0 (.own 3 1 A xs.length c (natv xs) :: (P ++ .obj g o :: (R ++ F))) w := by
  rcases h with h | ⟨rfl, rfl, rfl, rfl⟩
  · refine hw.perm ?_
    refine (List.Perm.append_left P ((((h.append_right F).cons (Ch.obj g o)).trans (.swap _ _ _)))).trans ?_
    exact List.perm_middle
  · exact hw.nil_row 3 1 none
theorem grp_back (P : List Ch) {D' : List Grp} {o o' : Obj} {R : List Ch} {m : Nat} {xs ys : List Value} (h : (D'.map gRow).Perm (.own 3 1 A m c ys :: R)) (hx : xs = ys) (ho : o = o') : Wk (.own 3 1 A m c xs :: (P ++ .obj g o :: (R ++ F))) (P ++ .obj g o' :: (D'.map gRow ++ F)) := by
  subst hx; subst ho
  refine .of_perm (List.Perm.symm ?_)
  refine (List.Perm.append_left P ((((h.append_right F).cons (Ch.obj g o)).trans (.swap _ _ _)))).trans ?_
  exact List.perm_middle
def trm (x : RecC) : List Txt := termsL x.2.2.2 x.2.2.1
theorem trm_len (x : RecC) : (trm x).length ≤ x.w := by
  have h1 := setT_len (rawT x.2.2.2 x.2.2.1)
  have h2 := rawT_len x.2.2.2 x.2.2.1
  unfold trm termsL RecC.w
  omega
theorem trm_25 {x : RecC} {t : Txt} (h : t ∈ trm x) : t.length ≤ 25 := by
  rcases List.mem_append.1 ((setT_mem _ _).1 h) with h | h
  · have := (word_ok h).2.1; omega
  · obtain ⟨u, hu, rfl⟩ := List.mem_map.1 h
    have := (word_ok hu).2.1; simp; omega
def tmF (L : List RecC) (i : Nat) : List Txt := trm (recAt L i)
theorem build_d {L : List RecC} (hb : Bor B w0 F 4 (.slice A L.length c) L.length (recs L)) (hw : wsum L ≤ 1000000) :
    Does Try.prog B w0 12 [.slice A L.length c] F (fun r K => ∃ (A1 : Option Addr) (c1 : Nat) (A2 : Option Addr) (c2 : Nat) (LL : List Lst), r = .agg [.slice A1 (bldT (tmF L) L.length).length c1, .slice A2 (bldT (tmF L) L.length).length c2].toArray ∧
      K = .own 9 1 A1 (bldT (tmF L) L.length).length c1 (strs (bldT (tmF L) L.length)) :: .own 37 1 A2 (bldT (tmF L) L.length).length c2 (LL.map lVal) :: (LL.map lRow ++ F) ∧ LL.map (·.2.2) = bldL (tmF L) L.length) := by
  have hll : L.length ≤ wsum L := by
    clear hb hw
    induction L with
    | nil => simp [wsum]
    | cons x r ih => simp only [wsum, List.map_cons, List.sum_cons, List.length_cons] at ih ⊢; unfold RecC.w at *; omega
  refine fn_walk Try.func12 60 rfl rfl rfl [(0, .slice A L.length c)] ⟨⟨rfl, rfl⟩, trivial⟩ ?_
  refine vc_seq ?_
  refine vc_region ?_
  refine vl_eff (eff_alloc_z (zv := (.agg #[.slice none 0 0, .slice none 0 0])) (by kernel_rfl) rfl) rfl ?_
  rintro _ _ ⟨g2, rfl, rfl⟩
  refine vl_end [(0, _), (2, _)] ⟨rfl, rfl, trivial⟩ ?_
  refine then_next ?_
  refine vc_seq ?_
  refine vc_region ?_
  refine vl_eff (eff_makeMap) rfl ?_
  rintro _ _ ⟨g11, rfl, rfl⟩
  refine vl_det (det_assign rfl) rfl ?_
  refine vl_end [(0, _), (2, _), (3, _)] ⟨rfl, rfl, rfl, trivial⟩ ?_
  refine then_next ?_
  refine vc_seq ?_
  refine vc_seq ?_
  refine vc_region ?_
  refine vl_det (det_move rfl) rfl ?_
  refine vl_det (det_len_sl Try.underlying22 rfl) rfl ?_
  refine vl_det (det_move rfl) rfl ?_
  refine vl_end [(2, _), (3, _), (12, _), (13, _), (14, _)] ⟨rfl, rfl, rfl, rfl, rfl, trivial⟩ ?_
  refine then_next ?_
  refine vc_block ?_
  refine vc_loopJ (fun zf zL zm => ∃ (i : Nat) (D : List Grp), (i ≤ L.length ∧ GInv (tmF L) i [] D ∧ D.length ≤ wsum (L.take i)) ∧ L.length - i = zm ∧ Sub zf [(2, .pointer (some ⟨g2, 0, none⟩)), (3, .map (some g11)), (12, .slice A L.length c), (13, .int .i64 L.length), (14, .int .i64 i)] ∧ Wk zL (.blk g2 29 [.slice none 0 0, .slice none 0 0] :: .obj g11 (mpO (gVals D)) :: (D.map gRow ++ F))) _ ⟨0, [], ⟨Nat.zero_le _, GInv.start _, by simp⟩, rfl, ⟨(by first | rfl | exact int_to (by omega) | exact sl_to (by omega)), (by first | rfl | exact int_to (by omega) | exact sl_to (by omega)), (by first | rfl | exact int_to (by omega) | exact sl_to (by omega)), (by first | rfl | exact int_to (by omega) | exact sl_to (by omega)), (by first | rfl | exact int_to (by omega) | exact sl_to (by omega)), trivial⟩, .swap (.refl _)⟩ ?_
  rintro _ _ _ ⟨i, D, ⟨hi, hG, hDl⟩, rfl, hs, hp⟩
  refine vc_weaken _ hs (vc_wk hp ?_)
  clear hs hp
  refine vc_seq ?_
  refine vc_region ?_
  refine vl_det (det_lss rfl rfl) rfl ?_
  refine vl_end [(2, _), (3, _), (12, _), (13, _), (14, _), (15, _)] ⟨rfl, rfl, rfl, rfl, rfl, rfl, trivial⟩ ?_
  refine then_next ?_
  refine vc_seq ?_
  refine vc_decideU rfl (fun h15 => ?_) (fun h15 => ?_)
  · skip
    obtain ⟨tm, lv, src, txt, hx⟩ : ∃ tm lv src txt, recAt L i = (tm, lv, src, txt) := ⟨_, _, _, _, rfl⟩
    have hb1 : Bor B w0 (D.map gRow ++ F) 4 (.slice A L.length c) L.length (recs L) := hb.mono (List.sublist_append_right _ _)
    have hrc := rec_cells (L := L) (k := i) (by omega)
    rw [hx] at hrc
    have hws := wsum_take (L := L) (k := i) (by omega)
    have hwl := wsum_le L (i + 1)
    have hrw : (recAt L i).w = 16 + src.length + txt.length := by rw [hx]; rfl
    obtain ⟨T, hT⟩ : ∃ T, T = tmF L i := ⟨_, rfl⟩
    have hTe : T = termsL txt src := by rw [hT]; unfold tmF trm; rw [hx]
    have hTl : T.length ≤ src.length + txt.length := by
      have h1 := setT_len (rawT txt src)
      have h2 := rawT_len txt src
      rw [hTe]; unfold termsL; omega
    have hTn : T.Nodup := by rw [hTe]; exact (setT_st _).nd
    have htd := fun F h1 h2 => @terms_d B w0 F (.int .u64 tm) (.int .u8 (lv.toNat : Int)) txt src h1 h2
    rw [← hTe] at htd
    refine vc_skip ?_
    refine then_next ?_
    refine vc_seq ?_
    refine vc_block ?_
    refine vc_seq ?_
    refine vc_region ?_
    refine vl_det (det_move rfl) rfl ?_
    refine vl_det (det_indexAddr (size := 4) Try.underlying22 (by kernel_rfl) rfl rfl rfl (by omega) (by first | (exact Bor.own (by repeat (first | exact List.Mem.head _ | apply List.Mem.tail))) | (repeat (first | assumption | apply Bor.cons)))) rfl ?_
    refine vl_det (det_load_rowa 4 (by kernel_rfl) rfl (by first | (exact Bor.own (by repeat (first | exact List.Mem.head _ | apply List.Mem.tail))) | (repeat (first | assumption | apply Bor.cons))) (by omega) [.int .u64 tm, .int .u8 (lv.toNat : Int), .string ⟨src.toArray⟩, .string ⟨txt.toArray⟩] hrc rfl) rfl ?_
    refine vl_eff (eff_alloc_z (zv := (.agg #[.int .u64 0, .int .u8 0, .string ⟨#[]⟩, .string ⟨#[]⟩])) (by kernel_rfl) rfl) rfl ?_
    rintro _ _ ⟨g5, rfl, rfl⟩
    refine vl_det (det_assign rfl) rfl ?_
    refine vl_eff0 (eff_store_whole 4 (by kernel_rfl) rfl rfl (by first | exact bv_one _ | exact strs_one _ | exact ints_one _ _ | (simp; done) | (simp [Value.oneCell']; done) | assumption) (by repeat (first | exact .hd | apply Sel.tl)) (by first | rfl | (simp; omega) | (simp [*]; done)) (by first | rfl | (simp; omega) | (simp [*]; done))) ?_
    rintro _ _ rfl
    refine vl_end [(2, _), (3, _), (4, _), (5, _), (12, _), (13, _), (14, _)] ⟨rfl, rfl, rfl, rfl, rfl, rfl, rfl, trivial⟩ ?_
    refine then_next ?_
    refine vc_seq ?_
    refine vc_region ?_
    refine vl_det (det_load_whole 4 (by kernel_rfl) rfl (by repeat (first | exact .hd | apply Sel.tl)) (by first | rfl | (simp; omega) | (simp [*]; done))) rfl ?_
    refine vl_call co14 rfl (htd _ (by omega) (by omega)) rfl ?_
    rintro _ _ ⟨A20, c20, rfl, hLL⟩
    obtain rfl := hLL.symm
    refine vl_det (det_len_sl Try.underlying26 rfl) rfl ?_
    refine vl_det (det_move rfl) rfl ?_
    refine vl_end [(2, _), (3, _), (4, _), (12, _), (13, _), (14, _), (20, _), (21, _), (22, _)] ⟨rfl, rfl, rfl, rfl, rfl, rfl, rfl, rfl, rfl, trivial⟩ ?_
    refine then_next ?_
    refine vc_block ?_
    refine vc_loopJ (fun zf zL zm => ∃ (j : Nat) (D2 : List Grp), (j ≤ T.length ∧ GInv (tmF L) i (T.take j) D2 ∧ D2.length ≤ wsum (L.take i) + j) ∧ T.length - j = zm ∧ Sub zf [(2, .pointer (some ⟨g2, 0, none⟩)), (3, .map (some g11)), (4, .int .i64 i), (12, .slice A L.length c), (13, .int .i64 L.length), (14, .int .i64 i), (20, .slice A20 T.length c20), (21, .int .i64 T.length), (22, .int .i64 j)] ∧ Wk zL (.own 9 1 A20 T.length c20 (strs T) :: .blk g5 35 [.int .u64 tm, .int .u8 (lv.toNat : Int), .string ⟨src.toArray⟩, .string ⟨txt.toArray⟩] :: .blk g2 29 [.slice none 0 0, .slice none 0 0] :: .obj g11 (mpO (gVals D2)) :: (D2.map gRow ++ F))) _ ⟨0, D, ⟨Nat.zero_le _, by rw [List.take_zero]; exact hG, by omega⟩, rfl, ⟨(by first | rfl | exact int_to (by omega) | exact sl_to (by omega)), (by first | rfl | exact int_to (by omega) | exact sl_to (by omega)), (by first | rfl | exact int_to (by omega) | exact sl_to (by omega)), (by first | rfl | exact int_to (by omega) | exact sl_to (by omega)), (by first | rfl | exact int_to (by omega) | exact sl_to (by omega)), (by first | rfl | exact int_to (by omega) | exact sl_to (by omega)), (by first | rfl | exact int_to (by omega) | exact sl_to (by omega)), (by first | rfl | exact int_to (by omega) | exact sl_to (by omega)), (by first | rfl | exact int_to (by omega) | exact sl_to (by omega)), trivial⟩, .refl _⟩ ?_
    rintro _ _ _ ⟨j, D2, ⟨hj, hG2, hDl2⟩, rfl, hs, hp⟩
    refine vc_weaken _ hs (vc_wk hp ?_)
    clear hs hp
    refine vc_seq ?_
    refine vc_region ?_
    refine vl_det (det_lss rfl rfl) rfl ?_
    refine vl_end [(2, _), (3, _), (4, _), (12, _), (13, _), (14, _), (20, _), (21, _), (22, _), (23, _)] ⟨rfl, rfl, rfl, rfl, rfl, rfl, rfl, rfl, rfl, rfl, trivial⟩ ?_
    refine then_next ?_
    refine vc_seq ?_
    refine vc_decideU rfl (fun h23 => ?_) (fun h23 => ?_)
    · skip
      refine vc_skip ?_
      refine then_next ?_
      refine vc_seq ?_
      refine vc_block ?_
      refine vc_seq ?_
      refine vc_region ?_
      refine vl_det (det_indexAddr (size := 1) Try.underlying26 (by kernel_rfl) rfl rfl rfl (by omega) (by first | (exact Bor.own (by repeat (first | exact List.Mem.head _ | apply List.Mem.tail))) | (repeat (first | assumption | apply Bor.cons)))) rfl ?_
      refine vl_det (det_load_str (b := T) (j := j) (by kernel_rfl) rfl (by first | (exact Bor.own (by repeat (first | exact List.Mem.head _ | apply List.Mem.tail))) | (repeat (first | assumption | apply Bor.cons))) (by omega)) rfl ?_
      refine vl_det (det_assign rfl) rfl ?_
      refine vl_end [(2, _), (3, _), (4, _), (7, _), (12, _), (13, _), (14, _), (20, _), (21, _), (22, _)] ⟨rfl, rfl, rfl, rfl, rfl, rfl, rfl, rfl, rfl, rfl, trivial⟩ ?_
      refine then_next ?_
      obtain ⟨AG, cG, RG, hGv, hGs, hGb⟩ := grp_get (T.getD j []) D2
      have hids := hG2.ids (T.getD j [])
      have hil : (gsT (T.getD j []) D2).length ≤ i + 1 := by
        rw [hids]
        have : (lsF (tmF L) i (T.getD j [])).length ≤ i := by unfold lsF; exact Nat.le_trans (List.length_filter_le _ _) (by simp)
        rw [List.length_append]
        split <;> simp only [List.length_cons, List.length_nil] <;> omega
      refine vc_sl (fun w hw => sl_grpP [.own 9 1 A20 T.length c20 (strs T), .blk g5 35 [.int .u64 tm, .int .u8 (lv.toNat : Int), .string ⟨src.toArray⟩, .string ⟨txt.toArray⟩], .blk g2 29 [.slice none 0 0, .slice none 0 0]] hGs hw) ?_
      refine vc_region ?_
      refine vl_det (det_move rfl) rfl ?_
      refine vl_det (det_move rfl) rfl ?_
      refine vl_det (det_move rfl) rfl ?_
      refine vl_det (det_move rfl) rfl ?_
      refine vl_det (det_lookup (zv := (.slice none 0 0)) Try.underlying58 Try.underlying9 (zero_of (by kernel_rfl)) rfl rfl (by repeat (first | exact .hd | apply Sel.tl))) rfl ?_
      rw [hGv]
      refine vl_det (det_move rfl) rfl ?_
      refine vl_push slT37 rfl rfl rfl rfl rfl (fun _ => rfl) (by repeat (first | exact .hd | apply Sel.tl)) (by omega) (by omega) ?_
      intro _ A33 c33
      refine vl_eff0 (eff_mapUpdate Try.underlying58 Try.underlying9 rfl rfl rfl (by repeat (first | exact .hd | apply Sel.tl))) ?_
      rintro _ _ rfl
      refine vl_end [(2, _), (3, _), (4, _), (12, _), (13, _), (14, _), (20, _), (21, _), (22, _)] ⟨rfl, rfl, rfl, rfl, rfl, rfl, rfl, rfl, rfl, trivial⟩ ?_
      refine in_normal ?_
      refine then_next ?_
      refine vc_region ?_
      refine vl_det (det_add rfl rfl (w_i64 (by omega) (by omega))) rfl ?_
      refine vl_det (det_move rfl) rfl ?_
      refine vl_end [(2, _), (3, _), (4, _), (12, _), (13, _), (14, _), (20, _), (21, _), (22, _)] ⟨rfl, rfl, rfl, rfl, rfl, rfl, rfl, rfl, rfl, trivial⟩ ?_
      refine in_loop_ ⟨_, by omega, j + 1, upG (T.getD j []) A33 c33 i D2, ⟨by omega, hG2.step hTn (by omega) A33 c33, by have := up_len (T.getD j []) A33 c33 i D2; omega⟩, rfl, ⟨(by first | rfl | exact int_to (by omega) | exact sl_to (by omega)), (by first | rfl | exact int_to (by omega) | exact sl_to (by omega)), (by first | rfl | exact int_to (by omega) | exact sl_to (by omega)), (by first | rfl | exact int_to (by omega) | exact sl_to (by omega)), (by first | rfl | exact int_to (by omega) | exact sl_to (by omega)), (by first | rfl | exact int_to (by omega) | exact sl_to (by omega)), (by first | rfl | exact int_to (by omega) | exact sl_to (by omega)), (by first | rfl | exact int_to (by omega) | exact sl_to (by omega)), (by first | rfl | exact int_to (by omega) | exact sl_to (by omega)), trivial⟩, grp_back [_, _, _] (hGb A33 c33 i) (by simp [natv]) (by rw [putM_up])⟩
    · skip
      obtain rfl : j = T.length := by omega
      rw [List.take_length, hT] at hG2
      have hGn := hG2.next
      refine vc_exit ?_
      refine then_exit ?_
      refine loop_exit ?_
      refine in_eq ?_
      refine in_normal ?_
      refine then_next ?_
      refine vc_region ?_
      refine vl_det (det_add rfl rfl (w_i64 (by omega) (by omega))) rfl ?_
      refine vl_det (det_move rfl) rfl ?_
      refine vl_end [(2, _), (3, _), (12, _), (13, _), (14, _)] ⟨rfl, rfl, rfl, rfl, rfl, trivial⟩ ?_
      refine in_loop_ ⟨_, by omega, i + 1, D2, ⟨by omega, hGn, by omega⟩, rfl, ⟨(by first | rfl | exact int_to (by omega) | exact sl_to (by omega)), (by first | rfl | exact int_to (by omega) | exact sl_to (by omega)), (by first | rfl | exact int_to (by omega) | exact sl_to (by omega)), (by first | rfl | exact int_to (by omega) | exact sl_to (by omega)), (by first | rfl | exact int_to (by omega) | exact sl_to (by omega)), trivial⟩, .skip (.skip (.refl _))⟩
  · skip
    obtain rfl : i = L.length := by omega
    rw [List.take_length] at hDl
    obtain ⟨hd1, hd2⟩ := hG.done
    have hk25 : ∀ p ∈ gVals D, p.1.length ≤ 1000000000 := fun p hp => by
      obtain ⟨e, he, rfl⟩ := List.mem_map.1 hp
      have h1 := (hG.keys e.1).1 (List.mem_map.2 ⟨e, he, rfl⟩)
      rw [hd2, lsF_ne] at h1
      obtain ⟨q, _, h2⟩ := h1
      have := trm_25 h2
      show e.1.length ≤ _
      omega
    have hkey : (gVals D).map (·.1) = D.map (·.1) := by simp [gVals]
    have hgl : (gVals D).length = D.length := by simp [gVals]
    have hrp := rows_perm hG.nd
    obtain ⟨T0, hT0⟩ : ∃ T0, T0 = setT (D.map (·.1)) := ⟨_, rfl⟩
    have hTl0 : T0.length ≤ D.length := by
      have := setT_len (D.map (·.1))
      rw [hT0]; simpa using this
    have hso := fun F g b => @sorted_d B w0 F (gVals D) g b (by rw [hkey]; exact hG.nd) (by omega) hk25
    rw [hkey, ← hT0] at hso
    rw [← hT0] at hrp hd1
    rw [← hd1]
    refine vc_exit ?_
    refine then_exit ?_
    refine loop_exit ?_
    refine in_eq ?_
    refine then_next ?_
    refine vc_seq ?_
    refine vc_region ?_
    refine vl_eff (eff_alloc_z (zv := (.agg #[.slice none 0 0, .slice none 0 0])) (by kernel_rfl) rfl) rfl ?_
    rintro _ _ ⟨g8, rfl, rfl⟩
    refine vl_end [(2, _), (3, _), (8, _)] ⟨rfl, rfl, rfl, trivial⟩ ?_
    refine then_next ?_
    refine vc_seq ?_
    refine vc_seq ?_
    refine vc_region ?_
    refine vl_det (det_move rfl) rfl ?_
    refine vl_call co30 rfl (keys_d g11) rfl ?_
    rintro _ _ ⟨g37, rfl, hLL⟩
    obtain rfl := hLL.symm
    refine vl_call co29 rfl ((hso _ g37 g11).perm ((pu0 (pu2 (pu0 (pu0 (.refl _))))))) rfl ?_
    rintro _ _ ⟨A38, c38, rfl, hLL⟩
    obtain rfl := hLL.symm
    refine vl_det (det_len_sl Try.underlying26 rfl) rfl ?_
    refine vl_det (det_move rfl) rfl ?_
    refine vl_end [(2, _), (3, _), (8, _), (38, _), (39, _), (40, _)] ⟨rfl, rfl, rfl, rfl, rfl, rfl, trivial⟩ ?_
    refine then_next ?_
    refine vc_block ?_
    refine vc_nil_row 9 1 none ?_
    refine vc_nil_row 37 1 none ?_
    refine vc_loopJ (fun zf zL zm => ∃ (k : Nat) (B1 : Option Addr) (b1 : Nat) (B2 : Option Addr) (b2 : Nat), (k ≤ T0.length) ∧ T0.length - k = zm ∧ Sub zf [(2, .pointer (some ⟨g2, 0, none⟩)), (3, .map (some g11)), (8, .pointer (some ⟨g8, 0, none⟩)), (38, .slice A38 T0.length c38), (39, .int .i64 T0.length), (40, .int .i64 k)] ∧ Wk zL (.own 9 1 B1 k b1 (strs (T0.take k)) :: .own 37 1 B2 k b2 ((T0.take k).map fun t => lVal (geT t D)) :: .blk g8 29 [.slice B1 k b1, .slice B2 k b2] :: .own 9 1 A38 T0.length c38 (strs T0) :: .blk g37 58 [.map (some g11)] :: .blk g2 29 [.slice none 0 0, .slice none 0 0] :: .obj g11 (mpO (gVals D)) :: (D.map gRow ++ F))) _ ⟨0, none, 0, none, 0, Nat.zero_le _, rfl, ⟨(by first | rfl | exact int_to (by omega) | exact sl_to (by omega)), (by first | rfl | exact int_to (by omega) | exact sl_to (by omega)), (by first | rfl | exact int_to (by omega) | exact sl_to (by omega)), (by first | rfl | exact int_to (by omega) | exact sl_to (by omega)), (by first | rfl | exact int_to (by omega) | exact sl_to (by omega)), (by first | rfl | exact int_to (by omega) | exact sl_to (by omega)), trivial⟩, (wu1 (wu0 (wu3 (wu0 (wu0 (wu1 (wu0 (.refl _))))))))⟩ ?_
    rintro _ _ _ ⟨k, B1, b1, B2, b2, hk, rfl, hs, hp⟩
    refine vc_weaken _ hs (vc_wk hp ?_)
    clear hs hp
    refine vc_seq ?_
    refine vc_region ?_
    refine vl_det (det_lss rfl rfl) rfl ?_
    refine vl_end [(2, _), (3, _), (8, _), (38, _), (39, _), (40, _), (41, _)] ⟨rfl, rfl, rfl, rfl, rfl, rfl, rfl, trivial⟩ ?_
    refine then_next ?_
    refine vc_seq ?_
    refine vc_decideU rfl (fun h41 => ?_) (fun h41 => ?_)
    · skip
      have htk : T0.take (k + 1) = T0.take k ++ [T0.getD k []] := by
        rw [List.take_add_one, List.getElem?_eq_getElem (show k < T0.length by omega)]; simp [List.getD, List.getElem?_eq_getElem (show k < T0.length by omega)]
      refine vc_skip ?_
      refine then_next ?_
      refine vc_seq ?_
      refine vc_block ?_
      refine vc_seq ?_
      refine vc_region ?_
      refine vl_det (det_indexAddr (size := 1) Try.underlying26 (by kernel_rfl) rfl rfl rfl (by omega) (by first | (exact Bor.own (by repeat (first | exact List.Mem.head _ | apply List.Mem.tail))) | (repeat (first | assumption | apply Bor.cons)))) rfl ?_
      refine vl_det (det_load_str (b := T0) (j := k) (by kernel_rfl) rfl (by first | (exact Bor.own (by repeat (first | exact List.Mem.head _ | apply List.Mem.tail))) | (repeat (first | assumption | apply Bor.cons))) (by omega)) rfl ?_
      refine vl_det (det_assign rfl) rfl ?_
      refine vl_end [(2, _), (3, _), (8, _), (10, _), (38, _), (39, _), (40, _)] ⟨rfl, rfl, rfl, rfl, rfl, rfl, rfl, trivial⟩ ?_
      refine then_next ?_
      refine vc_seq ?_
      refine vc_region ?_
      refine vl_det (det_fieldAddr_ Try.underlying29 rfl (by kernel_rfl) rfl rfl) rfl ?_
      refine vl_det (det_load_blk (by kernel_rfl) rfl (by repeat (first | exact .hd | apply Sel.tl)) rfl) rfl ?_
      refine vl_det (det_move rfl) rfl ?_
      refine vl_push slT26 rfl rfl rfl rfl rfl (fun _ => rfl) (by repeat (first | exact .hd | apply Sel.tl)) (by omega) (by omega) ?_
      intro _ A48 c48
      refine vl_det (det_fieldAddr_ Try.underlying29 rfl (by kernel_rfl) rfl rfl) rfl ?_
      refine vl_eff0 (eff_store (by kernel_rfl) rfl rfl rfl (by repeat (first | exact .hd | apply Sel.tl)) (by simp)) ?_
      rintro _ _ rfl
      refine vl_end [(2, _), (3, _), (8, _), (10, _), (38, _), (39, _), (40, _)] ⟨rfl, rfl, rfl, rfl, rfl, rfl, rfl, trivial⟩ ?_
      refine then_next ?_
      refine vc_region ?_
      refine vl_det (det_fieldAddr_ Try.underlying29 rfl (by kernel_rfl) rfl rfl) rfl ?_
      refine vl_det (det_load_blk (by kernel_rfl) rfl (by repeat (first | exact .hd | apply Sel.tl)) rfl) rfl ?_
      refine vl_det (det_move rfl) rfl ?_
      refine vl_det (det_move rfl) rfl ?_
      refine vl_det (det_lookup (zv := (.slice none 0 0)) Try.underlying58 Try.underlying9 (zero_of (by kernel_rfl)) rfl rfl (by repeat (first | exact .hd | apply Sel.tl))) rfl ?_
      rw [lk_get]
      refine vl_push slT27 rfl rfl rfl rfl rfl (fun _ => rfl) (by repeat (first | exact .hd | apply Sel.tl)) (by omega) (by omega) ?_
      intro _ A56 c56
      refine vl_det (det_fieldAddr_ Try.underlying29 rfl (by kernel_rfl) rfl rfl) rfl ?_
      refine vl_eff0 (eff_store (by kernel_rfl) rfl rfl rfl (by repeat (first | exact .hd | apply Sel.tl)) (by simp)) ?_
      rintro _ _ rfl
      refine vl_end [(2, _), (3, _), (8, _), (38, _), (39, _), (40, _)] ⟨rfl, rfl, rfl, rfl, rfl, rfl, trivial⟩ ?_
      refine in_normal ?_
      refine then_next ?_
      refine vc_region ?_
      refine vl_det (det_add rfl rfl (w_i64 (by omega) (by omega))) rfl ?_
      refine vl_det (det_move rfl) rfl ?_
      refine vl_end [(2, _), (3, _), (8, _), (38, _), (39, _), (40, _)] ⟨rfl, rfl, rfl, rfl, rfl, rfl, trivial⟩ ?_
      refine in_loop_ ⟨_, by omega, k + 1, A48, c48, A56, c56, by omega, rfl, ⟨(by first | rfl | exact int_to (by omega) | exact sl_to (by omega)), (by first | rfl | exact int_to (by omega) | exact sl_to (by omega)), (by first | rfl | exact int_to (by omega) | exact sl_to (by omega)), (by first | rfl | exact int_to (by omega) | exact sl_to (by omega)), (by first | rfl | exact int_to (by omega) | exact sl_to (by omega)), (by first | rfl | exact int_to (by omega) | exact sl_to (by omega)), trivial⟩, wk_own rfl (by rw [htk]; simp [strs]) (wk_own rfl (by rw [htk]; simp) (.refl _))⟩
    · skip
      obtain rfl : k = T0.length := by omega
      rw [List.take_length]
      refine vc_exit ?_
      refine then_exit ?_
      refine loop_exit ?_
      refine in_eq ?_
      refine then_next ?_
      refine vc_seq ?_
      refine vc_region ?_
      refine vl_det (det_load_whole 2 (by kernel_rfl) rfl (by repeat (first | exact .hd | apply Sel.tl)) (by first | rfl | (simp; omega) | (simp [*]; done))) rfl ?_
      refine vl_eff0 (eff_store_whole 2 (by kernel_rfl) rfl rfl (by first | exact bv_one _ | exact strs_one _ | exact ints_one _ _ | (simp; done) | (simp [Value.oneCell']; done) | assumption) (by repeat (first | exact .hd | apply Sel.tl)) (by first | rfl | (simp; omega) | (simp [*]; done)) (by first | rfl | (simp; omega) | (simp [*]; done))) ?_
      rintro _ _ rfl
      refine vl_end [(2, _)] ⟨rfl, trivial⟩ ?_
      refine then_next ?_
      refine vc_ret ?_
      refine ret_c rfl rfl (by kernel_rfl) (by repeat (first | exact .hd | apply Sel.tl)) (by first | rfl | (simp; omega) | (simp [*]; done)) (.cons (.cons (.skip (.skip (.skip (.skip (.skip (.of_perm (hrp.append_right F))))))))) ?_
      exact ⟨B1, b1, B2, b2, T0.map (geT · D), rfl, by rw [show (T0.map (geT · D)).map lVal = T0.map (fun t => lVal (geT t D)) from List.map_map], by rw [List.map_map, bldL, ← hd1]; exact List.map_congr_left fun t _ => (geT_ids t D).trans (hd2 t)⟩
end Go.Proofs.Ytpamjobiohbibaa
namespace Go.Proofs.Ytpamjobiohbibaa
open Go.RowKit
set_option linter.unusedVariables false
set_option maxRecDepth 20000
variable {B : Nat} {w0 : World} {F : List Ch} {A A1 A2 : Option Addr} {n c c1 c2 g : Nat}
def SameT (l1 l2 : List Txt) (k : Nat) : Prop := l1.take k = l2.take k
theorem SameT.step {l1 l2 : List Txt} {k : Nat} (h : SameT l1 l2 k) (h1 : k < l1.length) (h2 : k < l2.length) (he : l1.getD k [] = l2.getD k []) : SameT l1 l2 (k + 1) := by
  unfold SameT at *
  rw [List.take_add_one, List.take_add_one, h]
  congr 1
  rw [List.getElem?_eq_getElem h1, List.getElem?_eq_getElem h2]
  simp [List.getD, List.getElem?_eq_getElem h1, List.getElem?_eq_getElem h2] at he
  rw [he]
theorem SameT.all {l1 l2 : List Txt} {k : Nat} (h : SameT l1 l2 k) (h1 : ¬ k < l1.length) (h2 : l1.length = l2.length) : l1 = l2 := by
  unfold SameT at h
  rwa [List.take_of_length_le (by omega), List.take_of_length_le (by omega)] at h
theorem same15_d {l1 l2 : List Txt} (h1 : Bor B w0 F 1 (.slice A1 l1.length c1) l1.length (strs l1)) (h2 : Bor B w0 F 1 (.slice A2 l2.length c2) l2.length (strs l2)) (hn1 : l1.length ≤ 1000000000000000) :
    Does Try.prog B w0 27 [.slice A1 l1.length c1, .slice A2 l2.length c2] F (fun r L => r = .bool (decide (l1 = l2)) ∧ L = F) := by
  refine fn_walk Try.func27 26 rfl rfl rfl [(0, .slice A1 l1.length c1), (1, .slice A2 l2.length c2)] ⟨⟨rfl, rfl⟩, ⟨rfl, rfl⟩, trivial⟩ ?_
  refine vc_seq ?_
  refine vc_region ?_
  refine vl_det (det_assign rfl) rfl ?_
  refine vl_end [(0, _), (1, _)] ⟨rfl, rfl, trivial⟩ ?_
  refine then_next ?_
  refine vc_seq ?_
  refine vc_seq ?_
  refine vc_region ?_
  refine vl_det (det_move rfl) rfl ?_
  refine vl_det (det_len_sl Try.underlying26 rfl) rfl ?_
  refine vl_det (det_move rfl) rfl ?_
  refine vl_det (det_len_sl Try.underlying26 rfl) rfl ?_
  refine vl_det (det_neq rfl rfl) rfl ?_
  refine vl_end [(0, _), (1, _), (10, _)] ⟨rfl, rfl, rfl, trivial⟩ ?_
  refine then_next ?_
  refine vc_decideU rfl (fun h10 => ?_) (fun h10 => ?_)
  · skip
    refine vc_seq ?_
    refine vc_region ?_
    refine vl_det (det_assign rfl) rfl ?_
    refine vl_end [(4, _)] ⟨rfl, trivial⟩ ?_
    refine then_next ?_
    refine vc_ret ?_
    refine then_ret ?_
    refine ret1 rfl rfl ?_
    rw [decide_eq_false (fun e => h10 (by rw [e]))]; exact ⟨rfl, rfl⟩
  · skip
    refine vc_skip ?_
    refine then_next ?_
    refine vc_seq ?_
    refine vc_seq ?_
    refine vc_region ?_
    refine vl_det (det_assign rfl) rfl ?_
    refine vl_end [(0, _), (1, _), (5, _)] ⟨rfl, rfl, rfl, trivial⟩ ?_
    refine then_next ?_
    refine vc_block ?_
    refine vc_loopJ (fun zf zL zm => ∃ (k : Nat), (k ≤ l1.length ∧ SameT l1 l2 k) ∧ l1.length - k = zm ∧ Sub zf [(0, .slice A1 l1.length c1), (1, .slice A2 l2.length c2), (5, .int .i64 k)] ∧ Wk zL (F)) _ ⟨0, ⟨Nat.zero_le _, rfl⟩, rfl, ⟨(by first | rfl | exact int_to (by omega) | exact sl_to (by omega)), (by first | rfl | exact int_to (by omega) | exact sl_to (by omega)), (by first | rfl | exact int_to (by omega) | exact sl_to (by omega)), trivial⟩, .refl _⟩ ?_
    rintro _ _ _ ⟨k, ⟨hk, hS⟩, rfl, hs, hp⟩
    refine vc_weaken _ hs (vc_wk hp ?_)
    clear hs hp
    refine vc_seq ?_
    refine vc_seq ?_
    refine vc_region ?_
    refine vl_det (det_move rfl) rfl ?_
    refine vl_det (det_move rfl) rfl ?_
    refine vl_det (det_len_sl Try.underlying26 rfl) rfl ?_
    refine vl_det (det_lss rfl rfl) rfl ?_
    refine vl_end [(0, _), (1, _), (5, _), (14, _)] ⟨rfl, rfl, rfl, rfl, trivial⟩ ?_
    refine then_next ?_
    refine vc_decideU rfl (fun h14 => ?_) (fun h14 => ?_)
    · skip
      refine vc_skip ?_
      refine then_next ?_
      refine vc_seq ?_
      refine vc_block ?_
      refine vc_seq ?_
      refine vq_region (by kernel_rfl) (by kernel_rfl) ?_
      refine vq_det (det_move rfl) rfl ?_
      refine vq_det (det_move rfl) rfl ?_
      refine vq_det (det_indexAddr (size := 1) Try.underlying26 (by kernel_rfl) rfl rfl rfl (by omega) (by first | (exact Bor.own (by repeat (first | exact List.Mem.head _ | apply List.Mem.tail))) | (repeat (first | assumption | apply Bor.cons)))) rfl ?_
      refine vq_det (det_load_str (by kernel_rfl) rfl (by first | (exact Bor.own (by repeat (first | exact List.Mem.head _ | apply List.Mem.tail))) | (repeat (first | assumption | apply Bor.cons))) (by omega)) rfl ?_
      refine vq_det (det_move rfl) rfl ?_
      refine vq_det (det_move rfl) rfl ?_
      refine vq_det (det_indexAddr (size := 1) Try.underlying26 (by kernel_rfl) rfl rfl rfl (by omega) (by first | (exact Bor.own (by repeat (first | exact List.Mem.head _ | apply List.Mem.tail))) | (repeat (first | assumption | apply Bor.cons)))) rfl ?_
      refine vq_det (det_load_str (by kernel_rfl) rfl (by first | (exact Bor.own (by repeat (first | exact List.Mem.head _ | apply List.Mem.tail))) | (repeat (first | assumption | apply Bor.cons))) (by omega)) rfl ?_
      refine vq_det (det_s_neq rfl rfl) rfl ?_
      refine vq_end [(0, _), (1, _), (5, _), (25, _)] ⟨rfl, rfl, rfl, rfl, trivial⟩ ?_
      refine then_next ?_
      refine vc_decideU rfl (fun h25 => ?_) (fun h25 => ?_)
      · skip
        refine vc_seq ?_
        refine vc_region ?_
        refine vl_det (det_assign rfl) rfl ?_
        refine vl_end [(4, _)] ⟨rfl, trivial⟩ ?_
        refine then_next ?_
        refine vc_ret ?_
        refine in_ret ?_
        refine then_ret ?_
        refine loop_ret ?_
        refine in_ret ?_
        refine then_ret ?_
        refine ret1 rfl rfl ?_
        rw [decide_eq_false (fun e => h25 (by rw [e]))]; exact ⟨rfl, rfl⟩
      · skip
        refine vc_skip ?_
        refine in_normal ?_
        refine then_next ?_
        refine vc_region ?_
        refine vl_det (det_move rfl) rfl ?_
        refine vl_det (det_add rfl rfl (w_i64 (by omega) (by omega))) rfl ?_
        refine vl_det (det_assign rfl) rfl ?_
        refine vl_end [(0, _), (1, _), (5, _)] ⟨rfl, rfl, rfl, trivial⟩ ?_
        refine in_loop_ ⟨_, by omega, k + 1, ⟨by omega, hS.step (by omega) (by omega) (by simpa using h25)⟩, rfl, ⟨(by first | rfl | exact int_to (by omega) | exact sl_to (by omega)), (by first | rfl | exact int_to (by omega) | exact sl_to (by omega)), (by first | rfl | exact int_to (by omega) | exact sl_to (by omega)), trivial⟩, .refl _⟩
    · skip
      refine vc_exit ?_
      refine then_exit ?_
      refine loop_exit ?_
      refine in_eq ?_
      refine then_next ?_
      refine vc_seq ?_
      refine vc_region ?_
      refine vl_det (det_assign rfl) rfl ?_
      refine vl_end [(4, _)] ⟨rfl, trivial⟩ ?_
      refine then_next ?_
      refine vc_ret ?_
      refine ret1 rfl rfl ?_
      rw [decide_eq_true (hS.all (by omega) (by omega))]; exact ⟨rfl, rfl⟩
theorem has15_d {l1 : List Txt} (t : Txt) (h1 : Bor B w0 F 1 (.slice A1 l1.length c1) l1.length (strs l1)) (hn1 : l1.length ≤ 1000000000000000) :
    Does Try.prog B w0 15 [.slice A1 l1.length c1, .string ⟨t.toArray⟩] F (fun r L => r = .bool (decide (t ∈ l1)) ∧ L = F) := by
  refine fn_walk Try.func15 18 rfl rfl rfl [(0, .slice A1 l1.length c1), (1, .string ⟨t.toArray⟩)] ⟨⟨rfl, rfl⟩, ⟨rfl, rfl⟩, trivial⟩ ?_
  refine vc_seq ?_
  refine vc_region ?_
  refine vl_det (det_assign rfl) rfl ?_
  refine vl_end [(0, _), (1, _)] ⟨rfl, rfl, trivial⟩ ?_
  refine then_next ?_
  refine vc_seq ?_
  refine vc_seq ?_
  refine vc_region ?_
  refine vl_det (det_assign rfl) rfl ?_
  refine vl_end [(0, _), (1, _), (5, _)] ⟨rfl, rfl, rfl, trivial⟩ ?_
  refine then_next ?_
  refine vc_block ?_
  refine vc_loopJ (fun zf zL zm => ∃ (k : Nat), (k ≤ l1.length ∧ t ∉ l1.take k) ∧ l1.length - k = zm ∧ Sub zf [(0, .slice A1 l1.length c1), (1, .string ⟨t.toArray⟩), (5, .int .i64 k)] ∧ Wk zL (F)) _ ⟨0, ⟨Nat.zero_le _, by simp⟩, rfl, ⟨(by first | rfl | exact int_to (by omega) | exact sl_to (by omega)), (by first | rfl | exact int_to (by omega) | exact sl_to (by omega)), (by first | rfl | exact int_to (by omega) | exact sl_to (by omega)), trivial⟩, .refl _⟩ ?_
  rintro _ _ _ ⟨k, ⟨hk, hS⟩, rfl, hs, hp⟩
  refine vc_weaken _ hs (vc_wk hp ?_)
  clear hs hp
  refine vc_seq ?_
  refine vc_seq ?_
  refine vc_region ?_
  refine vl_det (det_move rfl) rfl ?_
  refine vl_det (det_move rfl) rfl ?_
  refine vl_det (det_len_sl Try.underlying26 rfl) rfl ?_
  refine vl_det (det_lss rfl rfl) rfl ?_
  refine vl_end [(0, _), (1, _), (5, _), (9, _)] ⟨rfl, rfl, rfl, rfl, trivial⟩ ?_
  refine then_next ?_
  refine vc_decideU rfl (fun h9 => ?_) (fun h9 => ?_)
  · skip
    refine vc_skip ?_
    refine then_next ?_
    refine vc_seq ?_
    refine vc_block ?_
    refine vc_seq ?_
    refine vc_region ?_
    refine vl_det (det_move rfl) rfl ?_
    refine vl_det (det_move rfl) rfl ?_
    refine vl_det (det_indexAddr (size := 1) Try.underlying26 (by kernel_rfl) rfl rfl rfl (by omega) (by first | (exact Bor.own (by repeat (first | exact List.Mem.head _ | apply List.Mem.tail))) | (repeat (first | assumption | apply Bor.cons)))) rfl ?_
    refine vl_det (det_load_str (by kernel_rfl) rfl (by first | (exact Bor.own (by repeat (first | exact List.Mem.head _ | apply List.Mem.tail))) | (repeat (first | assumption | apply Bor.cons))) (by omega)) rfl ?_
    refine vl_det (det_move rfl) rfl ?_
    refine vl_det (det_s_eql rfl rfl) rfl ?_
    refine vl_end [(0, _), (1, _), (5, _), (17, _)] ⟨rfl, rfl, rfl, rfl, trivial⟩ ?_
    refine then_next ?_
    refine vc_decideU rfl (fun h17 => ?_) (fun h17 => ?_)
    · skip
      refine vc_seq ?_
      refine vc_region ?_
      refine vl_det (det_assign rfl) rfl ?_
      refine vl_end [(4, _)] ⟨rfl, trivial⟩ ?_
      refine then_next ?_
      refine vc_ret ?_
      refine in_ret ?_
      refine then_ret ?_
      refine loop_ret ?_
      refine in_ret ?_
      refine then_ret ?_
      refine ret1 rfl rfl ?_
      rw [decide_eq_true (h17 ▸ getD_mem (by omega) [])]; exact ⟨rfl, rfl⟩
    · skip
      refine vc_skip ?_
      refine in_normal ?_
      refine then_next ?_
      refine vc_region ?_
      refine vl_det (det_move rfl) rfl ?_
      refine vl_det (det_add rfl rfl (w_i64 (by omega) (by omega))) rfl ?_
      refine vl_det (det_assign rfl) rfl ?_
      refine vl_end [(0, _), (1, _), (5, _)] ⟨rfl, rfl, rfl, trivial⟩ ?_
      refine in_loop_ ⟨_, by omega, k + 1, ⟨by omega, by rw [take_getD (by omega) []]; simp [hS]; exact fun e => h17 (by simpa using e.symm)⟩, rfl, ⟨(by first | rfl | exact int_to (by omega) | exact sl_to (by omega)), (by first | rfl | exact int_to (by omega) | exact sl_to (by omega)), (by first | rfl | exact int_to (by omega) | exact sl_to (by omega)), trivial⟩, .refl _⟩
  · skip
    refine vc_exit ?_
    refine then_exit ?_
    refine loop_exit ?_
    refine in_eq ?_
    refine then_next ?_
    refine vc_seq ?_
    refine vc_region ?_
    refine vl_det (det_assign rfl) rfl ?_
    refine vl_end [(4, _)] ⟨rfl, trivial⟩ ?_
    refine then_next ?_
    refine vc_ret ?_
    refine ret1 rfl rfl ?_
    rw [List.take_of_length_le (by omega)] at hS; rw [decide_eq_false hS]; exact ⟨rfl, rfl⟩
end Go.Proofs.Ytpamjobiohbibaa
namespace Go.Proofs.Ytpamjobiohbibaa
open Go.RowKit
set_option linter.unusedVariables false
set_option maxRecDepth 20000
variable {B : Nat} {w0 : World} {F : List Ch} {A A1 A2 B1 B2 : Option Addr} {n c c1 c2 b1 b2 g : Nat}
theorem wk_rows {M N : List Ch} (h : Wk M N) : ∀ R : List Ch, Wk (R ++ M) N
  | [] => h
  | _ :: R => .skip (wk_rows h R)
/-- a list of numbers in memory: where it lies, its room, the numbers -/
abbrev LsI := Option Addr × Nat × List Int
abbrev iVal (e : LsI) : Value := .slice e.1 e.2.2.length e.2.1
abbrev iNil : LsI := (none, 0, [])
def LsBor (B : Nat) (w0 : World) (F : List Ch) (LL : List LsI) : Prop := ∀ e ∈ LL, Bor B w0 F 1 (.slice e.1 e.2.2.length e.2.1) e.2.2.length (ints .i64 e.2.2)
theorem LsBor.cons {LL : List LsI} {q : Ch} (h : LsBor B w0 F LL) : LsBor B w0 (q :: F) LL := fun e he => (h e he).cons
theorem LsBor.mono {LL : List LsI} {M : List Ch} (h : LsBor B w0 F LL) (hs : F.Sublist M) : LsBor B w0 M LL := fun e he => (h e he).mono hs
theorem LsBor.get {LL : List LsI} (h : LsBor B w0 F LL) {k : Nat} (hk : k < LL.length) : Bor B w0 F 1 (.slice (LL.getD k iNil).1 (LL.getD k iNil).2.2.length (LL.getD k iNil).2.1) (LL.getD k iNil).2.2.length (ints .i64 (LL.getD k iNil).2.2) := h _ (getD_mem hk iNil)
theorem iget {LL : List LsI} {k : Nat} (hk : k < LL.length) : (LL.map iVal)[k * 1]? = some (iVal (LL.getD k iNil)) := by
  rw [Nat.mul_one, List.getElem?_map, List.getElem?_eq_getElem hk]
  simp [List.getD, List.getElem?_eq_getElem hk]
theorem intk {l : List Int} {k : Nat} (h : k < l.length) : (ints .i64 l)[k * 1]? = some (.int .i64 (l.getD k 0)) := by
  rw [Nat.mul_one, ints, List.getElem?_map, List.getElem?_eq_getElem h]
  simp [List.getD, List.getElem?_eq_getElem h]
theorem same9i_d {l l2 : List Int} (h1 : Bor B w0 F 1 (.slice A l.length c) l.length (ints .i64 l)) (h2 : Bor B w0 F 1 (.slice A2 l2.length c2) l2.length (ints .i64 l2)) (hl : l.length ≤ 9223372036854775807) :
    Does Try.prog B w0 28 [.slice A l.length c, .slice A2 l2.length c2] F (fun r L => r = .bool (decide (l = l2)) ∧ L = F) := by
  refine fn_walk Try.func28 26 rfl rfl rfl [(0, .slice A l.length c), (1, .slice A2 l2.length c2)] ⟨⟨rfl, rfl⟩, ⟨rfl, rfl⟩, trivial⟩ ?_
  refine vc_seq ?_
  refine vc_region ?_
  refine vl_det (det_assign rfl) rfl ?_
  refine vl_end [(0, _), (1, _)] ⟨rfl, rfl, trivial⟩ ?_
  refine then_next ?_
  refine vc_seq ?_
  refine vc_seq ?_
  refine vc_region ?_
  refine vl_det (det_move rfl) rfl ?_
  refine vl_det (det_len_sl Try.underlying37 rfl) rfl ?_
  refine vl_det (det_move rfl) rfl ?_
  refine vl_det (det_len_sl Try.underlying37 rfl) rfl ?_
  refine vl_det (det_neq rfl rfl) rfl ?_
  refine vl_end [(0, _), (1, _), (10, _)] ⟨rfl, rfl, rfl, trivial⟩ ?_
  refine then_next ?_
  refine vc_decideU rfl (fun h10 => ?_) (fun h10 => ?_)
  · skip
    refine vc_seq ?_
    refine vc_region ?_
    refine vl_det (det_assign rfl) rfl ?_
    refine vl_end [(4, _)] ⟨rfl, trivial⟩ ?_
    refine then_next ?_
    refine vc_ret ?_
    refine then_ret ?_
    refine ret1 rfl rfl ?_
    exact ⟨by rw [decide_eq_false (fun h => by rw [h] at h10; exact h10 rfl)], rfl⟩
  · skip
    refine vc_skip ?_
    refine then_next ?_
    refine vc_seq ?_
    refine vc_seq ?_
    refine vc_region ?_
    refine vl_det (det_assign rfl) rfl ?_
    refine vl_end [(0, _), (1, _), (5, _)] ⟨rfl, rfl, rfl, trivial⟩ ?_
    refine then_next ?_
    refine vc_block ?_
    refine vc_loopJ (fun zf zL zm => ∃ (k : Nat), (k ≤ l.length ∧ l.take k = l2.take k) ∧ l.length - k = zm ∧ Sub zf [(0, .slice A l.length c), (1, .slice A2 l2.length c2), (5, .int .i64 k)] ∧ Wk zL (F)) _ ⟨0, ⟨Nat.zero_le _, rfl⟩, rfl, ⟨(by first | rfl | exact int_to (by omega) | exact sl_to (by omega)), (by first | rfl | exact int_to (by omega) | exact sl_to (by omega)), (by first | rfl | exact int_to (by omega) | exact sl_to (by omega)), trivial⟩, .refl _⟩ ?_
    rintro _ _ _ ⟨k, ⟨hk, heq⟩, rfl, hs, hp⟩
    refine vc_weaken _ hs (vc_wk hp ?_)
    clear hs hp
    refine vc_seq ?_
    refine vc_seq ?_
    refine vc_region ?_
    refine vl_det (det_move rfl) rfl ?_
    refine vl_det (det_move rfl) rfl ?_
    refine vl_det (det_len_sl Try.underlying37 rfl) rfl ?_
    refine vl_det (det_lss rfl rfl) rfl ?_
    refine vl_end [(0, _), (1, _), (5, _), (14, _)] ⟨rfl, rfl, rfl, rfl, trivial⟩ ?_
    refine then_next ?_
    refine vc_decideU rfl (fun h14 => ?_) (fun h14 => ?_)
    · skip
      refine vc_skip ?_
      refine then_next ?_
      refine vc_seq ?_
      refine vc_block ?_
      refine vc_seq ?_
      refine vq_region (by kernel_rfl) (by kernel_rfl) ?_
      refine vq_det (det_move rfl) rfl ?_
      refine vq_det (det_move rfl) rfl ?_
      refine vq_det (det_indexAddr (size := 1) Try.underlying37 (by kernel_rfl) rfl rfl rfl (by omega) (by first | (exact Bor.own (by repeat (first | exact List.Mem.head _ | apply List.Mem.tail))) | (repeat (first | assumption | apply Bor.cons)))) rfl ?_
      refine vq_det (det_load_row (by kernel_rfl) rfl (by first | (exact Bor.own (by repeat (first | exact List.Mem.head _ | apply List.Mem.tail))) | (repeat (first | assumption | apply Bor.cons))) (by omega) (intk (l := l) (k := k) (by omega))) rfl ?_
      refine vq_det (det_move rfl) rfl ?_
      refine vq_det (det_move rfl) rfl ?_
      refine vq_det (det_indexAddr (size := 1) Try.underlying37 (by kernel_rfl) rfl rfl rfl (by omega) (by first | (exact Bor.own (by repeat (first | exact List.Mem.head _ | apply List.Mem.tail))) | (repeat (first | assumption | apply Bor.cons)))) rfl ?_
      refine vq_det (det_load_row (by kernel_rfl) rfl (by first | (exact Bor.own (by repeat (first | exact List.Mem.head _ | apply List.Mem.tail))) | (repeat (first | assumption | apply Bor.cons))) (by omega) (intk (l := l2) (k := k) (by omega))) rfl ?_
      refine vq_det (det_neq rfl rfl) rfl ?_
      refine vq_end [(0, _), (1, _), (5, _), (25, _)] ⟨rfl, rfl, rfl, rfl, trivial⟩ ?_
      refine then_next ?_
      refine vc_decideU rfl (fun h25 => ?_) (fun h25 => ?_)
      · skip
        refine vc_seq ?_
        refine vc_region ?_
        refine vl_det (det_assign rfl) rfl ?_
        refine vl_end [(4, _)] ⟨rfl, trivial⟩ ?_
        refine then_next ?_
        refine vc_ret ?_
        refine in_ret ?_
        refine then_ret ?_
        refine loop_ret ?_
        refine in_ret ?_
        refine then_ret ?_
        refine ret1 rfl rfl ?_
        exact ⟨by rw [decide_eq_false (fun h => by rw [h] at h25; exact h25 rfl)], rfl⟩
      · skip
        refine vc_skip ?_
        refine in_normal ?_
        refine then_next ?_
        refine vc_region ?_
        refine vl_det (det_move rfl) rfl ?_
        refine vl_det (det_add rfl rfl (w_i64 (by omega) (by omega))) rfl ?_
        refine vl_det (det_assign rfl) rfl ?_
        refine vl_end [(0, _), (1, _), (5, _)] ⟨rfl, rfl, rfl, trivial⟩ ?_
        refine in_loop_ ⟨_, by omega, k + 1, ⟨by omega, by rw [take_getD (by omega) 0, take_getD (by omega) 0, heq, show l.getD k 0 = l2.getD k 0 by omega]⟩, rfl, ⟨(by first | rfl | exact int_to (by omega) | exact sl_to (by omega)), (by first | rfl | exact int_to (by omega) | exact sl_to (by omega)), (by first | rfl | exact int_to (by omega) | exact sl_to (by omega)), trivial⟩, .refl _⟩
    · skip
      refine vc_exit ?_
      refine then_exit ?_
      refine loop_exit ?_
      refine in_eq ?_
      refine then_next ?_
      refine vc_seq ?_
      refine vc_region ?_
      refine vl_det (det_assign rfl) rfl ?_
      refine vl_end [(4, _)] ⟨rfl, trivial⟩ ?_
      refine then_next ?_
      refine vc_ret ?_
      refine ret1 rfl rfl ?_
      have e : l = l2 := by
        have := heq
        rwa [List.take_of_length_le (by omega), List.take_of_length_le (by omega)] at this
      exact ⟨by rw [decide_eq_true e], rfl⟩
theorem eqi_d {l l2 : List Int} (h1 : Bor B w0 F 1 (.slice A l.length c) l.length (ints .i64 l)) (h2 : Bor B w0 F 1 (.slice A2 l2.length c2) l2.length (ints .i64 l2)) (hl : l.length ≤ 9223372036854775807) :
    Does Try.prog B w0 47 [.slice A l.length c, .slice A2 l2.length c2] F (fun r L => r = .bool (decide (l = l2)) ∧ L = F) := by
  refine fn_walk Try.func47 26 rfl rfl rfl [(0, .slice A l.length c), (1, .slice A2 l2.length c2)] ⟨⟨rfl, rfl⟩, ⟨rfl, rfl⟩, trivial⟩ ?_
  refine vc_seq ?_
  refine vc_region ?_
  refine vl_det (det_assign rfl) rfl ?_
  refine vl_end [(0, _), (1, _)] ⟨rfl, rfl, trivial⟩ ?_
  refine then_next ?_
  refine vc_seq ?_
  refine vc_seq ?_
  refine vc_region ?_
  refine vl_det (det_move rfl) rfl ?_
  refine vl_det (det_len_sl Try.underlying37 rfl) rfl ?_
  refine vl_det (det_move rfl) rfl ?_
  refine vl_det (det_len_sl Try.underlying37 rfl) rfl ?_
  refine vl_det (det_neq rfl rfl) rfl ?_
  refine vl_end [(0, _), (1, _), (10, _)] ⟨rfl, rfl, rfl, trivial⟩ ?_
  refine then_next ?_
  refine vc_decideU rfl (fun h10 => ?_) (fun h10 => ?_)
  · skip
    refine vc_seq ?_
    refine vc_region ?_
    refine vl_det (det_assign rfl) rfl ?_
    refine vl_end [(4, _)] ⟨rfl, trivial⟩ ?_
    refine then_next ?_
    refine vc_ret ?_
    refine then_ret ?_
    refine ret1 rfl rfl ?_
    exact ⟨by rw [decide_eq_false (fun h => by rw [h] at h10; exact h10 rfl)], rfl⟩
  · skip
    refine vc_skip ?_
    refine then_next ?_
    refine vc_seq ?_
    refine vc_seq ?_
    refine vc_region ?_
    refine vl_det (det_move rfl) rfl ?_
    refine vl_det (det_len_sl Try.underlying37 rfl) rfl ?_
    refine vl_det (det_move rfl) rfl ?_
    refine vl_end [(0, _), (1, _), (12, _), (13, _)] ⟨rfl, rfl, rfl, rfl, trivial⟩ ?_
    refine then_next ?_
    refine vc_block ?_
    refine vc_loopJ (fun zf zL zm => ∃ (k : Nat), (k ≤ l.length ∧ l.take k = l2.take k) ∧ l.length - k = zm ∧ Sub zf [(0, .slice A l.length c), (1, .slice A2 l2.length c2), (12, .int .i64 l.length), (13, .int .i64 k)] ∧ Wk zL (F)) _ ⟨0, ⟨Nat.zero_le _, rfl⟩, rfl, ⟨(by first | rfl | exact int_to (by omega) | exact sl_to (by omega)), (by first | rfl | exact int_to (by omega) | exact sl_to (by omega)), (by first | rfl | exact int_to (by omega) | exact sl_to (by omega)), (by first | rfl | exact int_to (by omega) | exact sl_to (by omega)), trivial⟩, .refl _⟩ ?_
    rintro _ _ _ ⟨k, ⟨hk, heq⟩, rfl, hs, hp⟩
    refine vc_weaken _ hs (vc_wk hp ?_)
    clear hs hp
    refine vc_seq ?_
    refine vc_region ?_
    refine vl_det (det_lss rfl rfl) rfl ?_
    refine vl_end [(0, _), (1, _), (12, _), (13, _), (14, _)] ⟨rfl, rfl, rfl, rfl, rfl, trivial⟩ ?_
    refine then_next ?_
    refine vc_seq ?_
    refine vc_decideU rfl (fun h14 => ?_) (fun h14 => ?_)
    · skip
      refine vc_skip ?_
      refine then_next ?_
      refine vc_seq ?_
      refine vc_block ?_
      refine vc_seq ?_
      refine vc_region ?_
      refine vl_det (det_move rfl) rfl ?_
      refine vl_det (det_assign rfl) rfl ?_
      refine vl_end [(0, _), (1, _), (5, _), (12, _), (13, _)] ⟨rfl, rfl, rfl, rfl, rfl, trivial⟩ ?_
      refine then_next ?_
      refine vc_seq ?_
      refine vq_region (by kernel_rfl) (by kernel_rfl) ?_
      refine vq_det (det_move rfl) rfl ?_
      refine vq_det (det_move rfl) rfl ?_
      refine vq_det (det_indexAddr (size := 1) Try.underlying37 (by kernel_rfl) rfl rfl rfl (by omega) (by first | (exact Bor.own (by repeat (first | exact List.Mem.head _ | apply List.Mem.tail))) | (repeat (first | assumption | apply Bor.cons)))) rfl ?_
      refine vq_det (det_load_row (by kernel_rfl) rfl (by first | (exact Bor.own (by repeat (first | exact List.Mem.head _ | apply List.Mem.tail))) | (repeat (first | assumption | apply Bor.cons))) (by omega) (intk (l := l) (k := k) (by omega))) rfl ?_
      refine vq_det (det_move rfl) rfl ?_
      refine vq_det (det_move rfl) rfl ?_
      refine vq_det (det_indexAddr (size := 1) Try.underlying37 (by kernel_rfl) rfl rfl rfl (by omega) (by first | (exact Bor.own (by repeat (first | exact List.Mem.head _ | apply List.Mem.tail))) | (repeat (first | assumption | apply Bor.cons)))) rfl ?_
      refine vq_det (det_load_row (by kernel_rfl) rfl (by first | (exact Bor.own (by repeat (first | exact List.Mem.head _ | apply List.Mem.tail))) | (repeat (first | assumption | apply Bor.cons))) (by omega) (intk (l := l2) (k := k) (by omega))) rfl ?_
      refine vq_det (det_neq rfl rfl) rfl ?_
      refine vq_end [(0, _), (1, _), (12, _), (13, _), (24, _)] ⟨rfl, rfl, rfl, rfl, rfl, trivial⟩ ?_
      refine then_next ?_
      refine vc_decideU rfl (fun h24 => ?_) (fun h24 => ?_)
      · skip
        refine vc_seq ?_
        refine vc_region ?_
        refine vl_det (det_assign rfl) rfl ?_
        refine vl_end [(4, _)] ⟨rfl, trivial⟩ ?_
        refine then_next ?_
        refine vc_ret ?_
        refine in_ret ?_
        refine then_ret ?_
        refine loop_ret ?_
        refine in_ret ?_
        refine then_ret ?_
        refine ret1 rfl rfl ?_
        exact ⟨by rw [decide_eq_false (fun h => by rw [h] at h24; exact h24 rfl)], rfl⟩
      · skip
        refine vc_skip ?_
        refine in_normal ?_
        refine then_next ?_
        refine vc_region ?_
        refine vl_det (det_add rfl rfl (w_i64 (by omega) (by omega))) rfl ?_
        refine vl_det (det_move rfl) rfl ?_
        refine vl_end [(0, _), (1, _), (12, _), (13, _)] ⟨rfl, rfl, rfl, rfl, trivial⟩ ?_
        refine in_loop_ ⟨_, by omega, k + 1, ⟨by omega, by rw [take_getD (by omega) 0, take_getD (by omega) 0, heq, show l.getD k 0 = l2.getD k 0 by omega]⟩, rfl, ⟨(by first | rfl | exact int_to (by omega) | exact sl_to (by omega)), (by first | rfl | exact int_to (by omega) | exact sl_to (by omega)), (by first | rfl | exact int_to (by omega) | exact sl_to (by omega)), (by first | rfl | exact int_to (by omega) | exact sl_to (by omega)), trivial⟩, .refl _⟩
    · skip
      refine vc_exit ?_
      refine then_exit ?_
      refine loop_exit ?_
      refine in_eq ?_
      refine then_next ?_
      refine vc_seq ?_
      refine vc_region ?_
      refine vl_det (det_assign rfl) rfl ?_
      refine vl_end [(4, _)] ⟨rfl, trivial⟩ ?_
      refine then_next ?_
      refine vc_ret ?_
      refine ret1 rfl rfl ?_
      have e : l = l2 := by
        have := heq
        rwa [List.take_of_length_le (by omega), List.take_of_length_le (by omega)] at this
      exact ⟨by rw [decide_eq_true e], rfl⟩
theorem eqs_d {l l2 : List Txt} (h1 : Bor B w0 F 1 (.slice A l.length c) l.length (strs l)) (h2 : Bor B w0 F 1 (.slice A2 l2.length c2) l2.length (strs l2)) (hl : l.length ≤ 9223372036854775807) :
    Does Try.prog B w0 45 [.slice A l.length c, .slice A2 l2.length c2] F (fun r L => r = .bool (decide (l = l2)) ∧ L = F) := by
  refine fn_walk Try.func45 26 rfl rfl rfl [(0, .slice A l.length c), (1, .slice A2 l2.length c2)] ⟨⟨rfl, rfl⟩, ⟨rfl, rfl⟩, trivial⟩ ?_
  refine vc_seq ?_
  refine vc_region ?_
  refine vl_det (det_assign rfl) rfl ?_
  refine vl_end [(0, _), (1, _)] ⟨rfl, rfl, trivial⟩ ?_
  refine then_next ?_
  refine vc_seq ?_
  refine vc_seq ?_
  refine vc_region ?_
  refine vl_det (det_move rfl) rfl ?_
  refine vl_det (det_len_sl Try.underlying26 rfl) rfl ?_
  refine vl_det (det_move rfl) rfl ?_
  refine vl_det (det_len_sl Try.underlying26 rfl) rfl ?_
  refine vl_det (det_neq rfl rfl) rfl ?_
  refine vl_end [(0, _), (1, _), (10, _)] ⟨rfl, rfl, rfl, trivial⟩ ?_
  refine then_next ?_
  refine vc_decideU rfl (fun h10 => ?_) (fun h10 => ?_)
  · skip
    refine vc_seq ?_
    refine vc_region ?_
    refine vl_det (det_assign rfl) rfl ?_
    refine vl_end [(4, _)] ⟨rfl, trivial⟩ ?_
    refine then_next ?_
    refine vc_ret ?_
    refine then_ret ?_
    refine ret1 rfl rfl ?_
    exact ⟨by rw [decide_eq_false (fun h => by rw [h] at h10; exact h10 rfl)], rfl⟩
  · skip
    refine vc_skip ?_
    refine then_next ?_
    refine vc_seq ?_
    refine vc_seq ?_
    refine vc_region ?_
    refine vl_det (det_move rfl) rfl ?_
    refine vl_det (det_len_sl Try.underlying26 rfl) rfl ?_
    refine vl_det (det_move rfl) rfl ?_
    refine vl_end [(0, _), (1, _), (12, _), (13, _)] ⟨rfl, rfl, rfl, rfl, trivial⟩ ?_
    refine then_next ?_
    refine vc_block ?_
    refine vc_loopJ (fun zf zL zm => ∃ (k : Nat), (k ≤ l.length ∧ l.take k = l2.take k) ∧ l.length - k = zm ∧ Sub zf [(0, .slice A l.length c), (1, .slice A2 l2.length c2), (12, .int .i64 l.length), (13, .int .i64 k)] ∧ Wk zL (F)) _ ⟨0, ⟨Nat.zero_le _, rfl⟩, rfl, ⟨(by first | rfl | exact int_to (by omega) | exact sl_to (by omega)), (by first | rfl | exact int_to (by omega) | exact sl_to (by omega)), (by first | rfl | exact int_to (by omega) | exact sl_to (by omega)), (by first | rfl | exact int_to (by omega) | exact sl_to (by omega)), trivial⟩, .refl _⟩ ?_
    rintro _ _ _ ⟨k, ⟨hk, heq⟩, rfl, hs, hp⟩
    refine vc_weaken _ hs (vc_wk hp ?_)
    clear hs hp
    refine vc_seq ?_
    refine vc_region ?_
    refine vl_det (det_lss rfl rfl) rfl ?_
    refine vl_end [(0, _), (1, _), (12, _), (13, _), (14, _)] ⟨rfl, rfl, rfl, rfl, rfl, trivial⟩ ?_
    refine then_next ?_
    refine vc_seq ?_
    refine vc_decideU rfl (fun h14 => ?_) (fun h14 => ?_)
    · skip
      refine vc_skip ?_
      refine then_next ?_
      refine vc_seq ?_
      refine vc_block ?_
      refine vc_seq ?_
      refine vc_region ?_
      refine vl_det (det_move rfl) rfl ?_
      refine vl_det (det_assign rfl) rfl ?_
      refine vl_end [(0, _), (1, _), (5, _), (12, _), (13, _)] ⟨rfl, rfl, rfl, rfl, rfl, trivial⟩ ?_
      refine then_next ?_
      refine vc_seq ?_
      refine vq_region (by kernel_rfl) (by kernel_rfl) ?_
      refine vq_det (det_move rfl) rfl ?_
      refine vq_det (det_move rfl) rfl ?_
      refine vq_det (det_indexAddr (size := 1) Try.underlying26 (by kernel_rfl) rfl rfl rfl (by omega) (by first | (exact Bor.own (by repeat (first | exact List.Mem.head _ | apply List.Mem.tail))) | (repeat (first | assumption | apply Bor.cons)))) rfl ?_
      refine vq_det (det_load_str (b := l) (j := k) (by kernel_rfl) rfl (by first | (exact Bor.own (by repeat (first | exact List.Mem.head _ | apply List.Mem.tail))) | (repeat (first | assumption | apply Bor.cons))) (by omega)) rfl ?_
      refine vq_det (det_move rfl) rfl ?_
      refine vq_det (det_move rfl) rfl ?_
      refine vq_det (det_indexAddr (size := 1) Try.underlying26 (by kernel_rfl) rfl rfl rfl (by omega) (by first | (exact Bor.own (by repeat (first | exact List.Mem.head _ | apply List.Mem.tail))) | (repeat (first | assumption | apply Bor.cons)))) rfl ?_
      refine vq_det (det_load_str (b := l2) (j := k) (by kernel_rfl) rfl (by first | (exact Bor.own (by repeat (first | exact List.Mem.head _ | apply List.Mem.tail))) | (repeat (first | assumption | apply Bor.cons))) (by omega)) rfl ?_
      refine vq_det (det_s_neq rfl rfl) rfl ?_
      refine vq_end [(0, _), (1, _), (12, _), (13, _), (24, _)] ⟨rfl, rfl, rfl, rfl, rfl, trivial⟩ ?_
      refine then_next ?_
      refine vc_decideU rfl (fun h24 => ?_) (fun h24 => ?_)
      · skip
        refine vc_seq ?_
        refine vc_region ?_
        refine vl_det (det_assign rfl) rfl ?_
        refine vl_end [(4, _)] ⟨rfl, trivial⟩ ?_
        refine then_next ?_
        refine vc_ret ?_
        refine in_ret ?_
        refine then_ret ?_
        refine loop_ret ?_
        refine in_ret ?_
        refine then_ret ?_
        refine ret1 rfl rfl ?_
        exact ⟨by rw [decide_eq_false (fun h => by rw [h] at h24; exact h24 rfl)], rfl⟩
      · skip
        refine vc_skip ?_
        refine in_normal ?_
        refine then_next ?_
        refine vc_region ?_
        refine vl_det (det_add rfl rfl (w_i64 (by omega) (by omega))) rfl ?_
        refine vl_det (det_move rfl) rfl ?_
        refine vl_end [(0, _), (1, _), (12, _), (13, _)] ⟨rfl, rfl, rfl, rfl, trivial⟩ ?_
        refine in_loop_ ⟨_, by omega, k + 1, ⟨by omega, by rw [take_getD (by omega) [], take_getD (by omega) [], heq, Classical.not_not.1 h24]⟩, rfl, ⟨(by first | rfl | exact int_to (by omega) | exact sl_to (by omega)), (by first | rfl | exact int_to (by omega) | exact sl_to (by omega)), (by first | rfl | exact int_to (by omega) | exact sl_to (by omega)), (by first | rfl | exact int_to (by omega) | exact sl_to (by omega)), trivial⟩, .refl _⟩
    · skip
      refine vc_exit ?_
      refine then_exit ?_
      refine loop_exit ?_
      refine in_eq ?_
      refine then_next ?_
      refine vc_seq ?_
      refine vc_region ?_
      refine vl_det (det_assign rfl) rfl ?_
      refine vl_end [(4, _)] ⟨rfl, trivial⟩ ?_
      refine then_next ?_
      refine vc_ret ?_
      refine ret1 rfl rfl ?_
      have e : l = l2 := by
        have := heq
        rwa [List.take_of_length_le (by omega), List.take_of_length_le (by omega)] at this
      exact ⟨by rw [decide_eq_true e], rfl⟩
def idsI (LL : List LsI) : List (List Int) := LL.map (·.2.2)
theorem ids_take {L1 L2 : List LsI} {k : Nat} (h : (idsI L1).take k = (idsI L2).take k) (h1 : k < L1.length) (h2 : k < L2.length) (he : (L1.getD k iNil).2.2 = (L2.getD k iNil).2.2) : (idsI L1).take (k + 1) = (idsI L2).take (k + 1) := by
  have hg : ∀ (L : List LsI) (hk : k < L.length), (idsI L)[k]? = some (L.getD k iNil).2.2 := fun L hk => by
    rw [idsI, List.getElem?_map, List.getElem?_eq_getElem hk]; simp [List.getD, List.getElem?_eq_getElem hk]
  rw [List.take_add_one, List.take_add_one, h, hg L1 h1, hg L2 h2, he]
theorem rsame18_d {T1 T2 : List Txt} {L1 L2 : List LsI} (h1 : Bor B w0 F 1 (.slice A1 T1.length c1) T1.length (strs T1)) (hL1 : Bor B w0 F 1 (.slice B1 L1.length b1) L1.length (L1.map iVal)) (hI1 : LsBor B w0 F L1)
    (h2 : Bor B w0 F 1 (.slice A2 T2.length c2) T2.length (strs T2)) (hL2 : Bor B w0 F 1 (.slice B2 L2.length b2) L2.length (L2.map iVal)) (hI2 : LsBor B w0 F L2) (hs : T1.length ≤ 1000000000) (hs2 : L1.length ≤ 1000000000) (hs3 : ∀ e ∈ L1, e.2.2.length ≤ 9223372036854775807) :
    Does Try.prog B w0 11 [.agg [.slice A1 T1.length c1, .slice B1 L1.length b1].toArray, .agg [.slice A2 T2.length c2, .slice B2 L2.length b2].toArray] F (fun r L => r = .bool (decide (T1 = T2 ∧ idsI L1 = idsI L2)) ∧ L = F) := by
  refine fn_walk Try.func11 40 rfl rfl rfl [(0, .agg [.slice A1 T1.length c1, .slice B1 L1.length b1].toArray), (1, .agg [.slice A2 T2.length c2, .slice B2 L2.length b2].toArray)] ⟨⟨rfl, rfl⟩, ⟨rfl, rfl⟩, trivial⟩ ?_
  refine vc_seq ?_
  refine vc_region ?_
  refine vl_eff (eff_box rfl rfl) rfl ?_
  rintro _ _ ⟨g2, rfl, rfl⟩
  refine vl_eff (eff_box rfl rfl) rfl ?_
  rintro _ _ ⟨g3, rfl, rfl⟩
  refine vl_det (det_assign rfl) rfl ?_
  refine vl_end [(2, _), (3, _)] ⟨rfl, rfl, trivial⟩ ?_
  refine then_next ?_
  refine vc_seq ?_
  refine vc_seq ?_
  refine vc_region ?_
  refine vl_cut 15 20 [(2, _), (3, _)] (¬ T1 = T2 ∨ ¬ (L1.length : Int) = L2.length) ⟨rfl, rfl, trivial⟩ ?_ ?_
  · skip
    refine vl_det (det_fieldAddr_ Try.underlying29 rfl (by kernel_rfl) rfl rfl) rfl ?_
    refine vl_det (det_load_blk (by kernel_rfl) rfl (by repeat (first | exact .hd | apply Sel.tl)) rfl) rfl ?_
    refine vl_det (det_fieldAddr_ Try.underlying29 rfl (by kernel_rfl) rfl rfl) rfl ?_
    refine vl_det (det_load_blk (by kernel_rfl) rfl (by repeat (first | exact .hd | apply Sel.tl)) rfl) rfl ?_
    refine vl_call co27 rfl (same15_d (by first | (exact Bor.own (by repeat (first | exact List.Mem.head _ | apply List.Mem.tail))) | (repeat (first | assumption | apply Bor.cons))) (by first | (exact Bor.own (by repeat (first | exact List.Mem.head _ | apply List.Mem.tail))) | (repeat (first | assumption | apply Bor.cons))) (by omega)) rfl ?_
    rintro _ _ ⟨rfl, hLL⟩
    obtain rfl := hLL.symm
    refine vl_det (det_notd rfl) rfl ?_
    refine vl_det (det_move rfl) rfl ?_
    refine vl_guardn rfl rfl rfl (fun h12 => ?_) (fun h12 => ?_)
    · skip
      refine vl_det (det_fieldAddr_ Try.underlying29 rfl (by kernel_rfl) rfl rfl) rfl ?_
      refine vl_guard_t rfl rfl ?_
      refine vl_det (det_load_blk (by kernel_rfl) rfl (by repeat (first | exact .hd | apply Sel.tl)) rfl) rfl ?_
      refine vl_guard_t rfl rfl ?_
      refine vl_det (det_len_sl Try.underlying27 rfl) rfl ?_
      refine vl_guard_t rfl rfl ?_
      refine vl_det (det_fieldAddr_ Try.underlying29 rfl (by kernel_rfl) rfl rfl) rfl ?_
      refine vl_guard_t rfl rfl ?_
      refine vl_det (det_load_blk (by kernel_rfl) rfl (by repeat (first | exact .hd | apply Sel.tl)) rfl) rfl ?_
      refine vl_guard_t rfl rfl ?_
      refine vl_det (det_len_sl Try.underlying27 rfl) rfl ?_
      refine vl_guard_t rfl rfl ?_
      refine vl_det (det_neq rfl rfl) rfl ?_
      refine vl_det (det_pick_f rfl rfl) rfl ?_
      exact vl_cut_end ⟨rfl, rfl, trivial⟩ (by first | rfl | exact bool_to_t (by first | omega | simp_all) | exact bool_to_f (by first | omega | simp_all) | exact bool_to (by first | omega | simp_all) | exact bool_to_b (by first | omega | simp_all))
    · skip
      refine vl_guard_f rfl rfl rfl rfl ?_
      refine vl_guard_f rfl rfl rfl rfl ?_
      refine vl_guard_f rfl rfl rfl rfl ?_
      refine vl_guard_f rfl rfl rfl rfl ?_
      refine vl_guard_f rfl rfl rfl rfl ?_
      refine vl_guard_f rfl rfl rfl rfl ?_
      refine vl_det (det_pick_t rfl rfl) rfl ?_
      exact vl_cut_end ⟨rfl, rfl, trivial⟩ (by first | rfl | exact bool_to_t (by first | omega | simp_all) | exact bool_to_f (by first | omega | simp_all) | exact bool_to (by first | omega | simp_all) | exact bool_to_b (by first | omega | simp_all))
  · skip
    refine vl_end [(2, _), (3, _), (20, _)] ⟨rfl, rfl, rfl, trivial⟩ ?_
    refine then_next ?_
    refine vc_decideU rfl (fun h20 => ?_) (fun h20 => ?_)
    · skip
      refine vc_seq ?_
      refine vc_region ?_
      refine vl_det (det_assign rfl) rfl ?_
      refine vl_end [(4, _)] ⟨rfl, trivial⟩ ?_
      refine then_next ?_
      refine vc_ret ?_
      refine then_ret ?_
      refine ret_wk (L' := F) (.skip (.skip (.refl _))) ?_
      refine ret1 rfl rfl ?_
      exact ⟨by rw [decide_eq_false fun h => h20.elim (fun q => q h.1) fun q => q (by have := congrArg List.length h.2; simp only [idsI, List.length_map] at this; omega)], rfl⟩
    · skip
      refine vc_skip ?_
      refine then_next ?_
      refine vc_seq ?_
      refine vc_seq ?_
      refine vc_region ?_
      refine vl_det (det_assign rfl) rfl ?_
      refine vl_end [(2, _), (3, _), (5, _)] ⟨rfl, rfl, rfl, trivial⟩ ?_
      refine then_next ?_
      refine vc_block ?_
      refine vc_loopJ (fun zf zL zm => ∃ (k : Nat), (k ≤ L1.length ∧ (idsI L1).take k = (idsI L2).take k) ∧ L1.length - k = zm ∧ Sub zf [(2, .pointer (some ⟨g2, 0, none⟩)), (3, .pointer (some ⟨g3, 0, none⟩)), (5, .int .i64 k)] ∧ Wk zL (.blk g3 29 [.slice A2 T2.length c2, .slice B2 L2.length b2] :: .blk g2 29 [.slice A1 T1.length c1, .slice B1 L1.length b1] :: F)) _ ⟨0, ⟨Nat.zero_le _, rfl⟩, rfl, ⟨(by first | rfl | exact int_to (by omega) | exact sl_to (by omega)), (by first | rfl | exact int_to (by omega) | exact sl_to (by omega)), (by first | rfl | exact int_to (by omega) | exact sl_to (by omega)), trivial⟩, .refl _⟩ ?_
      rintro _ _ _ ⟨k, ⟨hk, heq⟩, rfl, hs, hp⟩
      refine vc_weaken _ hs (vc_wk hp ?_)
      clear hs hp
      refine vc_seq ?_
      refine vc_seq ?_
      refine vc_region ?_
      refine vl_det (det_move rfl) rfl ?_
      refine vl_det (det_fieldAddr_ Try.underlying29 rfl (by kernel_rfl) rfl rfl) rfl ?_
      refine vl_det (det_load_blk (by kernel_rfl) rfl (by repeat (first | exact .hd | apply Sel.tl)) rfl) rfl ?_
      refine vl_det (det_len_sl Try.underlying27 rfl) rfl ?_
      refine vl_det (det_lss rfl rfl) rfl ?_
      refine vl_end [(2, _), (3, _), (5, _), (25, _)] ⟨rfl, rfl, rfl, rfl, trivial⟩ ?_
      refine then_next ?_
      refine vc_decideU rfl (fun h25 => ?_) (fun h25 => ?_)
      · skip
        have hk1 : k < L1.length := by omega
        have hk2 : k < L2.length := by omega
        have hi1 := hI1.get hk1
        have hi2 := hI2.get hk2
        have hl1 := hs3 _ (getD_mem hk1 iNil)
        refine vc_skip ?_
        refine then_next ?_
        refine vc_seq ?_
        refine vc_block ?_
        refine vc_seq ?_
        refine vq_region (by kernel_rfl) (by kernel_rfl) ?_
        refine vq_det (det_fieldAddr_ Try.underlying29 rfl (by kernel_rfl) rfl rfl) rfl ?_
        refine vq_det (det_load_blk (by kernel_rfl) rfl (by repeat (first | exact .hd | apply Sel.tl)) rfl) rfl ?_
        refine vq_det (det_move rfl) rfl ?_
        refine vq_det (det_indexAddr (size := 1) Try.underlying27 (by kernel_rfl) rfl rfl rfl (by omega) (by first | (exact Bor.own (by repeat (first | exact List.Mem.head _ | apply List.Mem.tail))) | (repeat (first | assumption | apply Bor.cons)))) rfl ?_
        refine vq_det (det_load_row (by kernel_rfl) rfl (by first | (exact Bor.own (by repeat (first | exact List.Mem.head _ | apply List.Mem.tail))) | (repeat (first | assumption | apply Bor.cons))) (by omega) (iget hk1)) rfl ?_
        refine vq_det (det_fieldAddr_ Try.underlying29 rfl (by kernel_rfl) rfl rfl) rfl ?_
        refine vq_det (det_load_blk (by kernel_rfl) rfl (by repeat (first | exact .hd | apply Sel.tl)) rfl) rfl ?_
        refine vq_det (det_move rfl) rfl ?_
        refine vq_det (det_indexAddr (size := 1) Try.underlying27 (by kernel_rfl) rfl rfl rfl (by omega) (by first | (exact Bor.own (by repeat (first | exact List.Mem.head _ | apply List.Mem.tail))) | (repeat (first | assumption | apply Bor.cons)))) rfl ?_
        refine vq_det (det_load_row (by kernel_rfl) rfl (by first | (exact Bor.own (by repeat (first | exact List.Mem.head _ | apply List.Mem.tail))) | (repeat (first | assumption | apply Bor.cons))) (by omega) (iget hk2)) rfl ?_
        refine vq_call co28 rfl (same9i_d (by first | (exact Bor.own (by repeat (first | exact List.Mem.head _ | apply List.Mem.tail))) | (repeat (first | assumption | apply Bor.cons))) (by first | (exact Bor.own (by repeat (first | exact List.Mem.head _ | apply List.Mem.tail))) | (repeat (first | assumption | apply Bor.cons))) hl1) (by rintro _ _ ⟨rfl, rfl⟩; exact ⟨rfl, List.Sublist.refl _⟩) rfl ?_
        refine vq_det (det_notd rfl) rfl ?_
        refine vq_end [(2, _), (3, _), (5, _), (39, _)] ⟨rfl, rfl, rfl, rfl, trivial⟩ ?_
        refine then_next ?_
        refine vc_decideU rfl (fun h39 => ?_) (fun h39 => ?_)
        · skip
          refine vc_seq ?_
          refine vc_region ?_
          refine vl_det (det_assign rfl) rfl ?_
          refine vl_end [(4, _)] ⟨rfl, trivial⟩ ?_
          refine then_next ?_
          refine vc_ret ?_
          refine in_ret ?_
          refine then_ret ?_
          refine loop_ret ?_
          refine in_ret ?_
          refine then_ret ?_
          refine ret_wk (L' := F) (.skip (.skip (.refl _))) ?_
          refine ret1 rfl rfl ?_
          exact ⟨by
            rw [decide_eq_false]
            rintro ⟨_, h⟩
            refine h39 ?_
            have := congrArg (fun l => l.getD k []) h
            simpa [idsI, List.getD, List.getElem?_map, List.getElem?_eq_getElem hk1, List.getElem?_eq_getElem hk2] using this, rfl⟩
        · skip
          refine vc_skip ?_
          refine in_normal ?_
          refine then_next ?_
          refine vc_region ?_
          refine vl_det (det_move rfl) rfl ?_
          refine vl_det (det_add rfl rfl (w_i64 (by omega) (by omega))) rfl ?_
          refine vl_det (det_assign rfl) rfl ?_
          refine vl_end [(2, _), (3, _), (5, _)] ⟨rfl, rfl, rfl, trivial⟩ ?_
          refine in_loop_ ⟨_, by omega, k + 1, ⟨by omega, ids_take heq hk1 hk2 (Classical.not_not.1 h39)⟩, rfl, ⟨(by first | rfl | exact int_to (by omega) | exact sl_to (by omega)), (by first | rfl | exact int_to (by omega) | exact sl_to (by omega)), (by first | rfl | exact int_to (by omega) | exact sl_to (by omega)), trivial⟩, .refl _⟩
      · skip
        refine vc_exit ?_
        refine then_exit ?_
        refine loop_exit ?_
        refine in_eq ?_
        refine then_next ?_
        refine vc_seq ?_
        refine vc_region ?_
        refine vl_det (det_assign rfl) rfl ?_
        refine vl_end [(4, _)] ⟨rfl, trivial⟩ ?_
        refine then_next ?_
        refine vc_ret ?_
        refine ret_wk (L' := F) (.skip (.skip (.refl _))) ?_
        refine ret1 rfl rfl ?_
        exact ⟨by
          have h3 : T1 = T2 := Classical.not_not.1 fun q => h20 (.inl q)
          have h4 : idsI L1 = idsI L2 := by
            have := heq
            rwa [List.take_of_length_le (by simp only [idsI, List.length_map]; omega), List.take_of_length_le (by simp only [idsI, List.length_map]; omega)] at this
          rw [decide_eq_true ⟨h3, h4⟩], rfl⟩
theorem rsame18_n {m1 m2 : Nat} {T1 T2 : List Txt} {L1 L2 : List LsI} (e1 : L1.length = m1) (e2 : L2.length = m2) (h1 : Bor B w0 F 1 (.slice A1 T1.length c1) T1.length (strs T1)) (hL1 : Bor B w0 F 1 (.slice B1 m1 b1) m1 (L1.map iVal)) (hI1 : LsBor B w0 F L1)
    (h2 : Bor B w0 F 1 (.slice A2 T2.length c2) T2.length (strs T2)) (hL2 : Bor B w0 F 1 (.slice B2 m2 b2) m2 (L2.map iVal)) (hI2 : LsBor B w0 F L2) (hs : T1.length ≤ 1000000000) (hs2 : m1 ≤ 1000000000) (hs3 : ∀ e ∈ L1, e.2.2.length ≤ 9223372036854775807) :
    Does Try.prog B w0 11 [.agg [.slice A1 T1.length c1, .slice B1 m1 b1].toArray, .agg [.slice A2 T2.length c2, .slice B2 m2 b2].toArray] F (fun r L => r = .bool (decide (T1 = T2 ∧ idsI L1 = idsI L2)) ∧ L = F) := by
  subst e1; subst e2
  exact rsame18_d h1 hL1 hI1 h2 hL2 hI2 hs hs2 hs3
end Go.Proofs.Ytpamjobiohbibaa
namespace Go.Proofs.Ytpamjobiohbibaa
open Go.RowKit
set_option linter.unusedVariables false
set_option maxRecDepth 20000
variable {B : Nat} {w0 : World} {F : List Ch} {A A1 A2 B1 B2 : Option Addr} {n c c1 c2 b1 b2 g : Nat}
theorem wlen (L : List RecC) : L.length ≤ wsum L := by
  induction L with
  | nil => simp [wsum]
  | cons x r ih => simp only [wsum, List.map_cons, List.sum_cons, List.length_cons] at ih ⊢; unfold RecC.w at *; omega
theorem rtrm_d {x : RecC} (hx : x.w ≤ 1000000) : Does Try.prog B w0 31 [.agg (RecC.cells x).toArray] F (fun r L => ∃ A c, r = .slice A (trm x).length c ∧ L = .own 9 1 A (trm x).length c (strs (trm x)) :: F) := by
  obtain ⟨tm, lv, src, txt⟩ := x
  unfold RecC.w at hx
  exact rterms_d txt src (by simp only at hx; omega) (by simp only at hx; omega)
theorem wk_row (P : List Ch) {LL : List Lst} {e : Lst} : Wk (lRow e :: (P ++ (LL.map lRow ++ F))) (P ++ ((LL ++ [e]).map lRow ++ F)) := by
  refine .of_perm ?_
  rw [List.map_append, List.append_assoc, ← List.append_assoc, ← List.append_assoc]
  exact List.perm_middle.symm
theorem bld_step {f : Nat → List Txt} {i j : Nat} {o : List Txt} (h : o = setT ((List.range i).flatMap f ++ (f i).take j)) (hj : j < (f i).length) : putL o ((f i).getD j []) = setT ((List.range i).flatMap f ++ (f i).take (j + 1)) := by
  rw [h, putL_set, List.append_assoc]
  congr 2
  rw [List.take_add_one, List.getElem?_eq_getElem hj]
  simp [List.getD, List.getElem?_eq_getElem hj]
theorem bld_next {f : Nat → List Txt} {i : Nat} : setT ((List.range i).flatMap f ++ (f i).take (f i).length) = setT ((List.range (i + 1)).flatMap f ++ (f (i + 1)).take 0) := by
  rw [List.take_length, List.take_zero, List.append_nil, List.range_succ, List.flatMap_append]
  simp
theorem bldT_len (L : List RecC) : ∀ i, i ≤ L.length → ((List.range i).flatMap (tmF L)).length ≤ wsum (L.take i)
  | 0, _ => by simp
  | i + 1, h => by
    have ih := bldT_len L i (by omega)
    have hw := wsum_take (L := L) (k := i) (by omega)
    have := trm_len (recAt L i)
    rw [List.range_succ, List.flatMap_append, List.length_append, hw]
    simp only [List.flatMap_cons, List.flatMap_nil, List.append_nil]
    show _ + (trm (recAt L i)).length ≤ _
    omega
theorem wle {L : List RecC} {i : Nat} (h : i < L.length) : (recAt L i).w ≤ wsum L := by
  have h1 := wsum_take h
  have h2 := wsum_le L (i + 1)
  omega
theorem rbuild_d {L : List RecC} (hb : Bor B w0 F 4 (.slice A L.length c) L.length (recs L)) (hw : wsum L ≤ 1000000) :
    Does Try.prog B w0 13 [.slice A L.length c] F (fun r K => ∃ (A1 : Option Addr) (c1 : Nat) (A2 : Option Addr) (c2 : Nat) (LL : List Lst), r = .agg [.slice A1 (bldT (tmF L) L.length).length c1, .slice A2 (bldT (tmF L) L.length).length c2].toArray ∧
      K = .own 9 1 A1 (bldT (tmF L) L.length).length c1 (strs (bldT (tmF L) L.length)) :: .own 37 1 A2 (bldT (tmF L) L.length).length c2 (LL.map lVal) :: (LL.map lRow ++ F) ∧ LL.map (·.2.2) = bldL (tmF L) L.length) := by
  have hll := wlen L
  have hbl := bldT_len L L.length (Nat.le_refl _)
  rw [List.take_length] at hbl
  have hs0 : setT [] = [] := setT_uniq StT.nil (by simp)
  refine fn_walk Try.func13 71 rfl rfl rfl [(0, .slice A L.length c)] ⟨⟨rfl, rfl⟩, trivial⟩ ?_
  refine vc_seq ?_
  refine vc_region ?_
  refine vl_eff (eff_alloc_z (zv := (.agg #[.slice none 0 0, .slice none 0 0])) (by kernel_rfl) rfl) rfl ?_
  rintro _ _ ⟨g2, rfl, rfl⟩
  refine vl_end [(0, _), (2, _)] ⟨rfl, rfl, trivial⟩ ?_
  refine then_next ?_
  refine vc_seq ?_
  refine vc_region ?_
  refine vl_det (det_build0 [.slice none 0 0, .slice none 0 0] (by kernel_rfl)) rfl ?_
  refine vl_eff (eff_alloc_z (zv := (.agg #[.slice none 0 0, .slice none 0 0])) (by kernel_rfl) rfl) rfl ?_
  rintro _ _ ⟨g3, rfl, rfl⟩
  refine vl_eff0 (eff_store_whole 2 (by kernel_rfl) rfl rfl (by first | exact bv_one _ | exact strs_one _ | exact ints_one _ _ | (simp; done) | (simp [Value.oneCell']; done) | assumption) (by repeat (first | exact .hd | apply Sel.tl)) (by first | rfl | (simp; omega) | (simp [*]; done)) (by first | rfl | (simp; omega) | (simp [*]; done))) ?_
  rintro _ _ rfl
  refine vl_end [(0, _), (2, _), (3, _)] ⟨rfl, rfl, rfl, trivial⟩ ?_
  refine then_next ?_
  refine vc_seq ?_
  refine vc_seq ?_
  refine vc_region ?_
  refine vl_det (det_assign rfl) rfl ?_
  refine vl_end [(0, _), (2, _), (3, _), (4, _)] ⟨rfl, rfl, rfl, rfl, trivial⟩ ?_
  refine then_next ?_
  refine vc_block ?_
  refine vc_nil_row 9 1 none ?_
  refine vc_loopJ (fun zf zL zm => ∃ (i : Nat) (o : List Txt) (A3 : Option Addr) (c3 : Nat), (i ≤ L.length ∧ o = setT ((List.range i).flatMap (tmF L) ++ (tmF L i).take 0)) ∧ L.length - i = zm ∧ Sub zf [(0, .slice A L.length c), (2, .pointer (some ⟨g2, 0, none⟩)), (3, .pointer (some ⟨g3, 0, none⟩)), (4, .int .i64 i)] ∧ Wk zL (.own 9 1 A3 o.length c3 (strs o) :: .blk g3 29 [.slice A3 o.length c3, .slice none 0 0] :: .blk g2 29 [.slice none 0 0, .slice none 0 0] :: F)) _ ⟨0, [], none, 0, ⟨Nat.zero_le _, by simp [hs0]⟩, rfl, ⟨(by first | rfl | exact int_to (by omega) | exact sl_to (by omega)), (by first | rfl | exact int_to (by omega) | exact sl_to (by omega)), (by first | rfl | exact int_to (by omega) | exact sl_to (by omega)), (by first | rfl | exact int_to (by omega) | exact sl_to (by omega)), trivial⟩, .refl _⟩ ?_
  rintro _ _ _ ⟨i, o, A3, c3, ⟨hi, ho⟩, rfl, hs, hp⟩
  refine vc_weaken _ hs (vc_wk hp ?_)
  clear hs hp
  refine vc_seq ?_
  refine vc_seq ?_
  refine vc_region ?_
  refine vl_det (det_move rfl) rfl ?_
  refine vl_det (det_move rfl) rfl ?_
  refine vl_det (det_len_sl Try.underlying22 rfl) rfl ?_
  refine vl_det (det_lss rfl rfl) rfl ?_
  refine vl_end [(0, _), (2, _), (3, _), (4, _), (14, _)] ⟨rfl, rfl, rfl, rfl, rfl, trivial⟩ ?_
  refine then_next ?_
  refine vc_decideU rfl (fun h14 => ?_) (fun h14 => ?_)
  · skip
    have hrc := rec_cells (L := L) (k := i) (by omega)
    have hwi := wle (L := L) (i := i) (by omega)
    have hib := bldT_len L (i + 1) (by omega)
    have hiw := wsum_le L (i + 1)
    refine vc_skip ?_
    refine then_next ?_
    refine vc_seq ?_
    refine vc_block ?_
    refine vc_seq ?_
    refine vc_region ?_
    refine vl_det (det_move rfl) rfl ?_
    refine vl_det (det_move rfl) rfl ?_
    refine vl_det (det_indexAddr (size := 4) Try.underlying22 (by kernel_rfl) rfl rfl rfl (by omega) (by first | (exact Bor.own (by repeat (first | exact List.Mem.head _ | apply List.Mem.tail))) | (repeat (first | assumption | apply Bor.cons)))) rfl ?_
    refine vl_det (det_load_rowa 4 (by kernel_rfl) rfl (by first | (exact Bor.own (by repeat (first | exact List.Mem.head _ | apply List.Mem.tail))) | (repeat (first | assumption | apply Bor.cons))) (by omega) (RecC.cells (recAt L i)) hrc rfl) rfl ?_
    refine vl_call co31 rfl (rtrm_d (x := recAt L i) (by omega)) rfl ?_
    rintro _ _ ⟨A21, c21, rfl, hLL⟩
    obtain rfl := hLL.symm
    refine vl_det (det_assign rfl) rfl ?_
    refine vl_end [(0, _), (2, _), (3, _), (4, _), (5, _)] ⟨rfl, rfl, rfl, rfl, rfl, trivial⟩ ?_
    refine then_next ?_
    refine vc_seq ?_
    refine vc_region ?_
    refine vl_det (det_assign rfl) rfl ?_
    refine vl_end [(0, _), (2, _), (3, _), (4, _), (5, _), (6, _)] ⟨rfl, rfl, rfl, rfl, rfl, rfl, trivial⟩ ?_
    refine then_next ?_
    refine vc_block ?_
    refine vc_loopJ (fun zf zL zm => ∃ (j : Nat) (o2 : List Txt) (A4 : Option Addr) (c4 : Nat), (j ≤ (tmF L i).length ∧ o2 = setT ((List.range i).flatMap (tmF L) ++ (tmF L i).take j)) ∧ (tmF L i).length - j = zm ∧ Sub zf [(0, .slice A L.length c), (2, .pointer (some ⟨g2, 0, none⟩)), (3, .pointer (some ⟨g3, 0, none⟩)), (4, .int .i64 i), (5, .slice A21 (tmF L i).length c21), (6, .int .i64 j)] ∧ Wk zL (.own 9 1 A4 o2.length c4 (strs o2) :: .blk g3 29 [.slice A4 o2.length c4, .slice none 0 0] :: .own 9 1 A21 (tmF L i).length c21 (strs (tmF L i)) :: .blk g2 29 [.slice none 0 0, .slice none 0 0] :: F)) _ ⟨0, o, A3, c3, ⟨Nat.zero_le _, ho⟩, rfl, ⟨(by first | rfl | exact int_to (by omega) | exact sl_to (by omega)), (by first | rfl | exact int_to (by omega) | exact sl_to (by omega)), (by first | rfl | exact int_to (by omega) | exact sl_to (by omega)), (by first | rfl | exact int_to (by omega) | exact sl_to (by omega)), (by first | rfl | exact int_to (by omega) | exact sl_to (by omega)), (by first | rfl | exact int_to (by omega) | exact sl_to (by omega)), trivial⟩, (wu1 (wu1 (wu0 (wu0 (.refl _)))))⟩ ?_
    rintro _ _ _ ⟨j, o2, A4, c4, ⟨hj, ho2⟩, rfl, hs, hp⟩
    refine vc_weaken _ hs (vc_wk hp ?_)
    clear hs hp
    refine vc_seq ?_
    refine vc_seq ?_
    refine vc_region ?_
    refine vl_det (det_move rfl) rfl ?_
    refine vl_det (det_move rfl) rfl ?_
    refine vl_det (det_len_sl Try.underlying26 rfl) rfl ?_
    refine vl_det (det_lss rfl rfl) rfl ?_
    refine vl_end [(0, _), (2, _), (3, _), (4, _), (5, _), (6, _), (25, _)] ⟨rfl, rfl, rfl, rfl, rfl, rfl, rfl, trivial⟩ ?_
    refine then_next ?_
    refine vc_decideU rfl (fun h25 => ?_) (fun h25 => ?_)
    · skip
      have htl : (tmF L i).length ≤ wsum L := Nat.le_trans (trm_len _) (wle (by omega))
      have hoS : StT o2 := ho2 ▸ setT_st _
      have hol : o2.length ≤ wsum L := by
        have h1 := setT_len ((List.range i).flatMap (tmF L) ++ (tmF L i).take j)
        rw [← ho2, List.length_append, List.length_take] at h1
        rw [List.range_succ, List.flatMap_append, List.length_append] at hib
        simp only [List.flatMap_cons, List.flatMap_nil, List.append_nil] at hib
        omega
      refine vc_skip ?_
      refine then_next ?_
      refine vc_seq ?_
      refine vc_block ?_
      refine vh_region (S := .own 9 1 A21 (tmF L i).length c21 (strs (tmF L i)) :: []) (by kernel_rfl) (by repeat (first | exact List.Sublist.refl _ | exact List.nil_sublist _ | apply List.Sublist.cons_cons | apply List.Sublist.cons)) ?_
      refine vh_take 0 rfl (by kernel_rfl) (by kernel_rfl) (by kernel_rfl) (det_fieldAddr_ Try.underlying29 rfl (by kernel_rfl) rfl rfl) rfl ?_
      refine vh_take 2 rfl (by kernel_rfl) (by kernel_rfl) (by kernel_rfl) (det_move rfl) rfl ?_
      refine vh_take 3 rfl (by kernel_rfl) (by kernel_rfl) (by kernel_rfl) (det_move rfl) rfl ?_
      refine vh_take 4 rfl (by kernel_rfl) (by kernel_rfl) (by kernel_rfl) (det_indexAddr (size := 1) Try.underlying26 (by kernel_rfl) rfl rfl rfl (by omega) (by first | (exact Bor.own (by repeat (first | exact List.Mem.head _ | apply List.Mem.tail))) | (repeat (first | assumption | apply Bor.cons)))) rfl ?_
      refine vh_take 5 rfl (by kernel_rfl) (by kernel_rfl) (by kernel_rfl) (det_load_str (b := tmF L i) (j := j) (by kernel_rfl) rfl (by first | (exact Bor.own (by repeat (first | exact List.Mem.head _ | apply List.Mem.tail))) | (repeat (first | assumption | apply Bor.cons))) (by omega)) rfl ?_
      refine vh_one 1 (by kernel_rfl) ?_
      refine st_det rfl .no (det_load_blk (by kernel_rfl) rfl (by repeat (first | exact .hd | apply Sel.tl)) rfl) rfl (by repeat (first | exact List.Sublist.refl _ | exact List.nil_sublist _ | apply List.Sublist.cons_cons | apply List.Sublist.cons)) ?_
      refine vh_one 6 (by kernel_rfl) ?_
      refine st_call rfl .no co32 rfl (rputT_d hoS (by omega) ((tmF L i).getD j [])) rfl (by rintro _ _ ⟨A34, c34, rfl, rfl⟩; exact (by repeat (first | exact List.Sublist.refl _ | exact List.nil_sublist _ | apply List.Sublist.cons_cons | apply List.Sublist.cons))) ?_
      rintro _ _ ⟨A34, c34, rfl, hLL⟩
      obtain rfl := hLL.symm
      refine vh_take 7 rfl (by kernel_rfl) (by kernel_rfl) (by kernel_rfl) (det_fieldAddr_ Try.underlying29 rfl (by kernel_rfl) rfl rfl) rfl ?_
      refine vh_one 8 (by kernel_rfl) ?_
      refine st_eff0 rfl .no (eff_store (by kernel_rfl) rfl rfl rfl (by repeat (first | exact .hd | apply Sel.tl)) (by simp)) (by rintro _ _ rfl; exact (by repeat (first | exact List.Sublist.refl _ | exact List.nil_sublist _ | apply List.Sublist.cons_cons | apply List.Sublist.cons))) ?_
      rintro _ _ rfl
      refine vh_done [(0, _), (2, _), (3, _), (4, _), (5, _), (6, _)] ⟨rfl, rfl, rfl, rfl, rfl, rfl, trivial⟩ (by kernel_rfl) ?_
      refine in_normal ?_
      refine then_next ?_
      refine vc_region ?_
      refine vl_det (det_move rfl) rfl ?_
      refine vl_det (det_add rfl rfl (w_i64 (by omega) (by omega))) rfl ?_
      refine vl_det (det_assign rfl) rfl ?_
      refine vl_end [(0, _), (2, _), (3, _), (4, _), (5, _), (6, _)] ⟨rfl, rfl, rfl, rfl, rfl, rfl, trivial⟩ ?_
      refine in_loop_ ⟨_, by omega, j + 1, putL o2 ((tmF L i).getD j []), A34, c34, ⟨by omega, bld_step ho2 (by omega)⟩, rfl, ⟨(by first | rfl | exact int_to (by omega) | exact sl_to (by omega)), (by first | rfl | exact int_to (by omega) | exact sl_to (by omega)), (by first | rfl | exact int_to (by omega) | exact sl_to (by omega)), (by first | rfl | exact int_to (by omega) | exact sl_to (by omega)), (by first | rfl | exact int_to (by omega) | exact sl_to (by omega)), (by first | rfl | exact int_to (by omega) | exact sl_to (by omega)), trivial⟩, .refl _⟩
    · skip
      obtain rfl : j = (tmF L i).length := by omega
      refine vc_exit ?_
      refine then_exit ?_
      refine loop_exit ?_
      refine in_eq ?_
      refine in_normal ?_
      refine then_next ?_
      refine vc_region ?_
      refine vl_det (det_move rfl) rfl ?_
      refine vl_det (det_add rfl rfl (w_i64 (by omega) (by omega))) rfl ?_
      refine vl_det (det_assign rfl) rfl ?_
      refine vl_end [(0, _), (2, _), (3, _), (4, _)] ⟨rfl, rfl, rfl, rfl, trivial⟩ ?_
      refine in_loop_ ⟨_, by omega, i + 1, o2, A4, c4, ⟨by omega, ho2.trans bld_next⟩, rfl, ⟨(by first | rfl | exact int_to (by omega) | exact sl_to (by omega)), (by first | rfl | exact int_to (by omega) | exact sl_to (by omega)), (by first | rfl | exact int_to (by omega) | exact sl_to (by omega)), (by first | rfl | exact int_to (by omega) | exact sl_to (by omega)), trivial⟩, .cons (.cons (.skip (.refl _)))⟩
  · skip
    obtain rfl : i = L.length := by omega
    obtain rfl : o = bldT (tmF L) L.length := by rw [ho, List.take_zero, List.append_nil]; rfl
    obtain ⟨T, hT⟩ : ∃ T, T = bldT (tmF L) L.length := ⟨_, rfl⟩
    have hTl : T.length ≤ wsum L := by
      have := setT_len ((List.range L.length).flatMap (tmF L))
      rw [hT]; unfold bldT; omega
    have hbL : bldL (tmF L) L.length = T.map (lsF (tmF L) L.length) := by rw [hT]; rfl
    rw [hbL, ← hT]
    refine vc_exit ?_
    refine then_exit ?_
    refine loop_exit ?_
    refine in_eq ?_
    refine then_next ?_
    refine vc_seq ?_
    refine vc_seq ?_
    refine vc_region ?_
    refine vl_det (det_assign rfl) rfl ?_
    refine vl_end [(0, _), (2, _), (3, _), (7, _)] ⟨rfl, rfl, rfl, rfl, trivial⟩ ?_
    refine then_next ?_
    refine vc_block ?_
    refine vc_nil_row 37 1 none ?_
    refine vc_loopJ (fun zf zL zm => ∃ (k : Nat) (LL : List Lst) (A5 : Option Addr) (c5 : Nat), (k ≤ T.length ∧ LL.map (·.2.2) = (T.take k).map (lsF (tmF L) L.length) ∧ LL.length = k) ∧ T.length - k = zm ∧ Sub zf [(0, .slice A L.length c), (2, .pointer (some ⟨g2, 0, none⟩)), (3, .pointer (some ⟨g3, 0, none⟩)), (7, .int .i64 k)] ∧ Wk zL (.own 37 1 A5 k c5 (LL.map lVal) :: .own 9 1 A3 T.length c3 (strs T) :: .blk g3 29 [.slice A3 T.length c3, .slice A5 k c5] :: .blk g2 29 [.slice none 0 0, .slice none 0 0] :: (LL.map lRow ++ F))) _ ⟨0, [], none, 0, ⟨Nat.zero_le _, by simp, rfl⟩, rfl, ⟨(by first | rfl | exact int_to (by omega) | exact sl_to (by omega)), (by first | rfl | exact int_to (by omega) | exact sl_to (by omega)), (by first | rfl | exact int_to (by omega) | exact sl_to (by omega)), (by first | rfl | exact int_to (by omega) | exact sl_to (by omega)), trivial⟩, .refl _⟩ ?_
    rintro _ _ _ ⟨k, LL, A5, c5, ⟨hk, hLL, hLl⟩, rfl, hs, hp⟩
    refine vc_weaken _ hs (vc_wk hp ?_)
    clear hs hp
    refine vc_seq ?_
    refine vc_seq ?_
    refine vc_region ?_
    refine vl_det (det_move rfl) rfl ?_
    refine vl_det (det_fieldAddr_ Try.underlying29 rfl (by kernel_rfl) rfl rfl) rfl ?_
    refine vl_det (det_load_blk (by kernel_rfl) rfl (by repeat (first | exact .hd | apply Sel.tl)) rfl) rfl ?_
    refine vl_det (det_len_sl Try.underlying26 rfl) rfl ?_
    refine vl_det (det_lss rfl rfl) rfl ?_
    refine vl_end [(0, _), (2, _), (3, _), (7, _), (40, _)] ⟨rfl, rfl, rfl, rfl, rfl, trivial⟩ ?_
    refine then_next ?_
    refine vc_decideU rfl (fun h40 => ?_) (fun h40 => ?_)
    · skip
      have hb1 : Bor B w0 (LL.map lRow ++ F) 4 (.slice A L.length c) L.length (recs L) := hb.mono (List.sublist_append_right _ _)
      refine vc_skip ?_
      refine then_next ?_
      refine vc_seq ?_
      refine vc_block ?_
      refine vc_seq ?_
      refine vc_region ?_
      refine vl_det (det_assign rfl) rfl ?_
      refine vl_end [(0, _), (2, _), (3, _), (7, _), (8, _)] ⟨rfl, rfl, rfl, rfl, rfl, trivial⟩ ?_
      refine then_next ?_
      refine vc_seq ?_
      refine vc_seq ?_
      refine vc_nil_row 3 1 none ?_
      refine vc_region ?_
      refine vl_det (det_assign rfl) rfl ?_
      refine vl_end [(0, _), (2, _), (3, _), (7, _), (8, _), (9, _)] ⟨rfl, rfl, rfl, rfl, rfl, rfl, trivial⟩ ?_
      refine then_next ?_
      refine vc_block ?_
      refine vc_loopJ (fun zf zL zm => ∃ (i : Nat) (ids : List Nat) (A6 : Option Addr) (c6 : Nat), (i ≤ L.length ∧ ids = lsF (tmF L) i (T.getD k [])) ∧ L.length - i = zm ∧ Sub zf [(0, .slice A L.length c), (2, .pointer (some ⟨g2, 0, none⟩)), (3, .pointer (some ⟨g3, 0, none⟩)), (7, .int .i64 k), (8, .slice A6 ids.length c6), (9, .int .i64 i)] ∧ Wk zL (.own 3 1 A6 ids.length c6 (natv ids) :: .own 37 1 A5 k c5 (LL.map lVal) :: .own 9 1 A3 T.length c3 (strs T) :: .blk g3 29 [.slice A3 T.length c3, .slice A5 k c5] :: .blk g2 29 [.slice none 0 0, .slice none 0 0] :: (LL.map lRow ++ F))) _ ⟨0, [], none, 0, ⟨Nat.zero_le _, by simp [lsF]⟩, rfl, ⟨(by first | rfl | exact int_to (by omega) | exact sl_to (by omega)), (by first | rfl | exact int_to (by omega) | exact sl_to (by omega)), (by first | rfl | exact int_to (by omega) | exact sl_to (by omega)), (by first | rfl | exact int_to (by omega) | exact sl_to (by omega)), (by first | rfl | exact int_to (by omega) | exact sl_to (by omega)), (by first | rfl | exact int_to (by omega) | exact sl_to (by omega)), trivial⟩, .refl _⟩ ?_
      rintro _ _ _ ⟨i, ids, A6, c6, ⟨hi4, hid⟩, rfl, hs, hp⟩
      refine vc_weaken _ hs (vc_wk hp ?_)
      clear hs hp
      refine vc_seq ?_
      refine vc_seq ?_
      refine vc_region ?_
      refine vl_det (det_move rfl) rfl ?_
      refine vl_det (det_move rfl) rfl ?_
      refine vl_det (det_len_sl Try.underlying22 rfl) rfl ?_
      refine vl_det (det_lss rfl rfl) rfl ?_
      refine vl_end [(0, _), (2, _), (3, _), (7, _), (8, _), (9, _), (46, _)] ⟨rfl, rfl, rfl, rfl, rfl, rfl, rfl, trivial⟩ ?_
      refine then_next ?_
      refine vc_decideU rfl (fun h46 => ?_) (fun h46 => ?_)
      · skip
        have hrc := rec_cells (L := L) (k := i) (by omega)
        have hwi := wle (L := L) (i := i) (by omega)
        have hidl : ids.length ≤ i := by rw [hid]; unfold lsF; exact Nat.le_trans (List.length_filter_le _ _) (by simp)
        have hnx := lsF_succ (tmF L) i (T.getD k [])
        have htl := trm_len (recAt L i)
        refine vc_skip ?_
        refine then_next ?_
        refine vc_seq ?_
        refine vc_block ?_
        refine vc_seq ?_
        refine vh_region (S := .own 9 1 A3 T.length c3 (strs T) :: .blk g3 29 [.slice A3 T.length c3, .slice A5 k c5] :: (LL.map lRow ++ F)) (by kernel_rfl) (by repeat (first | exact List.Sublist.refl _ | exact List.nil_sublist _ | apply List.Sublist.cons_cons | apply List.Sublist.cons)) ?_
        refine vh_take 0 rfl (by kernel_rfl) (by kernel_rfl) (by kernel_rfl) (det_move rfl) rfl ?_
        refine vh_take 1 rfl (by kernel_rfl) (by kernel_rfl) (by kernel_rfl) (det_move rfl) rfl ?_
        refine vh_take 2 rfl (by kernel_rfl) (by kernel_rfl) (by kernel_rfl) (det_indexAddr (size := 4) Try.underlying22 (by kernel_rfl) rfl rfl rfl (by omega) (by first | (exact Bor.own (by repeat (first | exact List.Mem.head _ | apply List.Mem.tail))) | (repeat (first | assumption | apply Bor.cons)))) rfl ?_
        refine vh_take 3 rfl (by kernel_rfl) (by kernel_rfl) (by kernel_rfl) (det_load_rowa 4 (by kernel_rfl) rfl (by first | (exact Bor.own (by repeat (first | exact List.Mem.head _ | apply List.Mem.tail))) | (repeat (first | assumption | apply Bor.cons))) (by omega) (RecC.cells (recAt L i)) hrc rfl) rfl ?_
        refine vh_take 5 rfl (by kernel_rfl) (by kernel_rfl) (by kernel_rfl) (det_fieldAddr_ Try.underlying29 rfl (by kernel_rfl) rfl rfl) rfl ?_
        refine vh_take 6 rfl (by kernel_rfl) (by kernel_rfl) (by kernel_rfl) (det_load_blk (by kernel_rfl) rfl (by repeat (first | exact .hd | apply Sel.tl)) rfl) rfl ?_
        refine vh_take 7 rfl (by kernel_rfl) (by kernel_rfl) (by kernel_rfl) (det_move rfl) rfl ?_
        refine vh_take 8 rfl (by kernel_rfl) (by kernel_rfl) (by kernel_rfl) (det_indexAddr (size := 1) Try.underlying26 (by kernel_rfl) rfl rfl rfl (by omega) (by first | (exact Bor.own (by repeat (first | exact List.Mem.head _ | apply List.Mem.tail))) | (repeat (first | assumption | apply Bor.cons)))) rfl ?_
        refine vh_take 9 rfl (by kernel_rfl) (by kernel_rfl) (by kernel_rfl) (det_load_str (b := T) (j := k) (by kernel_rfl) rfl (by first | (exact Bor.own (by repeat (first | exact List.Mem.head _ | apply List.Mem.tail))) | (repeat (first | assumption | apply Bor.cons))) (by omega)) rfl ?_
        refine vh_one 4 (by kernel_rfl) ?_
        refine st_call rfl .no co31 rfl (rtrm_d (x := recAt L i) (by omega)) rfl (by rintro _ _ ⟨A53, c53, rfl, rfl⟩; exact (by repeat (first | exact List.Sublist.refl _ | exact List.nil_sublist _ | apply List.Sublist.cons_cons | apply List.Sublist.cons))) ?_
        rintro _ _ ⟨A53, c53, rfl, hLL⟩
        obtain rfl := hLL.symm
        refine vh_one 10 (by kernel_rfl) ?_
        refine st_call rfl .no co15 rfl (has15_d (T.getD k []) (by first | (exact Bor.own (by repeat (first | exact List.Mem.head _ | apply List.Mem.tail))) | (repeat (first | assumption | apply Bor.cons))) (by omega)) rfl (by rintro _ _ ⟨rfl, rfl⟩; exact (by repeat (first | exact List.Sublist.refl _ | exact List.nil_sublist _ | apply List.Sublist.cons_cons | apply List.Sublist.cons))) ?_
        rintro _ _ ⟨rfl, hLL⟩
        obtain rfl := hLL.symm
        refine vh_done [(0, _), (2, _), (3, _), (7, _), (8, _), (9, _), (59, _)] ⟨rfl, rfl, rfl, rfl, rfl, rfl, rfl, trivial⟩ (by kernel_rfl) ?_
        refine then_next ?_
        refine vc_decideU rfl (fun h59 => ?_) (fun h59 => ?_)
        · skip
          refine vc_region ?_
          refine vl_det (det_move rfl) rfl ?_
          refine vl_det (det_move rfl) rfl ?_
          refine vl_push slT37 rfl rfl rfl rfl rfl (fun _ => rfl) (by repeat (first | exact .hd | apply Sel.tl)) (by omega) (by omega) ?_
          intro _ A63 c63
          refine vl_det (det_assign rfl) rfl ?_
          refine vl_end [(0, _), (2, _), (3, _), (7, _), (8, _), (9, _)] ⟨rfl, rfl, rfl, rfl, rfl, rfl, trivial⟩ ?_
          refine in_normal ?_
          refine then_next ?_
          refine vc_region ?_
          refine vl_det (det_move rfl) rfl ?_
          refine vl_det (det_add rfl rfl (w_i64 (by omega) (by omega))) rfl ?_
          refine vl_det (det_assign rfl) rfl ?_
          refine vl_end [(0, _), (2, _), (3, _), (7, _), (8, _), (9, _)] ⟨rfl, rfl, rfl, rfl, rfl, rfl, trivial⟩ ?_
          have hel : (ids ++ [i]).length = ids.length + 1 := by simp
          refine in_loop_ ⟨_, by omega, i + 1, ids ++ [i], A63, c63, ⟨by omega, by rw [hnx, hid, if_pos (show T.getD k [] ∈ tmF L i from h59)]⟩, rfl, ⟨(by first | rfl | exact int_to (by omega) | exact sl_to (by omega)), (by first | rfl | exact int_to (by omega) | exact sl_to (by omega)), (by first | rfl | exact int_to (by omega) | exact sl_to (by omega)), (by first | rfl | exact int_to (by omega) | exact sl_to (by omega)), (by first | rfl | exact int_to (by omega) | exact sl_to (by omega)), (by first | rfl | exact int_to (by omega) | exact sl_to (by omega)), trivial⟩, .skip (wk_own (by simp) (by simp [natv]) (.refl _))⟩
        · skip
          refine vc_skip ?_
          refine in_normal ?_
          refine then_next ?_
          refine vc_region ?_
          refine vl_det (det_move rfl) rfl ?_
          refine vl_det (det_add rfl rfl (w_i64 (by omega) (by omega))) rfl ?_
          refine vl_det (det_assign rfl) rfl ?_
          refine vl_end [(0, _), (2, _), (3, _), (7, _), (8, _), (9, _)] ⟨rfl, rfl, rfl, rfl, rfl, rfl, trivial⟩ ?_
          refine in_loop_ ⟨_, by omega, i + 1, ids, A6, c6, ⟨by omega, by rw [hnx, hid, if_neg (show ¬ T.getD k [] ∈ tmF L i from h59), List.append_nil]⟩, rfl, ⟨(by first | rfl | exact int_to (by omega) | exact sl_to (by omega)), (by first | rfl | exact int_to (by omega) | exact sl_to (by omega)), (by first | rfl | exact int_to (by omega) | exact sl_to (by omega)), (by first | rfl | exact int_to (by omega) | exact sl_to (by omega)), (by first | rfl | exact int_to (by omega) | exact sl_to (by omega)), (by first | rfl | exact int_to (by omega) | exact sl_to (by omega)), trivial⟩, .skip (.refl _)⟩
      · skip
        obtain rfl : i = L.length := by omega
        have htk : T.take (k + 1) = T.take k ++ [T.getD k []] := by
          rw [List.take_add_one, List.getElem?_eq_getElem (show k < T.length by omega)]; simp [List.getD, List.getElem?_eq_getElem (show k < T.length by omega)]
        refine vc_exit ?_
        refine then_exit ?_
        refine loop_exit ?_
        refine in_eq ?_
        refine then_next ?_
        refine vc_region ?_
        refine vl_det (det_fieldAddr_ Try.underlying29 rfl (by kernel_rfl) rfl rfl) rfl ?_
        refine vl_det (det_load_blk (by kernel_rfl) rfl (by repeat (first | exact .hd | apply Sel.tl)) rfl) rfl ?_
        refine vl_det (det_move rfl) rfl ?_
        refine vl_push slT27 rfl rfl rfl rfl rfl (fun _ => rfl) (by repeat (first | exact .hd | apply Sel.tl)) (by omega) (by omega) ?_
        intro _ A68 c68
        refine vl_det (det_fieldAddr_ Try.underlying29 rfl (by kernel_rfl) rfl rfl) rfl ?_
        refine vl_eff0 (eff_store (by kernel_rfl) rfl rfl rfl (by repeat (first | exact .hd | apply Sel.tl)) (by simp)) ?_
        rintro _ _ rfl
        refine vl_end [(0, _), (2, _), (3, _), (7, _)] ⟨rfl, rfl, rfl, rfl, trivial⟩ ?_
        refine in_normal ?_
        refine then_next ?_
        refine vc_region ?_
        refine vl_det (det_move rfl) rfl ?_
        refine vl_det (det_add rfl rfl (w_i64 (by omega) (by omega))) rfl ?_
        refine vl_det (det_assign rfl) rfl ?_
        refine vl_end [(0, _), (2, _), (3, _), (7, _)] ⟨rfl, rfl, rfl, rfl, trivial⟩ ?_
        refine in_loop_ ⟨_, by omega, k + 1, LL ++ [(A6, c6, ids)], A68, c68, ⟨by omega, by rw [List.map_append, hLL, htk, List.map_append, hid]; rfl, by simp [hLl]⟩, rfl, ⟨(by first | rfl | exact int_to (by omega) | exact sl_to (by omega)), (by first | rfl | exact int_to (by omega) | exact sl_to (by omega)), (by first | rfl | exact int_to (by omega) | exact sl_to (by omega)), (by first | rfl | exact int_to (by omega) | exact sl_to (by omega)), trivial⟩, .swap (wk_own rfl (by simp) (wk_row (LL := LL) (e := (A6, c6, ids)) [.own 9 1 A3 T.length c3 (strs T), .blk g3 29 [.slice A3 T.length c3, .slice A68 (k + 1) c68], .blk g2 29 [.slice none 0 0, .slice none 0 0]]))⟩
    · skip
      obtain rfl : k = T.length := by omega
      rw [List.take_length] at hLL
      refine vc_exit ?_
      refine then_exit ?_
      refine loop_exit ?_
      refine in_eq ?_
      refine then_next ?_
      refine vc_seq ?_
      refine vc_region ?_
      refine vl_det (det_load_whole 2 (by kernel_rfl) rfl (by repeat (first | exact .hd | apply Sel.tl)) (by first | rfl | (simp; omega) | (simp [*]; done))) rfl ?_
      refine vl_eff0 (eff_store_whole 2 (by kernel_rfl) rfl rfl (by first | exact bv_one _ | exact strs_one _ | exact ints_one _ _ | (simp; done) | (simp [Value.oneCell']; done) | assumption) (by repeat (first | exact .hd | apply Sel.tl)) (by first | rfl | (simp; omega) | (simp [*]; done)) (by first | rfl | (simp; omega) | (simp [*]; done))) ?_
      rintro _ _ rfl
      refine vl_end [(2, _)] ⟨rfl, trivial⟩ ?_
      refine then_next ?_
      refine vc_ret ?_
      refine ret_c rfl rfl (by kernel_rfl) (by repeat (first | exact .hd | apply Sel.tl)) (by first | rfl | (simp; omega) | (simp [*]; done)) (.swap (.cons (.cons (.skip (.skip (.refl _)))))) ?_
      exact ⟨A3, c3, A5, c5, LL, rfl, rfl, hLL⟩
end Go.Proofs.Ytpamjobiohbibaa

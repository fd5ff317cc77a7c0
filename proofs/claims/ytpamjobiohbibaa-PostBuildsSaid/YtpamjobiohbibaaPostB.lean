/-
  post.Build, by frames. Condition: a log that weighs at most 10^6.
-/
import Derived.Test.YtpamjobiohbibaaPostK
import Derived.Test.YtpamjobiohbibaaSplitD
import Derived.Test.YtpamjobiohbibaaTermR
import Derived.Test.YtpamjobiohbibaaRecW
import Derived.Test.YtpamjobiohbibaaEngJ
namespace Go.Proofs.Ytpamjobiohbibaa
open Go.RowKit
set_option linter.unusedVariables false
set_option maxRecDepth 20000
variable {B : Nat} {w0 : World} {F : List Ch} {A A1 A2 : Option Addr} {n c c1 c2 g : Nat}
/-- the numbers below n at which a text is among the texts -/
def lsF (f : Nat → List Txt) (n : Nat) (s : Txt) : List Nat := (List.range n).filter fun q => decide (s ∈ f q)
theorem lsF_succ (f : Nat → List Txt) (n : Nat) (s : Txt) : lsF f (n + 1) s = lsF f n s ++ (if s ∈ f n then [n] else []) := by
  unfold lsF
  rw [List.range_succ, List.filter_append]
  congr 1
  by_cases h : s ∈ f n <;> simp [h]
theorem lsF_ne {f : Nat → List Txt} {n : Nat} {s : Txt} : lsF f n s ≠ [] ↔ ∃ q, q < n ∧ s ∈ f q := by
  unfold lsF
  rw [Ne, List.filter_eq_nil_iff]
  simp only [List.mem_range, decide_eq_true_eq]
  constructor
  · intro h
    refine Classical.byContradiction fun h2 => h fun q hq hs => h2 ⟨q, hq, hs⟩
  · rintro ⟨q, h1, h2⟩ h3
    exact h3 q h1 h2
def bldT (f : Nat → List Txt) (n : Nat) : List Txt := setT ((List.range n).flatMap f)
def bldL (f : Nat → List Txt) (n : Nat) : List (List Nat) := (bldT f n).map (lsF f n)
/-- the map so far -/
structure GInv (f : Nat → List Txt) (i : Nat) (part : List Txt) (D : List Grp) : Prop where
  ids : ∀ s, gsT s D = lsF f i s ++ (if s ∈ part then [i] else [])
  keys : ∀ s, s ∈ D.map (·.1) ↔ gsT s D ≠ []
  nd : (D.map (·.1)).Nodup
theorem GInv.start (f : Nat → List Txt) : GInv f 0 [] [] := ⟨fun s => by simp [gsT, lsF], fun s => by simp [gsT], by simp⟩
theorem GInv.step {f : Nat → List Txt} {i j : Nat} {T : List Txt} {D : List Grp} (h : GInv f i (T.take j) D) (hn : T.Nodup) (hj : j < T.length) (A : Option Addr) (c : Nat) : GInv f i (T.take (j + 1)) (upG (T.getD j []) A c i D) := by
  have hg : T.getD j [] = T[j] := by simp [List.getD, List.getElem?_eq_getElem hj]
  have htk : T.take (j + 1) = T.take j ++ [T[j]] := by rw [List.take_add_one, List.getElem?_eq_getElem hj]; rfl
  have hnot : T[j] ∉ T.take j := by
    have h2 : (T.take (j + 1)).Nodup := hn.sublist (List.take_sublist _ _)
    rw [htk, List.nodup_append] at h2
    exact fun q => h2.2.2 _ q _ (by simp) rfl
  have hm : ∀ s, s ∈ T.take (j + 1) ↔ s ∈ T.take j ∨ s = T[j] := fun s => by rw [htk, List.mem_append, List.mem_singleton]
  rw [hg]
  refine ⟨fun s => ?_, fun s => ?_, nodup_up _ _ _ _ _ h.nd⟩
  · rw [gsT_up, h.ids s]
    by_cases e : s = T[j]
    · rw [if_pos e, if_neg (fun q => hnot (e ▸ q)), if_pos ((hm s).2 (.inr e)), List.append_nil]
    · rw [if_neg e]
      by_cases q : s ∈ T.take j
      · rw [if_pos q, if_pos ((hm s).2 (.inl q))]
      · rw [if_neg q, if_neg (fun k => ((hm s).1 k).elim q e)]
  · rw [keys_up, gsT_up, h.keys s]
    by_cases e : s = T[j]
    · simp [e]
    · simp [e]
theorem StT.nd {l : List Txt} (h : StT l) : l.Nodup := List.Pairwise.imp (fun {a b} (q : ltT a b) (e : a = b) => ltT_irrefl a (by rw [← e] at q; exact q)) h
theorem GInv.next {f : Nat → List Txt} {i : Nat} {D : List Grp} (h : GInv f i (f i) D) : GInv f (i + 1) [] D :=
  ⟨fun s => by rw [h.ids s, lsF_succ]; simp, h.keys, h.nd⟩
theorem GInv.done {f : Nat → List Txt} {n : Nat} {D : List Grp} (h : GInv f n [] D) : setT (D.map (·.1)) = bldT f n ∧ ∀ s, gsT s D = lsF f n s := by
  have hi : ∀ s, gsT s D = lsF f n s := fun s => by rw [h.ids s]; simp
  refine ⟨setT_uniq (setT_st _) fun x => ?_, hi⟩
  rw [bldT, setT_mem, h.keys, hi, lsF_ne, List.mem_flatMap]
  simp only [List.mem_range]
/-- a list of numbers in memory: where it lies, its room, the numbers -/
abbrev Lst := Option Addr × Nat × List Nat
abbrev lVal (e : Lst) : Value := .slice e.1 e.2.2.length e.2.1
abbrev lRow (e : Lst) : Ch := .own 3 1 e.1 e.2.2.length e.2.1 (natv e.2.2)
def geT (t : Txt) : List Grp → Lst
  | [] => (none, 0, [])
  | e :: r => if t = e.1 then e.2 else geT t r
theorem lk_get (t : Txt) : ∀ D : List Grp, ((fndM t (gVals D) 0).map (·.2)).getD (.slice none 0 0) = lVal (geT t D)
  | [] => rfl
  | e :: r => by
    show ((fndM t ((e.1, gVal e) :: gVals r) 0).map (·.2)).getD _ = _
    unfold fndM geT
    by_cases h : t = e.1
    · rw [if_pos h, if_pos h]; rfl
    · rw [if_neg h, if_neg h, fndM_succ, ← lk_get t r]
      cases fndM t (gVals r) 0 <;> rfl
theorem geT_ids (t : Txt) : ∀ D : List Grp, (geT t D).2.2 = gsT t D
  | [] => rfl
  | e :: r => by
    unfold geT gsT
    split
    · rfl
    · exact geT_ids t r
theorem rows_get : ∀ D : List Grp, (D.map (·.1)).Nodup → D.map gRow = (D.map (·.1)).map fun t => lRow (geT t D)
  | [], _ => rfl
  | e :: r, h => by
    rw [List.map_cons, List.nodup_cons] at h
    rw [List.map_cons, List.map_cons, List.map_cons]
    congr 1
    · unfold geT; rw [if_pos rfl]; rfl
    · rw [rows_get r h.2]
      apply List.map_congr_left
      intro t ht
      have hne : ¬ t = e.1 := fun q => h.1 (q ▸ ht)
      show _ = lRow (geT t (e :: r))
      rw [geT, if_neg hne]
theorem rows_perm {D : List Grp} (h : (D.map (·.1)).Nodup) : (D.map gRow).Perm (((setT (D.map (·.1))).map (geT · D)).map lRow) := by
  have hp : (D.map (·.1)).Perm (setT (D.map (·.1))) := (List.perm_ext_iff_of_nodup h (setT_st _).nd).2 fun x => (setT_mem _ x).symm
  have e : ((setT (D.map (·.1))).map (geT · D)).map lRow = (setT (D.map (·.1))).map (fun t => lRow (geT t D)) := List.map_map
  rw [rows_get D h, e]
  exact hp.map _
theorem sl_grpP {w : World} (P : List Ch) {D : List Grp} {xs : List Nat} {o : Obj} {R : List Ch} (h : (D.map gRow).Perm (.own 3 1 A xs.length c (natv xs) :: R) ∨ (A = none ∧ c = 0 ∧ xs = [] ∧ R = D.map gRow))
    (hw : SL B w0 (P ++ .obj g o :: (D.map gRow ++ F)) w) : SL B w0 (.own 3 1 A xs.length c (natv xs) :: (P ++ .obj g o :: (R ++ F))) w := by
  rcases h with h | ⟨rfl, rfl, rfl, rfl⟩
  · refine hw.perm ?_
    refine (List.Perm.append_left P ((((h.append_right F).cons (Ch.obj g o)).trans (.swap _ _ _)))).trans ?_
    exact List.perm_middle
  · exact hw.nil_row 3 1 none
theorem grp_back (P : List Ch) {D' : List Grp} {o o' : Obj} {R : List Ch} {m : Nat} {xs ys : List Value} (h : (D'.map gRow).Perm (.own 3 1 A m c ys :: R)) (hx : xs = ys) (ho : o = o') : Wk (.own 3 1 A m c xs :: (P ++ .obj g o :: (R ++ F))) (P ++ .obj g o' :: (D'.map gRow ++ F)) := by
  subst hx; subst ho
  refine .of_perm (List.Perm.symm ?_)
  refine (List.Perm.append_left P ((((h.append_right F).cons (Ch.obj g o)).trans (.swap _ _ _)))).trans ?_
  exact List.perm_middle
def trm (x : RecC) : List Txt := termsL x.2.2.2 x.2.2.1
theorem trm_len (x : RecC) : (trm x).length ≤ x.w := by
  have h1 := setT_len (rawT x.2.2.2 x.2.2.1)
  have h2 := rawT_len x.2.2.2 x.2.2.1
  unfold trm termsL RecC.w
  omega
theorem trm_25 {x : RecC} {t : Txt} (h : t ∈ trm x) : t.length ≤ 25 := by
  rcases List.mem_append.1 ((setT_mem _ _).1 h) with h | h
  · have := (word_ok h).2.1; omega
  · obtain ⟨u, hu, rfl⟩ := List.mem_map.1 h
    have := (word_ok hu).2.1; simp; omega
def tmF (L : List RecC) (i : Nat) : List Txt := trm (recAt L i)
theorem build_d {L : List RecC} (hb : Bor B w0 F 4 (.slice A L.length c) L.length (recs L)) (hw : wsum L ≤ 1000000) :
    Does Try.prog B w0 12 [.slice A L.length c] F (fun r K => ∃ (A1 : Option Addr) (c1 : Nat) (A2 : Option Addr) (c2 : Nat) (LL : List Lst), r = .agg [.slice A1 (bldT (tmF L) L.length).length c1, .slice A2 (bldT (tmF L) L.length).length c2].toArray ∧
      K = .own 9 1 A1 (bldT (tmF L) L.length).length c1 (strs (bldT (tmF L) L.length)) :: .own 37 1 A2 (bldT (tmF L) L.length).length c2 (LL.map lVal) :: (LL.map lRow ++ F) ∧ LL.map (·.2.2) = bldL (tmF L) L.length) := by
  have hll : L.length ≤ wsum L := by
    clear hb hw
    induction L with
    | nil => simp [wsum]
    | cons x r ih => simp only [wsum, List.map_cons, List.sum_cons, List.length_cons] at ih ⊢; unfold RecC.w at *; omega
  refine fn_walk Try.func12 60 rfl rfl rfl [(0, .slice A L.length c)] ⟨⟨rfl, rfl⟩, trivial⟩ ?_
  refine vc_seq ?_
  refine vc_region ?_
  refine vl_eff (eff_alloc_z (zv := (.agg #[.slice none 0 0, .slice none 0 0])) (by kernel_rfl) rfl) rfl ?_
  rintro _ _ ⟨g2, rfl, rfl⟩
  refine vl_end [(0, _), (2, _)] ⟨rfl, rfl, trivial⟩ ?_
  refine then_next ?_
  refine vc_seq ?_
  refine vc_region ?_
  refine vl_eff (eff_makeMap) rfl ?_
  rintro _ _ ⟨g11, rfl, rfl⟩
  refine vl_det (det_assign rfl) rfl ?_
  refine vl_end [(0, _), (2, _), (3, _)] ⟨rfl, rfl, rfl, trivial⟩ ?_
  refine then_next ?_
  refine vc_seq ?_
  refine vc_seq ?_
  refine vc_region ?_
  refine vl_det (det_move rfl) rfl ?_
  refine vl_det (det_len_sl Try.underlying22 rfl) rfl ?_
  refine vl_det (det_move rfl) rfl ?_
  refine vl_end [(2, _), (3, _), (12, _), (13, _), (14, _)] ⟨rfl, rfl, rfl, rfl, rfl, trivial⟩ ?_
  refine then_next ?_
  refine vc_block ?_
  refine vc_loopJ (fun zf zL zm => ∃ (i : Nat) (D : List Grp), (i ≤ L.length ∧ GInv (tmF L) i [] D ∧ D.length ≤ wsum (L.take i)) ∧ L.length - i = zm ∧ Sub zf [(2, .pointer (some ⟨g2, 0, none⟩)), (3, .map (some g11)), (12, .slice A L.length c), (13, .int .i64 L.length), (14, .int .i64 i)] ∧ Wk zL (.blk g2 29 [.slice none 0 0, .slice none 0 0] :: .obj g11 (mpO (gVals D)) :: (D.map gRow ++ F))) _ ⟨0, [], ⟨Nat.zero_le _, GInv.start _, by simp⟩, rfl, ⟨(by first | rfl | exact int_to (by omega) | exact sl_to (by omega)), (by first | rfl | exact int_to (by omega) | exact sl_to (by omega)), (by first | rfl | exact int_to (by omega) | exact sl_to (by omega)), (by first | rfl | exact int_to (by omega) | exact sl_to (by omega)), (by first | rfl | exact int_to (by omega) | exact sl_to (by omega)), trivial⟩, .swap (.refl _)⟩ ?_
  rintro _ _ _ ⟨i, D, ⟨hi, hG, hDl⟩, rfl, hs, hp⟩
  refine vc_weaken _ hs (vc_wk hp ?_)
  clear hs hp
  refine vc_seq ?_
  refine vc_region ?_
  refine vl_det (det_lss rfl rfl) rfl ?_
  refine vl_end [(2, _), (3, _), (12, _), (13, _), (14, _), (15, _)] ⟨rfl, rfl, rfl, rfl, rfl, rfl, trivial⟩ ?_
  refine then_next ?_
  refine vc_seq ?_
  refine vc_decideU rfl (fun h15 => ?_) (fun h15 => ?_)
  · skip
    obtain ⟨tm, lv, src, txt, hx⟩ : ∃ tm lv src txt, recAt L i = (tm, lv, src, txt) := ⟨_, _, _, _, rfl⟩
    have hb1 : Bor B w0 (D.map gRow ++ F) 4 (.slice A L.length c) L.length (recs L) := hb.mono (List.sublist_append_right _ _)
    have hrc := rec_cells (L := L) (k := i) (by omega)
    rw [hx] at hrc
    have hws := wsum_take (L := L) (k := i) (by omega)
    have hwl := wsum_le L (i + 1)
    have hrw : (recAt L i).w = 16 + src.length + txt.length := by rw [hx]; rfl
    obtain ⟨T, hT⟩ : ∃ T, T = tmF L i := ⟨_, rfl⟩
    have hTe : T = termsL txt src := by rw [hT]; unfold tmF trm; rw [hx]
    have hTl : T.length ≤ src.length + txt.length := by
      have h1 := setT_len (rawT txt src)
      have h2 := rawT_len txt src
      rw [hTe]; unfold termsL; omega
    have hTn : T.Nodup := by rw [hTe]; exact (setT_st _).nd
    have htd := fun F h1 h2 => @terms_d B w0 F (.int .u64 tm) (.int .u8 (lv.toNat : Int)) txt src h1 h2
    rw [← hTe] at htd
    refine vc_skip ?_
    refine then_next ?_
    refine vc_seq ?_
    refine vc_block ?_
    refine vc_seq ?_
    refine vc_region ?_
    refine vl_det (det_move rfl) rfl ?_
    refine vl_det (det_indexAddr (size := 4) Try.underlying22 (by kernel_rfl) rfl rfl rfl (by omega) (by first | (exact Bor.own (by repeat (first | exact List.Mem.head _ | apply List.Mem.tail))) | (repeat (first | assumption | apply Bor.cons)))) rfl ?_
    refine vl_det (det_load_rowa 4 (by kernel_rfl) rfl (by first | (exact Bor.own (by repeat (first | exact List.Mem.head _ | apply List.Mem.tail))) | (repeat (first | assumption | apply Bor.cons))) (by omega) [.int .u64 tm, .int .u8 (lv.toNat : Int), .string ⟨src.toArray⟩, .string ⟨txt.toArray⟩] hrc rfl) rfl ?_
    refine vl_eff (eff_alloc_z (zv := (.agg #[.int .u64 0, .int .u8 0, .string ⟨#[]⟩, .string ⟨#[]⟩])) (by kernel_rfl) rfl) rfl ?_
    rintro _ _ ⟨g5, rfl, rfl⟩
    refine vl_det (det_assign rfl) rfl ?_
    refine vl_eff0 (eff_store_whole 4 (by kernel_rfl) rfl rfl (by first | exact bv_one _ | exact strs_one _ | exact ints_one _ _ | (simp; done) | (simp [Value.oneCell']; done) | assumption) (by repeat (first | exact .hd | apply Sel.tl)) (by first | rfl | (simp; omega) | (simp [*]; done)) (by first | rfl | (simp; omega) | (simp [*]; done))) ?_
    rintro _ _ rfl
    refine vl_end [(2, _), (3, _), (4, _), (5, _), (12, _), (13, _), (14, _)] ⟨rfl, rfl, rfl, rfl, rfl, rfl, rfl, trivial⟩ ?_
    refine then_next ?_
    refine vc_seq ?_
    refine vc_region ?_
    refine vl_det (det_load_whole 4 (by kernel_rfl) rfl (by repeat (first | exact .hd | apply Sel.tl)) (by first | rfl | (simp; omega) | (simp [*]; done))) rfl ?_
    refine vl_call co14 rfl (htd _ (by omega) (by omega)) rfl ?_
    rintro _ _ ⟨A20, c20, rfl, hLL⟩
    obtain rfl := hLL.symm
    refine vl_det (det_len_sl Try.underlying26 rfl) rfl ?_
    refine vl_det (det_move rfl) rfl ?_
    refine vl_end [(2, _), (3, _), (4, _), (12, _), (13, _), (14, _), (20, _), (21, _), (22, _)] ⟨rfl, rfl, rfl, rfl, rfl, rfl, rfl, rfl, rfl, trivial⟩ ?_
    refine then_next ?_
    refine vc_block ?_
    refine vc_loopJ (fun zf zL zm => ∃ (j : Nat) (D2 : List Grp), (j ≤ T.length ∧ GInv (tmF L) i (T.take j) D2 ∧ D2.length ≤ wsum (L.take i) + j) ∧ T.length - j = zm ∧ Sub zf [(2, .pointer (some ⟨g2, 0, none⟩)), (3, .map (some g11)), (4, .int .i64 i), (12, .slice A L.length c), (13, .int .i64 L.length), (14, .int .i64 i), (20, .slice A20 T.length c20), (21, .int .i64 T.length), (22, .int .i64 j)] ∧ Wk zL (.own 9 1 A20 T.length c20 (strs T) :: .blk g5 35 [.int .u64 tm, .int .u8 (lv.toNat : Int), .string ⟨src.toArray⟩, .string ⟨txt.toArray⟩] :: .blk g2 29 [.slice none 0 0, .slice none 0 0] :: .obj g11 (mpO (gVals D2)) :: (D2.map gRow ++ F))) _ ⟨0, D, ⟨Nat.zero_le _, by rw [List.take_zero]; exact hG, by omega⟩, rfl, ⟨(by first | rfl | exact int_to (by omega) | exact sl_to (by omega)), (by first | rfl | exact int_to (by omega) | exact sl_to (by omega)), (by first | rfl | exact int_to (by omega) | exact sl_to (by omega)), (by first | rfl | exact int_to (by omega) | exact sl_to (by omega)), (by first | rfl | exact int_to (by omega) | exact sl_to (by omega)), (by first | rfl | exact int_to (by omega) | exact sl_to (by omega)), (by first | rfl | exact int_to (by omega) | exact sl_to (by omega)), (by first | rfl | exact int_to (by omega) | exact sl_to (by omega)), (by first | rfl | exact int_to (by omega) | exact sl_to (by omega)), trivial⟩, .refl _⟩ ?_
    rintro _ _ _ ⟨j, D2, ⟨hj, hG2, hDl2⟩, rfl, hs, hp⟩
    refine vc_weaken _ hs (vc_wk hp ?_)
    clear hs hp
    refine vc_seq ?_
    refine vc_region ?_
    refine vl_det (det_lss rfl rfl) rfl ?_
    refine vl_end [(2, _), (3, _), (4, _), (12, _), (13, _), (14, _), (20, _), (21, _), (22, _), (23, _)] ⟨rfl, rfl, rfl, rfl, rfl, rfl, rfl, rfl, rfl, rfl, trivial⟩ ?_
    refine then_next ?_
    refine vc_seq ?_
    refine vc_decideU rfl (fun h23 => ?_) (fun h23 => ?_)
    · skip
      refine vc_skip ?_
      refine then_next ?_
      refine vc_seq ?_
      refine vc_block ?_
      refine vc_seq ?_
      refine vc_region ?_
      refine vl_det (det_indexAddr (size := 1) Try.underlying26 (by kernel_rfl) rfl rfl rfl (by omega) (by first | (exact Bor.own (by repeat (first | exact List.Mem.head _ | apply List.Mem.tail))) | (repeat (first | assumption | apply Bor.cons)))) rfl ?_
      refine vl_det (det_load_str (b := T) (j := j) (by kernel_rfl) rfl (by first | (exact Bor.own (by repeat (first | exact List.Mem.head _ | apply List.Mem.tail))) | (repeat (first | assumption | apply Bor.cons))) (by omega)) rfl ?_
      refine vl_det (det_assign rfl) rfl ?_
      refine vl_end [(2, _), (3, _), (4, _), (7, _), (12, _), (13, _), (14, _), (20, _), (21, _), (22, _)] ⟨rfl, rfl, rfl, rfl, rfl, rfl, rfl, rfl, rfl, rfl, trivial⟩ ?_
      refine then_next ?_
      obtain ⟨AG, cG, RG, hGv, hGs, hGb⟩ := grp_get (T.getD j []) D2
      have hids := hG2.ids (T.getD j [])
      have hil : (gsT (T.getD j []) D2).length ≤ i + 1 := by
        rw [hids]
        have : (lsF (tmF L) i (T.getD j [])).length ≤ i := by unfold lsF; exact Nat.le_trans (List.length_filter_le _ _) (by simp)
        rw [List.length_append]
        split <;> simp only [List.length_cons, List.length_nil] <;> omega
      refine vc_sl (fun w hw => sl_grpP [.own 9 1 A20 T.length c20 (strs T), .blk g5 35 [.int .u64 tm, .int .u8 (lv.toNat : Int), .string ⟨src.toArray⟩, .string ⟨txt.toArray⟩], .blk g2 29 [.slice none 0 0, .slice none 0 0]] hGs hw) ?_
      refine vc_region ?_
      refine vl_det (det_move rfl) rfl ?_
      refine vl_det (det_move rfl) rfl ?_
      refine vl_det (det_move rfl) rfl ?_
      refine vl_det (det_move rfl) rfl ?_
      refine vl_det (det_lookup (zv := (.slice none 0 0)) Try.underlying58 Try.underlying9 (zero_of (by kernel_rfl)) rfl rfl (by repeat (first | exact .hd | apply Sel.tl))) rfl ?_
      rw [hGv]
      refine vl_det (det_move rfl) rfl ?_
      refine vl_push slT37 rfl rfl rfl rfl rfl (fun _ => rfl) (by repeat (first | exact .hd | apply Sel.tl)) (by omega) (by omega) ?_
      intro _ A33 c33
      refine vl_eff0 (eff_mapUpdate Try.underlying58 Try.underlying9 rfl rfl rfl (by repeat (first | exact .hd | apply Sel.tl))) ?_
      rintro _ _ rfl
      refine vl_end [(2, _), (3, _), (4, _), (12, _), (13, _), (14, _), (20, _), (21, _), (22, _)] ⟨rfl, rfl, rfl, rfl, rfl, rfl, rfl, rfl, rfl, trivial⟩ ?_
      refine in_normal ?_
      refine then_next ?_
      refine vc_region ?_
      refine vl_det (det_add rfl rfl (w_i64 (by omega) (by omega))) rfl ?_
      refine vl_det (det_move rfl) rfl ?_
      refine vl_end [(2, _), (3, _), (4, _), (12, _), (13, _), (14, _), (20, _), (21, _), (22, _)] ⟨rfl, rfl, rfl, rfl, rfl, rfl, rfl, rfl, rfl, trivial⟩ ?_
      refine in_loop_ ⟨_, by omega, j + 1, upG (T.getD j []) A33 c33 i D2, ⟨by omega, hG2.step hTn (by omega) A33 c33, by have := up_len (T.getD j []) A33 c33 i D2; omega⟩, rfl, ⟨(by first | rfl | exact int_to (by omega) | exact sl_to (by omega)), (by first | rfl | exact int_to (by omega) | exact sl_to (by omega)), (by first | rfl | exact int_to (by omega) | exact sl_to (by omega)), (by first | rfl | exact int_to (by omega) | exact sl_to (by omega)), (by first | rfl | exact int_to (by omega) | exact sl_to (by omega)), (by first | rfl | exact int_to (by omega) | exact sl_to (by omega)), (by first | rfl | exact int_to (by omega) | exact sl_to (by omega)), (by first | rfl | exact int_to (by omega) | exact sl_to (by omega)), (by first | rfl | exact int_to (by omega) | exact sl_to (by omega)), trivial⟩, grp_back [_, _, _] (hGb A33 c33 i) (by simp [natv]) (by rw [putM_up])⟩
    · skip
      obtain rfl : j = T.length := by omega
      rw [List.take_length, hT] at hG2
      have hGn := hG2.next
      refine vc_exit ?_
      refine then_exit ?_
      refine loop_exit ?_
      refine in_eq ?_
      refine in_normal ?_
      refine then_next ?_
      refine vc_region ?_
      refine vl_det (det_add rfl rfl (w_i64 (by omega) (by omega))) rfl ?_
      refine vl_det (det_move rfl) rfl ?_
      refine vl_end [(2, _), (3, _), (12, _), (13, _), (14, _)] ⟨rfl, rfl, rfl, rfl, rfl, trivial⟩ ?_
      refine in_loop_ ⟨_, by omega, i + 1, D2, ⟨by omega, hGn, by omega⟩, rfl, ⟨(by first | rfl | exact int_to (by omega) | exact sl_to (by omega)), (by first | rfl | exact int_to (by omega) | exact sl_to (by omega)), (by first | rfl | exact int_to (by omega) | exact sl_to (by omega)), (by first | rfl | exact int_to (by omega) | exact sl_to (by omega)), (by first | rfl | exact int_to (by omega) | exact sl_to (by omega)), trivial⟩, .skip (.skip (.refl _))⟩
  · skip
    obtain rfl : i = L.length := by omega
    rw [List.take_length] at hDl
    obtain ⟨hd1, hd2⟩ := hG.done
    have hk25 : ∀ p ∈ gVals D, p.1.length ≤ 1000000000 := fun p hp => by
      obtain ⟨e, he, rfl⟩ := List.mem_map.1 hp
      have h1 := (hG.keys e.1).1 (List.mem_map.2 ⟨e, he, rfl⟩)
      rw [hd2, lsF_ne] at h1
      obtain ⟨q, _, h2⟩ := h1
      have := trm_25 h2
      show e.1.length ≤ _
      omega
    have hkey : (gVals D).map (·.1) = D.map (·.1) := by simp [gVals]
    have hgl : (gVals D).length = D.length := by simp [gVals]
    have hrp := rows_perm hG.nd
    obtain ⟨T0, hT0⟩ : ∃ T0, T0 = setT (D.map (·.1)) := ⟨_, rfl⟩
    have hTl0 : T0.length ≤ D.length := by
      have := setT_len (D.map (·.1))
      rw [hT0]; simpa using this
    have hso := fun F g b => @sorted_d B w0 F (gVals D) g b (by rw [hkey]; exact hG.nd) (by omega) hk25
    rw [hkey, ← hT0] at hso
    rw [← hT0] at hrp hd1
    rw [← hd1]
    refine vc_exit ?_
    refine then_exit ?_
    refine loop_exit ?_
    refine in_eq ?_
    refine then_next ?_
    refine vc_seq ?_
    refine vc_region ?_
    refine vl_eff (eff_alloc_z (zv := (.agg #[.slice none 0 0, .slice none 0 0])) (by kernel_rfl) rfl) rfl ?_
    rintro _ _ ⟨g8, rfl, rfl⟩
    refine vl_end [(2, _), (3, _), (8, _)] ⟨rfl, rfl, rfl, trivial⟩ ?_
    refine then_next ?_
    refine vc_seq ?_
    refine vc_seq ?_
    refine vc_region ?_
    refine vl_det (det_move rfl) rfl ?_
    refine vl_call co30 rfl (keys_d g11) rfl ?_
    rintro _ _ ⟨g37, rfl, hLL⟩
    obtain rfl := hLL.symm
    refine vl_call co29 rfl ((hso _ g37 g11).perm ((pu0 (pu2 (pu0 (pu0 (.refl _))))))) rfl ?_
    rintro _ _ ⟨A38, c38, rfl, hLL⟩
    obtain rfl := hLL.symm
    refine vl_det (det_len_sl Try.underlying26 rfl) rfl ?_
    refine vl_det (det_move rfl) rfl ?_
    refine vl_end [(2, _), (3, _), (8, _), (38, _), (39, _), (40, _)] ⟨rfl, rfl, rfl, rfl, rfl, rfl, trivial⟩ ?_
    refine then_next ?_
    refine vc_block ?_
    refine vc_nil_row 9 1 none ?_
    refine vc_nil_row 37 1 none ?_
    refine vc_loopJ (fun zf zL zm => ∃ (k : Nat) (B1 : Option Addr) (b1 : Nat) (B2 : Option Addr) (b2 : Nat), (k ≤ T0.length) ∧ T0.length - k = zm ∧ Sub zf [(2, .pointer (some ⟨g2, 0, none⟩)), (3, .map (some g11)), (8, .pointer (some ⟨g8, 0, none⟩)), (38, .slice A38 T0.length c38), (39, .int .i64 T0.length), (40, .int .i64 k)] ∧ Wk zL (.own 9 1 B1 k b1 (strs (T0.take k)) :: .own 37 1 B2 k b2 ((T0.take k).map fun t => lVal (geT t D)) :: .blk g8 29 [.slice B1 k b1, .slice B2 k b2] :: .own 9 1 A38 T0.length c38 (strs T0) :: .blk g37 58 [.map (some g11)] :: .blk g2 29 [.slice none 0 0, .slice none 0 0] :: .obj g11 (mpO (gVals D)) :: (D.map gRow ++ F))) _ ⟨0, none, 0, none, 0, Nat.zero_le _, rfl, ⟨(by first | rfl | exact int_to (by omega) | exact sl_to (by omega)), (by first | rfl | exact int_to (by omega) | exact sl_to (by omega)), (by first | rfl | exact int_to (by omega) | exact sl_to (by omega)), (by first | rfl | exact int_to (by omega) | exact sl_to (by omega)), (by first | rfl | exact int_to (by omega) | exact sl_to (by omega)), (by first | rfl | exact int_to (by omega) | exact sl_to (by omega)), trivial⟩, (wu1 (wu0 (wu3 (wu0 (wu0 (wu1 (wu0 (.refl _))))))))⟩ ?_
    rintro _ _ _ ⟨k, B1, b1, B2, b2, hk, rfl, hs, hp⟩
    refine vc_weaken _ hs (vc_wk hp ?_)
    clear hs hp
    refine vc_seq ?_
    refine vc_region ?_
    refine vl_det (det_lss rfl rfl) rfl ?_
    refine vl_end [(2, _), (3, _), (8, _), (38, _), (39, _), (40, _), (41, _)] ⟨rfl, rfl, rfl, rfl, rfl, rfl, rfl, trivial⟩ ?_
    refine then_next ?_
    refine vc_seq ?_
    refine vc_decideU rfl (fun h41 => ?_) (fun h41 => ?_)
    · skip
      have htk : T0.take (k + 1) = T0.take k ++ [T0.getD k []] := by
        rw [List.take_add_one, List.getElem?_eq_getElem (show k < T0.length by omega)]; simp [List.getD, List.getElem?_eq_getElem (show k < T0.length by omega)]
      refine vc_skip ?_
      refine then_next ?_
      refine vc_seq ?_
      refine vc_block ?_
      refine vc_seq ?_
      refine vc_region ?_
      refine vl_det (det_indexAddr (size := 1) Try.underlying26 (by kernel_rfl) rfl rfl rfl (by omega) (by first | (exact Bor.own (by repeat (first | exact List.Mem.head _ | apply List.Mem.tail))) | (repeat (first | assumption | apply Bor.cons)))) rfl ?_
      refine vl_det (det_load_str (b := T0) (j := k) (by kernel_rfl) rfl (by first | (exact Bor.own (by repeat (first | exact List.Mem.head _ | apply List.Mem.tail))) | (repeat (first | assumption | apply Bor.cons))) (by omega)) rfl ?_
      refine vl_det (det_assign rfl) rfl ?_
      refine vl_end [(2, _), (3, _), (8, _), (10, _), (38, _), (39, _), (40, _)] ⟨rfl, rfl, rfl, rfl, rfl, rfl, rfl, trivial⟩ ?_
      refine then_next ?_
      refine vc_seq ?_
      refine vc_region ?_
      refine vl_det (det_fieldAddr_ Try.underlying29 rfl (by kernel_rfl) rfl rfl) rfl ?_
      refine vl_det (det_load_blk (by kernel_rfl) rfl (by repeat (first | exact .hd | apply Sel.tl)) rfl) rfl ?_
      refine vl_det (det_move rfl) rfl ?_
      refine vl_push slT26 rfl rfl rfl rfl rfl (fun _ => rfl) (by repeat (first | exact .hd | apply Sel.tl)) (by omega) (by omega) ?_
      intro _ A48 c48
      refine vl_det (det_fieldAddr_ Try.underlying29 rfl (by kernel_rfl) rfl rfl) rfl ?_
      refine vl_eff0 (eff_store (by kernel_rfl) rfl rfl rfl (by repeat (first | exact .hd | apply Sel.tl)) (by simp)) ?_
      rintro _ _ rfl
      refine vl_end [(2, _), (3, _), (8, _), (10, _), (38, _), (39, _), (40, _)] ⟨rfl, rfl, rfl, rfl, rfl, rfl, rfl, trivial⟩ ?_
      refine then_next ?_
      refine vc_region ?_
      refine vl_det (det_fieldAddr_ Try.underlying29 rfl (by kernel_rfl) rfl rfl) rfl ?_
      refine vl_det (det_load_blk (by kernel_rfl) rfl (by repeat (first | exact .hd | apply Sel.tl)) rfl) rfl ?_
      refine vl_det (det_move rfl) rfl ?_
      refine vl_det (det_move rfl) rfl ?_
      refine vl_det (det_lookup (zv := (.slice none 0 0)) Try.underlying58 Try.underlying9 (zero_of (by kernel_rfl)) rfl rfl (by repeat (first | exact .hd | apply Sel.tl))) rfl ?_
      rw [lk_get]
      refine vl_push slT27 rfl rfl rfl rfl rfl (fun _ => rfl) (by repeat (first | exact .hd | apply Sel.tl)) (by omega) (by omega) ?_
      intro _ A56 c56
      refine vl_det (det_fieldAddr_ Try.underlying29 rfl (by kernel_rfl) rfl rfl) rfl ?_
      refine vl_eff0 (eff_store (by kernel_rfl) rfl rfl rfl (by repeat (first | exact .hd | apply Sel.tl)) (by simp)) ?_
      rintro _ _ rfl
      refine vl_end [(2, _), (3, _), (8, _), (38, _), (39, _), (40, _)] ⟨rfl, rfl, rfl, rfl, rfl, rfl, trivial⟩ ?_
      refine in_normal ?_
      refine then_next ?_
      refine vc_region ?_
      refine vl_det (det_add rfl rfl (w_i64 (by omega) (by omega))) rfl ?_
      refine vl_det (det_move rfl) rfl ?_
      refine vl_end [(2, _), (3, _), (8, _), (38, _), (39, _), (40, _)] ⟨rfl, rfl, rfl, rfl, rfl, rfl, trivial⟩ ?_
      refine in_loop_ ⟨_, by omega, k + 1, A48, c48, A56, c56, by omega, rfl, ⟨(by first | rfl | exact int_to (by omega) | exact sl_to (by omega)), (by first | rfl | exact int_to (by omega) | exact sl_to (by omega)), (by first | rfl | exact int_to (by omega) | exact sl_to (by omega)), (by first | rfl | exact int_to (by omega) | exact sl_to (by omega)), (by first | rfl | exact int_to (by omega) | exact sl_to (by omega)), (by first | rfl | exact int_to (by omega) | exact sl_to (by omega)), trivial⟩, wk_own rfl (by rw [htk]; simp [strs]) (wk_own rfl (by rw [htk]; simp) (.refl _))⟩
    · skip
      obtain rfl : k = T0.length := by omega
      rw [List.take_length]
      refine vc_exit ?_
      refine then_exit ?_
      refine loop_exit ?_
      refine in_eq ?_
      refine then_next ?_
      refine vc_seq ?_
      refine vc_region ?_
      refine vl_det (det_load_whole 2 (by kernel_rfl) rfl (by repeat (first | exact .hd | apply Sel.tl)) (by first | rfl | (simp; omega) | (simp [*]; done))) rfl ?_
      refine vl_eff0 (eff_store_whole 2 (by kernel_rfl) rfl rfl (by first | exact bv_one _ | exact strs_one _ | exact ints_one _ _ | (simp; done) | (simp [Value.oneCell']; done) | assumption) (by repeat (first | exact .hd | apply Sel.tl)) (by first | rfl | (simp; omega) | (simp [*]; done)) (by first | rfl | (simp; omega) | (simp [*]; done))) ?_
      rintro _ _ rfl
      refine vl_end [(2, _)] ⟨rfl, trivial⟩ ?_
      refine then_next ?_
      refine vc_ret ?_
      refine ret_c rfl rfl (by kernel_rfl) (by repeat (first | exact .hd | apply Sel.tl)) (by first | rfl | (simp; omega) | (simp [*]; done)) (.cons (.cons (.skip (.skip (.skip (.skip (.skip (.of_perm (hrp.append_right F))))))))) ?_
      exact ⟨B1, b1, B2, b2, T0.map (geT · D), rfl, by rw [show (T0.map (geT · D)).map lVal = T0.map (fun t => lVal (geT t D)) from List.map_map], by rw [List.map_map, bldL, ← hd1]; exact List.map_congr_left fun t _ => (geT_ids t D).trans (hd2 t)⟩
end Go.Proofs.Ytpamjobiohbibaa

/-
  A dictionary's methods, by frames. Condition: at most 2^20 texts.
-/
import Derived.Test.YtbkaoncopohdbaaDictG
import Derived.Test.YtbkaoncopohdbaaTxtO
import Derived.Test.YtbkaoncopohdbaaSearch
namespace Go.Proofs.Ytbkaoncopohdbaa
open Go.RowKit
set_option linter.unusedVariables false
set_option maxRecDepth 20000
variable {B : Nat} {w0 : World} {F : List Ch} {A A1 A2 : Option Addr} {n c c1 c2 g : Nat} {s : Cs} {sz : Nat} {o h : List Txt}
theorem Does.bor_nil {P : Program} {B : Nat} {w0 : World} {L : List Ch} {ff : FuncId} {args : List Value} {R : Value → List Ch → Prop} {size nn c : Nat} {xs : List Value} (hb : Bor B w0 L size (.slice none nn c) nn xs) (h : nn = 0 → Does P B w0 ff args L R) : Does P B w0 ff args L R := fun w hw => by
  obtain ⟨A', c', hv, hc, hl, hr⟩ := hb w hw
  injection hv with h1 _ h3
  subst h1
  rcases Nat.eq_zero_or_pos nn with h0 | h0
  · exact h h0 w hw
  · obtain ⟨ad, e, _⟩ := hr h0
    cases e
theorem sclone_d (l : List Txt) (hb : Bor B w0 F 1 (.slice A l.length c) l.length (strs l)) (hn : l.length ≤ 1099511627776) :
    Does Try.prog B w0 35 [.slice A l.length c] F (fun r L => ∃ A' c', r = .slice A' l.length c' ∧ L = .own 9 1 A' l.length c' (strs l) :: F) := by
  rcases A with _ | ad
  · refine Does.bor_nil hb fun h0 => ?_
    have : l = [] := List.eq_nil_of_length_eq_zero h0
    subst this
    refine fn_walk Try.func35 8 rfl rfl rfl [(0, .slice none 0 c)] ⟨⟨rfl, rfl⟩, trivial⟩ ?_
    refine vc_seq ?_
    refine vc_region ?_
    refine vl_det (det_assign rfl) rfl ?_
    refine vl_end [(0, _)] ⟨rfl, trivial⟩ ?_
    refine then_next ?_
    refine vc_seq ?_
    refine vc_seq ?_
    refine vc_region ?_
    refine vl_det (det_move rfl) rfl ?_
    refine vl_det (det_sl_nil Try.underlying22 rfl rfl) rfl ?_
    refine vl_end [(0, _), (4, _)] ⟨rfl, rfl, trivial⟩ ?_
    refine then_next ?_
    refine vc_cond_t rfl ?_
    refine vc_seq ?_
    refine vc_region ?_
    refine vl_det (det_assign rfl) rfl ?_
    refine vl_end [(2, _)] ⟨rfl, trivial⟩ ?_
    refine then_next ?_
    refine vc_ret ?_
    refine then_ret ?_
    refine ret_nil_row 9 1 none ?_
    refine ret1 rfl rfl ?_
    exact ⟨none, 0, rfl, rfl⟩
  · skip
    refine fn_walk Try.func35 8 rfl rfl rfl [(0, .slice (some ad) l.length c)] ⟨⟨rfl, rfl⟩, trivial⟩ ?_
    refine vc_seq ?_
    refine vc_region ?_
    refine vl_det (det_assign rfl) rfl ?_
    refine vl_end [(0, _)] ⟨rfl, trivial⟩ ?_
    refine then_next ?_
    refine vc_seq ?_
    refine vc_seq ?_
    refine vc_region ?_
    refine vl_det (det_move rfl) rfl ?_
    refine vl_det (det_sl_nil Try.underlying22 rfl rfl) rfl ?_
    refine vl_end [(0, _), (4, _)] ⟨rfl, rfl, trivial⟩ ?_
    refine then_next ?_
    refine vc_cond_f rfl ?_
    refine vc_skip ?_
    refine then_next ?_
    refine vc_seq ?_
    refine vc_region ?_
    refine vl_eff (eff_build_empty slT22) rfl ?_
    rintro _ _ ⟨A5, rfl, rfl⟩
    refine vl_det (det_move rfl) rfl ?_
    refine vl_eff (eff_app slT22 rfl (by repeat (first | exact .hd | apply Sel.tl)) rfl (by first | (exact Bor.own (by repeat (first | exact List.Mem.head _ | apply List.Mem.tail))) | (repeat (first | assumption | apply Bor.cons))) (by first | exact bv_one _ | exact strs_one _ | exact ints_one _ _ | (simp; done) | (simp [Value.oneCell']; done) | assumption) (by omega) (by omega)) rfl ?_
    rintro _ _ ⟨A7, c7, rfl, rfl⟩
    refine vl_det (det_assign rfl) rfl ?_
    refine vl_end [(2, _)] ⟨rfl, trivial⟩ ?_
    refine then_next ?_
    refine vc_ret ?_
    rw [Nat.zero_add, List.nil_append]
    refine ret1 rfl rfl ?_
    exact ⟨_, _, rfl, rfl⟩
theorem dall_d (hn : o.length ≤ 1048576) :
    Does Try.prog B w0 18 [.pointer (some ⟨g, 0, none⟩)] (Dd g sz A1 c1 A2 c2 o h F) (fun r L => ∃ A' c', r = .slice A' o.length c' ∧ L = Dd g sz A1 c1 A2 c2 o h (.own 9 1 A' o.length c' (strs o) :: F)) := by
  refine fn_walk Try.func18 11 rfl rfl rfl [(0, .pointer (some ⟨g, 0, none⟩))] ⟨⟨rfl, rfl⟩, trivial⟩ ?_
  refine vc_seq ?_
  refine vc_region ?_
  refine vl_det (det_assign rfl) rfl ?_
  refine vl_end [(0, _)] ⟨rfl, trivial⟩ ?_
  refine then_next ?_
  refine vc_seq ?_
  refine vc_seq ?_
  refine vc_region ?_
  refine vl_det (det_move rfl) rfl ?_
  refine vl_det (det_ptr_nil Try.underlying32 rfl rfl) rfl ?_
  refine vl_end [(0, _), (4, _)] ⟨rfl, rfl, trivial⟩ ?_
  refine then_next ?_
  refine vc_cond_f rfl ?_
  refine vc_skip ?_
  refine then_next ?_
  refine vc_seq ?_
  refine vc_region ?_
  refine vl_det (det_move rfl) rfl ?_
  refine vl_det (det_nilCheck rfl) rfl ?_
  refine vl_det (det_fieldAddr_ Try.underlying65 rfl (by kernel_rfl) rfl rfl) rfl ?_
  refine vl_det (det_fieldAddr_ Try.underlying63 rfl (by kernel_rfl) rfl rfl) rfl ?_
  refine vl_det (det_load_blk (by kernel_rfl) rfl (by repeat (first | exact .hd | apply Sel.tl)) rfl) rfl ?_
  refine vl_call co35 rfl (sclone_d o (by first | (exact Bor.own (by repeat (first | exact List.Mem.head _ | apply List.Mem.tail))) | (repeat (first | assumption | apply Bor.cons))) (by omega)) rfl ?_
  rintro _ _ ⟨A10, c10, rfl, hLL⟩
  obtain rfl := hLL.symm
  refine vl_det (det_assign rfl) rfl ?_
  refine vl_end [(2, _)] ⟨rfl, trivial⟩ ?_
  refine then_next ?_
  refine vc_ret ?_
  refine ret_wk (L' := Dd g sz A1 c1 A2 c2 o h (.own 9 1 A10 o.length c10 (strs o) :: F)) ((wu1 (wu1 (wu1 (wu0 (.refl _)))))) ?_
  refine ret1 rfl rfl ?_
  exact ⟨A10, c10, rfl, rfl⟩
theorem dlen_d : Does Try.prog B w0 17 [.pointer (some ⟨g, 0, none⟩)] (Dd g sz A1 c1 A2 c2 o h F) (fun r L => r = .int .i64 o.length ∧ L = Dd g sz A1 c1 A2 c2 o h F) := by
  refine fn_walk Try.func17 11 rfl rfl rfl [(0, .pointer (some ⟨g, 0, none⟩))] ⟨⟨rfl, rfl⟩, trivial⟩ ?_
  refine vc_seq ?_
  refine vc_region ?_
  refine vl_det (det_assign rfl) rfl ?_
  refine vl_end [(0, _)] ⟨rfl, trivial⟩ ?_
  refine then_next ?_
  refine vc_seq ?_
  refine vc_seq ?_
  refine vc_region ?_
  refine vl_det (det_move rfl) rfl ?_
  refine vl_det (det_ptr_nil Try.underlying32 rfl rfl) rfl ?_
  refine vl_end [(0, _), (4, _)] ⟨rfl, rfl, trivial⟩ ?_
  refine then_next ?_
  refine vc_cond_f rfl ?_
  refine vc_skip ?_
  refine then_next ?_
  refine vc_seq ?_
  refine vc_region ?_
  refine vl_det (det_move rfl) rfl ?_
  refine vl_det (det_nilCheck rfl) rfl ?_
  refine vl_det (det_fieldAddr_ Try.underlying65 rfl (by kernel_rfl) rfl rfl) rfl ?_
  refine vl_det (det_fieldAddr_ Try.underlying63 rfl (by kernel_rfl) rfl rfl) rfl ?_
  refine vl_det (det_load_blk (by kernel_rfl) rfl (by repeat (first | exact .hd | apply Sel.tl)) rfl) rfl ?_
  refine vl_det (det_len_sl Try.underlying22 rfl) rfl ?_
  refine vl_det (det_assign rfl) rfl ?_
  refine vl_end [(2, _)] ⟨rfl, trivial⟩ ?_
  refine then_next ?_
  refine vc_ret ?_
  refine ret1 rfl rfl ?_
  exact ⟨rfl, rfl⟩
theorem dat_d (i : Int) : Does Try.prog B w0 14 [.pointer (some ⟨g, 0, none⟩), .int .i64 i] (Dd g sz A1 c1 A2 c2 o h F) (fun r L => r = .tuple #[.string ⟨(if 0 ≤ i ∧ i < o.length then o.getD i.toNat [] else []).toArray⟩, .bool (decide (0 ≤ i ∧ i < o.length))] ∧ L = Dd g sz A1 c1 A2 c2 o h F) := by
  refine fn_walk Try.func14 22 rfl rfl rfl [(0, .pointer (some ⟨g, 0, none⟩)), (1, .int .i64 i)] ⟨⟨rfl, rfl⟩, ⟨rfl, rfl⟩, trivial⟩ ?_
  refine vc_seq ?_
  refine vc_region ?_
  refine vl_det (det_assign rfl) rfl ?_
  refine vl_det (det_assign rfl) rfl ?_
  refine vl_end [(0, _), (1, _)] ⟨rfl, rfl, trivial⟩ ?_
  refine then_next ?_
  refine vc_seq ?_
  refine vc_seq ?_
  refine vc_region ?_
  refine vl_cut 8 13 [(0, _), (1, _)] (¬ (0 ≤ i ∧ i < (o.length : Int))) ⟨rfl, rfl, trivial⟩ ?_ ?_
  · skip
    refine vl_det (det_move rfl) rfl ?_
    refine vl_det (det_lss rfl rfl) rfl ?_
    refine vl_det (det_move rfl) rfl ?_
    refine vl_guardn rfl rfl rfl (fun h8 => ?_) (fun h8 => ?_)
    · skip
      refine vl_det (det_move rfl) rfl ?_
      refine vl_guard_t rfl rfl ?_
      refine vl_det (det_move rfl) rfl ?_
      refine vl_guard_t rfl rfl ?_
      refine vl_call co17 rfl (dlen_d) rfl ?_
      rintro _ _ ⟨rfl, hLL⟩
      obtain rfl := hLL.symm
      refine vl_guard_t rfl rfl ?_
      refine vl_det (det_geq rfl rfl) rfl ?_
      refine vl_det (det_pick_f rfl rfl) rfl ?_
      exact vl_cut_end ⟨rfl, rfl, trivial⟩ (by first | rfl | exact bool_to_t (by first | omega | simp_all) | exact bool_to_f (by first | omega | simp_all) | exact bool_to (by first | omega | simp_all) | exact bool_to_b (by first | omega | simp_all))
    · skip
      refine vl_guard_f rfl rfl rfl rfl ?_
      refine vl_guard_f rfl rfl rfl rfl ?_
      refine vl_guard_f rfl rfl rfl rfl ?_
      refine vl_det (det_pick_t rfl rfl) rfl ?_
      exact vl_cut_end ⟨rfl, rfl, trivial⟩ (by first | rfl | exact bool_to_t (by first | omega | simp_all) | exact bool_to_f (by first | omega | simp_all) | exact bool_to (by first | omega | simp_all) | exact bool_to_b (by first | omega | simp_all))
  · skip
    refine vl_end [(0, _), (1, _), (13, _)] ⟨rfl, rfl, rfl, trivial⟩ ?_
    refine then_next ?_
    refine vc_decideU rfl (fun h13 => ?_) (fun h13 => ?_)
    · skip
      refine vc_seq ?_
      refine vc_region ?_
      refine vl_det (det_assign rfl) rfl ?_
      refine vl_det (det_assign rfl) rfl ?_
      refine vl_end [(4, _), (5, _)] ⟨rfl, rfl, trivial⟩ ?_
      refine then_next ?_
      refine vc_ret ?_
      refine then_ret ?_
      refine ret2 rfl rfl rfl ?_
      exact ⟨by rw [if_neg h13, decide_eq_false h13], rfl⟩
    · skip
      have h13' := Classical.not_not.1 h13
      obtain ⟨m, rfl⟩ := Int.eq_ofNat_of_zero_le (show 0 ≤ i by omega)
      refine vc_skip ?_
      refine then_next ?_
      refine vc_seq ?_
      refine vc_region ?_
      refine vl_det (det_move rfl) rfl ?_
      refine vl_det (det_nilCheck rfl) rfl ?_
      refine vl_det (det_fieldAddr_ Try.underlying65 rfl (by kernel_rfl) rfl rfl) rfl ?_
      refine vl_det (det_fieldAddr_ Try.underlying63 rfl (by kernel_rfl) rfl rfl) rfl ?_
      refine vl_det (det_load_blk (by kernel_rfl) rfl (by repeat (first | exact .hd | apply Sel.tl)) rfl) rfl ?_
      refine vl_det (det_move rfl) rfl ?_
      refine vl_det (det_indexAddr (size := 1) Try.underlying22 (by kernel_rfl) rfl rfl rfl (by omega) (by first | (exact Bor.own (by repeat (first | exact List.Mem.head _ | apply List.Mem.tail))) | (repeat (first | assumption | apply Bor.cons)))) rfl ?_
      refine vl_det (det_load_str (b := o) (j := m) (by kernel_rfl) rfl (by first | (exact Bor.own (by repeat (first | exact List.Mem.head _ | apply List.Mem.tail))) | (repeat (first | assumption | apply Bor.cons))) (by omega)) rfl ?_
      refine vl_det (det_assign rfl) rfl ?_
      refine vl_det (det_assign rfl) rfl ?_
      refine vl_end [(4, _), (5, _)] ⟨rfl, rfl, trivial⟩ ?_
      refine then_next ?_
      refine vc_ret ?_
      refine ret2 rfl rfl rfl ?_
      exact ⟨by rw [if_pos h13', decide_eq_true h13', Int.toNat_natCast], rfl⟩
theorem place1_d {g2 g3 : Nat} (t : Txt) (i : Nat) (hi : i < h.length) :
    Does Try.prog B w0 48 [.int .i64 i, .pointer (some ⟨g2, 0, none⟩), .pointer (some ⟨g3, 0, none⟩)] (.blk g3 9 [.string ⟨t.toArray⟩] :: .blk g2 32 [.pointer (some ⟨g, 0, none⟩)] :: Dd g sz A1 c1 A2 c2 o h F) (fun r L => r = .bool (decide (¬ leT (h.getD i []) t)) ∧ L = .blk g3 9 [.string ⟨t.toArray⟩] :: .blk g2 32 [.pointer (some ⟨g, 0, none⟩)] :: Dd g sz A1 c1 A2 c2 o h F) := by
  refine fn_walk Try.func48 14 rfl rfl rfl [(0, .int .i64 i), (1, .pointer (some ⟨g2, 0, none⟩)), (2, .pointer (some ⟨g3, 0, none⟩))] ⟨⟨rfl, rfl⟩, ⟨rfl, rfl⟩, ⟨rfl, rfl⟩, trivial⟩ ?_
  refine vc_seq ?_
  refine vc_region ?_
  refine vl_det (det_assign rfl) rfl ?_
  refine vl_end [(0, _), (1, _), (2, _)] ⟨rfl, rfl, rfl, trivial⟩ ?_
  refine then_next ?_
  refine vc_seq ?_
  refine vq_region (by kernel_rfl) (by kernel_rfl) ?_
  refine vq_det (det_load_blk (by kernel_rfl) rfl (by repeat (first | exact .hd | apply Sel.tl)) rfl) rfl ?_
  refine vq_det (det_nilCheck rfl) rfl ?_
  refine vq_det (det_fieldAddr_ Try.underlying65 rfl (by kernel_rfl) rfl rfl) rfl ?_
  refine vq_det (det_load_blk (by kernel_rfl) rfl (by repeat (first | exact .hd | apply Sel.tl)) rfl) rfl ?_
  refine vq_det (det_move rfl) rfl ?_
  refine vq_det (det_indexAddr (size := 1) Try.underlying22 (by kernel_rfl) rfl rfl rfl (by omega) (by first | (exact Bor.own (by repeat (first | exact List.Mem.head _ | apply List.Mem.tail))) | (repeat (first | assumption | apply Bor.cons)))) rfl ?_
  refine vq_det (det_load_str (b := h) (by kernel_rfl) rfl (by first | (exact Bor.own (by repeat (first | exact List.Mem.head _ | apply List.Mem.tail))) | (repeat (first | assumption | apply Bor.cons))) (by omega)) rfl ?_
  refine vq_det (det_load_blk (by kernel_rfl) rfl (by repeat (first | exact .hd | apply Sel.tl)) rfl) rfl ?_
  refine vq_det (det_s_gtrD rfl rfl) rfl ?_
  refine vq_det (det_assign rfl) rfl ?_
  refine vq_end [(4, _)] ⟨rfl, trivial⟩ ?_
  refine then_next ?_
  refine vc_ret ?_
  refine ret1 rfl rfl ?_
  exact ⟨rfl, rfl⟩
theorem hdS_get {i : Nat} (hi : i < chN sz o.length) : (hdS sz o).getD i [] = o.getD (i * sz) [] := by
  simp [hdS, List.getD, hi]
theorem hdS_len : (hdS sz o).length = chN sz o.length := by simp [hdS]
theorem place_done {t : Txt} {k q f : Nat} (hs1 : 1 ≤ sz) (hR : RisT o) (hk3 : ∀ i, k ≤ i → i < (hdS sz o).length → decide (¬ leT ((hdS sz o).getD i []) t) = true) (hq : q = (k - 1) * sz) (hqf : q ≤ f) (hf : (f : Int) ≤ min ((q : Int) + sz) o.length) (hx : ¬ ((f : Int) < min ((q : Int) + sz) o.length ∧ Op.bytesLess (o.getD f []) t = true)) : ∀ i, f ≤ i → i < o.length → ¬ ltT (o.getD i []) t := by
  intro i hfi hi hlt
  have hlt2 := leT_ltT (hR.le' hfi hi) hlt
  have hfe : f = q + sz := by
    rcases Int.lt_or_le (f : Int) (min ((q : Int) + sz) o.length) with h1 | h1
    · exact absurd ⟨h1, hlt2⟩ hx
    · omega
  have hkf : k * sz ≤ f := by
    rcases Nat.eq_zero_or_pos k with h0 | h0
    · rw [h0]; omega
    · obtain ⟨j, rfl⟩ : ∃ j, k = j + 1 := ⟨k - 1, by omega⟩
      rw [Nat.add_sub_cancel] at hq
      rw [Nat.add_mul, Nat.one_mul]; omega
  have hkN : k < chN sz o.length := (chN_lt hs1).2 (by omega)
  have h := of_decide_eq_true (hk3 k (Nat.le_refl _) (by rw [hdS_len]; exact hkN))
  rw [hdS_get hkN, not_leT] at h
  exact ltT_irrefl _ (ltT_trans hlt (ltT_leT h (hR.le' (by omega) hi)))
theorem place_lo {t : Txt} {k q : Nat} (hs1 : 1 ≤ sz) (hR : RisT o) (hk1 : k ≤ (hdS sz o).length) (hk2 : ∀ i, i < k → decide (¬ leT ((hdS sz o).getD i []) t) = false) (hq : q = (k - 1) * sz) : q ≤ o.length ∧ ∀ i, i < q → ltT (o.getD i []) t := by
  rw [hdS_len] at hk1
  rcases Nat.eq_zero_or_pos k with h0 | h0
  · subst h0; rw [hq]; simp
  · have hkN : k - 1 < chN sz o.length := by omega
    have hlt := (chN_lt hs1).1 hkN
    have h := of_decide_eq_false (hk2 (k - 1) (by omega))
    rw [hdS_get hkN, Classical.not_not, ← hq] at h
    exact ⟨by omega, fun i hi => ltT_leT (hR.lt q i hi (by omega)) h⟩
theorem place_d (t : Txt) (hs1 : 1 ≤ sz) (hs2 : sz ≤ 64) (hR : RisT o) :
    Does Try.prog B w0 33 [.pointer (some ⟨g, 0, none⟩), .string ⟨t.toArray⟩] (Dd g sz A1 c1 A2 c2 o (hdS sz o) F) (fun r L => ∃ k : Nat, plK o t k ∧ r = .int .i64 k ∧ L = Dd g sz A1 c1 A2 c2 o (hdS sz o) F) := by
  have hol := hR.2
  have hhl := hdS_len (sz := sz) (o := o)
  have hcN : chN sz o.length ≤ 1048639 := by
    unfold chN
    exact Nat.le_trans (Nat.div_le_self _ _) (by omega)
  have hmono : ∀ i j, i ≤ j → j < (hdS sz o).length → decide (¬ leT ((hdS sz o).getD i []) t) = true → decide (¬ leT ((hdS sz o).getD j []) t) = true := by
    intro i j hij hj hp
    have hp := of_decide_eq_true hp
    rw [hhl] at hj
    rw [hdS_get (by omega), not_leT] at hp
    refine decide_eq_true ?_
    rw [hdS_get hj, not_leT]
    exact ltT_leT hp (hR.le' (Nat.mul_le_mul_right sz hij) ((chN_lt hs1).1 hj))
  refine fn_walk Try.func33 53 rfl rfl rfl [(0, .pointer (some ⟨g, 0, none⟩)), (1, .string ⟨t.toArray⟩)] ⟨⟨rfl, rfl⟩, ⟨rfl, rfl⟩, trivial⟩ ?_
  refine vc_seq ?_
  refine vc_region ?_
  refine vl_eff (eff_box rfl rfl) rfl ?_
  rintro _ _ ⟨g2, rfl, rfl⟩
  refine vl_eff (eff_box rfl rfl) rfl ?_
  rintro _ _ ⟨g3, rfl, rfl⟩
  refine vl_det (det_assign rfl) rfl ?_
  refine vl_end [(2, _), (3, _)] ⟨rfl, rfl, trivial⟩ ?_
  refine then_next ?_
  refine vc_seq ?_
  refine vc_seq ?_
  refine vc_region ?_
  refine vl_det (det_load_blk (by kernel_rfl) rfl (by repeat (first | exact .hd | apply Sel.tl)) rfl) rfl ?_
  refine vl_call co17 rfl ((dlen_d (sz := sz) (o := o) (h := hdS sz o)).reperm ((pu2 (pu2 (pu2 (pu0 (pu0 (.refl _)))))))) rfl ?_
  rintro _ _ ⟨rfl, hLL⟩
  obtain rfl := hLL.symm
  refine vl_det (det_eql rfl rfl) rfl ?_
  refine vl_end [(2, _), (3, _), (10, _)] ⟨rfl, rfl, rfl, trivial⟩ ?_
  refine then_next ?_
  refine vc_decideU rfl (fun h10 => ?_) (fun h10 => ?_)
  · skip
    refine vc_seq ?_
    refine vc_region ?_
    refine vl_det (det_assign rfl) rfl ?_
    refine vl_end [(4, _)] ⟨rfl, trivial⟩ ?_
    refine then_next ?_
    refine vc_ret ?_
    refine then_ret ?_
    refine ret_wk (L' := Dd g sz A1 c1 A2 c2 o (hdS sz o) F) (.skip (.skip (.refl _))) ?_
    refine ret1 rfl rfl ?_
    exact ⟨0, ⟨Nat.zero_le _, fun i h => absurd h (by omega), fun i _ h => absurd h (by omega)⟩, rfl, rfl⟩
  · skip
    refine vc_skip ?_
    refine then_next ?_
    refine vc_seq ?_
    refine vc_region ?_
    refine vl_det (det_load_blk (by kernel_rfl) rfl (by repeat (first | exact .hd | apply Sel.tl)) rfl) rfl ?_
    refine vl_det (det_nilCheck rfl) rfl ?_
    refine vl_det (det_fieldAddr_ Try.underlying65 rfl (by kernel_rfl) rfl rfl) rfl ?_
    refine vl_det (det_load_blk (by kernel_rfl) rfl (by repeat (first | exact .hd | apply Sel.tl)) rfl) rfl ?_
    refine vl_det (det_len_sl Try.underlying22 rfl) rfl ?_
    refine vl_det (det_makeFunc rfl rfl) rfl ?_
    refine vl_call co47 rfl (search_d (hdS sz o).length (by omega) (caps := [.pointer (some ⟨g2, 0, none⟩), .pointer (some ⟨g3, 0, none⟩)]) co48 (P := fun i => decide (¬ leT ((hdS sz o).getD i []) t)) (fun i hi => place1_d t i hi) hmono) rfl ?_
    rintro _ _ ⟨k, rfl, hLL, hk1, hk2, hk3⟩
    obtain rfl := hLL.symm
    have hmx : max (0 : Int) ((k : Int) - 1) = ((k - 1 : Nat) : Int) := by omega
    have hk1z : (k - 1) * sz ≤ 1048639 * 64 := Nat.mul_le_mul (by omega) hs2
    obtain ⟨q, hq⟩ : ∃ q, q = (k - 1) * sz := ⟨_, rfl⟩
    have hpl := place_lo hs1 hR hk1 hk2 hq
    refine vl_det (det_assign rfl) rfl ?_
    refine vl_end [(2, _), (3, _), (5, _)] ⟨rfl, rfl, rfl, trivial⟩ ?_
    refine then_next ?_
    refine vc_seq ?_
    refine vc_region ?_
    refine vl_det (det_move rfl) rfl ?_
    refine vl_det (det_sub rfl rfl (w_i64 (by omega) (by omega))) rfl ?_
    refine vl_det (det_max rfl rfl) rfl ?_
    rw [hmx]
    refine vl_det (det_load_blk (by kernel_rfl) rfl (by repeat (first | exact .hd | apply Sel.tl)) rfl) rfl ?_
    refine vl_det (det_nilCheck rfl) rfl ?_
    refine vl_det (det_fieldAddr_ Try.underlying65 rfl (by kernel_rfl) rfl rfl) rfl ?_
    refine vl_det (det_load_blk (by kernel_rfl) rfl (by repeat (first | exact .hd | apply Sel.tl)) rfl) rfl ?_
    refine vl_det (det_mul rfl rfl (r := (q : Int)) ((w_i64 (by rw [← Int.natCast_mul]; omega) (by rw [← Int.natCast_mul]; omega)).trans (by rw [hq]; exact Int.natCast_mul _ _))) rfl ?_
    refine vl_det (det_assign rfl) rfl ?_
    refine vl_end [(2, _), (3, _), (6, _)] ⟨rfl, rfl, rfl, trivial⟩ ?_
    refine then_next ?_
    refine vc_seq ?_
    refine vq_region (by kernel_rfl) (by kernel_rfl) ?_
    refine vq_det (det_move rfl) rfl ?_
    refine vq_det (det_load_blk (by kernel_rfl) rfl (by repeat (first | exact .hd | apply Sel.tl)) rfl) rfl ?_
    refine vq_det (det_nilCheck rfl) rfl ?_
    refine vq_det (det_fieldAddr_ Try.underlying65 rfl (by kernel_rfl) rfl rfl) rfl ?_
    refine vq_det (det_load_blk (by kernel_rfl) rfl (by repeat (first | exact .hd | apply Sel.tl)) rfl) rfl ?_
    refine vq_det (det_add rfl rfl (w_i64 (by omega) (by omega))) rfl ?_
    refine vq_det (det_load_blk (by kernel_rfl) rfl (by repeat (first | exact .hd | apply Sel.tl)) rfl) rfl ?_
    refine vq_call co17 rfl ((dlen_d (sz := sz) (o := o) (h := hdS sz o)).reperm ((pu2 (pu2 (pu2 (pu0 (pu0 (.refl _)))))))) (by rintro _ _ ⟨rfl, rfl⟩; exact ⟨rfl, List.Sublist.refl _⟩) rfl ?_
    refine vq_det (det_min rfl rfl) rfl ?_
    refine vq_det (det_assign rfl) rfl ?_
    refine vq_end [(2, _), (3, _), (6, _), (7, _)] ⟨rfl, rfl, rfl, rfl, trivial⟩ ?_
    refine then_next ?_
    refine vc_seq ?_
    refine vc_block ?_
    refine vc_loopJ (fun zf zL zm => ∃ (f : Nat), (q ≤ f ∧ (f : Int) ≤ min ((q : Int) + sz) o.length ∧ (∀ i, i < f → ltT (o.getD i []) t)) ∧ o.length - f = zm ∧ Sub zf [(2, .pointer (some ⟨g2, 0, none⟩)), (3, .pointer (some ⟨g3, 0, none⟩)), (6, .int .i64 f), (7, .int .i64 (min ((q : Int) + sz) o.length))] ∧ Wk zL (.blk g3 9 [.string ⟨t.toArray⟩] :: .blk g2 32 [.pointer (some ⟨g, 0, none⟩)] :: Dd g sz A1 c1 A2 c2 o (hdS sz o) F)) _ ⟨q, ⟨Nat.le_refl _, by omega, hpl.2⟩, rfl, ⟨(by first | rfl | exact int_to (by omega) | exact sl_to (by omega)), (by first | rfl | exact int_to (by omega) | exact sl_to (by omega)), (by first | rfl | exact int_to (by omega) | exact sl_to (by omega)), (by first | rfl | exact int_to (by omega) | exact sl_to (by omega)), trivial⟩, .refl _⟩ ?_
    rintro _ _ _ ⟨f, ⟨hqf, hf, hlo⟩, rfl, hs, hp⟩
    refine vc_weaken _ hs (vc_wk hp ?_)
    clear hs hp
    refine vc_seq ?_
    refine vc_seq ?_
    refine vq_region (by kernel_rfl) (by kernel_rfl) ?_
    refine vq_cut 15 49 [(2, _), (3, _), (6, _), (7, _)] ((f : Int) < min ((q : Int) + sz) o.length ∧ Op.bytesLess (o.getD f []) t = true) ⟨rfl, rfl, rfl, rfl, trivial⟩ ?_ ?_
    · skip
      refine vq_det (det_move rfl) rfl ?_
      refine vq_det (det_move rfl) rfl ?_
      refine vq_det (det_lss rfl rfl) rfl ?_
      refine vq_det (det_move rfl) rfl ?_
      refine vq_guardp rfl rfl rfl (fun h38 => ?_) (fun h38 => ?_)
      · skip
        refine vq_det (det_load_blk (by kernel_rfl) rfl (by repeat (first | exact .hd | apply Sel.tl)) rfl) rfl ?_
        refine vq_guard_t rfl rfl ?_
        refine vq_det (det_nilCheck rfl) rfl ?_
        refine vq_guard_t rfl rfl ?_
        refine vq_det (det_fieldAddr_ Try.underlying65 rfl (by kernel_rfl) rfl rfl) rfl ?_
        refine vq_guard_t rfl rfl ?_
        refine vq_det (det_fieldAddr_ Try.underlying63 rfl (by kernel_rfl) rfl rfl) rfl ?_
        refine vq_guard_t rfl rfl ?_
        refine vq_det (det_load_blk (by kernel_rfl) rfl (by repeat (first | exact .hd | apply Sel.tl)) rfl) rfl ?_
        refine vq_guard_t rfl rfl ?_
        refine vq_det (det_move rfl) rfl ?_
        refine vq_guard_t rfl rfl ?_
        refine vq_det (det_indexAddr (size := 1) Try.underlying22 (by kernel_rfl) rfl rfl rfl (by omega) (by first | (exact Bor.own (by repeat (first | exact List.Mem.head _ | apply List.Mem.tail))) | (repeat (first | assumption | apply Bor.cons)))) rfl ?_
        refine vq_guard_t rfl rfl ?_
        refine vq_det (det_load_str (b := o) (j := f) (by kernel_rfl) rfl (by first | (exact Bor.own (by repeat (first | exact List.Mem.head _ | apply List.Mem.tail))) | (repeat (first | assumption | apply Bor.cons))) (by omega)) rfl ?_
        refine vq_guard_t rfl rfl ?_
        refine vq_det (det_load_blk (by kernel_rfl) rfl (by repeat (first | exact .hd | apply Sel.tl)) rfl) rfl ?_
        refine vq_guard_t rfl rfl ?_
        refine vq_det (det_s_lssD rfl rfl) rfl ?_
        refine vq_det (det_pick_t rfl rfl) rfl ?_
        exact vq_cut_end ⟨rfl, rfl, rfl, rfl, trivial⟩ (by first | rfl | exact bool_to_t (by first | omega | simp_all) | exact bool_to_f (by first | omega | simp_all) | exact bool_to (by first | omega | simp_all) | exact bool_to_b (by first | omega | simp_all))
      · skip
        refine vq_guard_f rfl rfl rfl rfl ?_
        refine vq_guard_f rfl rfl rfl rfl ?_
        refine vq_guard_f rfl rfl rfl rfl ?_
        refine vq_guard_f rfl rfl rfl rfl ?_
        refine vq_guard_f rfl rfl rfl rfl ?_
        refine vq_guard_f rfl rfl rfl rfl ?_
        refine vq_guard_f rfl rfl rfl rfl ?_
        refine vq_guard_f rfl rfl rfl rfl ?_
        refine vq_guard_f rfl rfl rfl rfl ?_
        refine vq_det (det_pick_f rfl rfl) rfl ?_
        exact vq_cut_end ⟨rfl, rfl, rfl, rfl, trivial⟩ (by first | rfl | exact bool_to_t (by first | omega | simp_all) | exact bool_to_f (by first | omega | simp_all) | exact bool_to (by first | omega | simp_all) | exact bool_to_b (by first | omega | simp_all))
    · skip
      refine vq_end [(2, _), (3, _), (6, _), (7, _), (49, _)] ⟨rfl, rfl, rfl, rfl, rfl, trivial⟩ ?_
      refine then_next ?_
      refine vc_decideU rfl (fun h49 => ?_) (fun h49 => ?_)
      · skip
        refine vc_skip ?_
        refine then_next ?_
        refine vc_block ?_
        refine vc_region ?_
        refine vl_det (det_move rfl) rfl ?_
        refine vl_det (det_add rfl rfl (w_i64 (by omega) (by omega))) rfl ?_
        refine vl_det (det_assign rfl) rfl ?_
        refine vl_end [(2, _), (3, _), (6, _), (7, _)] ⟨rfl, rfl, rfl, rfl, trivial⟩ ?_
        refine in_normal ?_
        refine in_loop_ ⟨_, by omega, f + 1, ⟨by omega, by omega, fun i hi => by
  rcases Nat.lt_or_ge i f with h | h
  · exact hlo i h
  · rw [show i = f by omega]; exact h49.2⟩, rfl, ⟨(by first | rfl | exact int_to (by omega) | exact sl_to (by omega)), (by first | rfl | exact int_to (by omega) | exact sl_to (by omega)), (by first | rfl | exact int_to (by omega) | exact sl_to (by omega)), (by first | rfl | exact int_to (by omega) | exact sl_to (by omega)), trivial⟩, .refl _⟩
      · skip
        refine vc_exit ?_
        refine then_exit ?_
        refine loop_exit ?_
        refine in_eq ?_
        refine then_next ?_
        refine vc_seq ?_
        refine vc_region ?_
        refine vl_det (det_move rfl) rfl ?_
        refine vl_det (det_assign rfl) rfl ?_
        refine vl_end [(4, _)] ⟨rfl, trivial⟩ ?_
        refine then_next ?_
        refine vc_ret ?_
        refine ret_wk (L' := Dd g sz A1 c1 A2 c2 o (hdS sz o) F) (.skip (.skip (.refl _))) ?_
        refine ret1 rfl rfl ?_
        exact ⟨f, ⟨by omega, hlo, place_done hs1 hR hk3 hq hqf hf h49⟩, rfl, rfl⟩
theorem plK.find {t : Txt} {k : Nat} (hk : plK o t k) (hR : RisT o) : (k < o.length ∧ o.getD k [] = t) ↔ t ∈ o := by
  constructor
  · rintro ⟨h1, h2⟩
    rw [← h2, List.getD_eq_getElem?_getD, List.getElem?_eq_getElem h1]; exact List.getElem_mem _
  · intro h
    obtain ⟨i, hi, he⟩ := List.getElem_of_mem h
    have he : o.getD i [] = t := by rw [List.getD_eq_getElem?_getD, List.getElem?_eq_getElem hi]; exact he
    have h1 : k ≤ i := by
      rcases Nat.lt_or_ge i k with h | h
      · exact absurd (he ▸ hk.2.1 i h) (ltT_irrefl _)
      · exact h
    rcases Nat.lt_or_ge k i with h2 | h2
    · exact absurd (he ▸ hR.lt i k h2 hi) (hk.2.2 k (Nat.le_refl _) (by omega))
    · exact ⟨by omega, by rw [show k = i by omega]; exact he⟩
/-- a text's place -/
def fndK (o : List Txt) (t : Txt) (k : Nat) : Prop := (t ∈ o ∧ k < o.length ∧ o.getD k [] = t) ∨ (t ∉ o ∧ k = 0)
theorem dfind_d (t : Txt) (hs1 : 1 ≤ sz) (hs2 : sz ≤ 64) (hR : RisT o) :
    Does Try.prog B w0 15 [.pointer (some ⟨g, 0, none⟩), .string ⟨t.toArray⟩] (Dd g sz A1 c1 A2 c2 o (hdS sz o) F) (fun r L => ∃ k : Nat, fndK o t k ∧ r = .tuple #[.int .i64 k, .bool (decide (t ∈ o))] ∧ L = Dd g sz A1 c1 A2 c2 o (hdS sz o) F) := by
  have hol := hR.2
  refine fn_walk Try.func15 26 rfl rfl rfl [(0, .pointer (some ⟨g, 0, none⟩)), (1, .string ⟨t.toArray⟩)] ⟨⟨rfl, rfl⟩, ⟨rfl, rfl⟩, trivial⟩ ?_
  refine vc_seq ?_
  refine vc_region ?_
  refine vl_det (det_assign rfl) rfl ?_
  refine vl_det (det_assign rfl) rfl ?_
  refine vl_end [(0, _), (1, _)] ⟨rfl, rfl, trivial⟩ ?_
  refine then_next ?_
  refine vc_seq ?_
  refine vc_region ?_
  refine vl_det (det_move rfl) rfl ?_
  refine vl_det (det_move rfl) rfl ?_
  refine vl_call co33 rfl (place_d t hs1 hs2 hR) rfl ?_
  rintro _ _ ⟨k, hK, rfl, hLL⟩
  obtain rfl := hLL.symm
  have hF := hK.find hR
  have hkl := hK.1
  refine vl_det (det_assign rfl) rfl ?_
  refine vl_end [(0, _), (1, _), (6, _)] ⟨rfl, rfl, rfl, trivial⟩ ?_
  refine then_next ?_
  refine vc_seq ?_
  refine vc_seq ?_
  refine vc_region ?_
  refine vl_det (det_move rfl) rfl ?_
  refine vl_det (det_move rfl) rfl ?_
  refine vl_call co14 rfl (dat_d (k : Int)) rfl ?_
  rintro _ _ ⟨rfl, hLL⟩
  obtain rfl := hLL.symm
  refine vl_det (det_move rfl) rfl ?_
  refine vl_det (det_extract rfl rfl) rfl ?_
  refine vl_det (det_extract rfl rfl) rfl ?_
  refine vl_det (det_assign rfl) rfl ?_
  refine vl_det (det_assign rfl) rfl ?_
  refine vl_end [(1, _), (6, _), (7, _), (8, _)] ⟨rfl, rfl, rfl, rfl, trivial⟩ ?_
  refine then_next ?_
  refine vc_seq ?_
  refine vc_region ?_
  refine vl_cut 7 24 [(6, _)] (t ∉ o) ⟨rfl, trivial⟩ ?_ ?_
  · skip
    refine vl_det (det_move rfl) rfl ?_
    refine vl_det (det_notd rfl) rfl ?_
    refine vl_det (det_move rfl) rfl ?_
    refine vl_guardn rfl rfl rfl (fun h20 => ?_) (fun h20 => ?_)
    · skip
      refine vl_det (det_move rfl) rfl ?_
      refine vl_guard_t rfl rfl ?_
      refine vl_det (det_move rfl) rfl ?_
      refine vl_guard_t rfl rfl ?_
      refine vl_det (det_s_neq rfl rfl) rfl ?_
      refine vl_det (det_pick_f rfl rfl) rfl ?_
      exact vl_cut_end ⟨rfl, trivial⟩ (by first | rfl | exact bool_to_t (by first | exact fun h => h20 ⟨by omega, by have := (hF.2 h).1; omega⟩ | (rw [if_pos (Classical.not_not.1 h20), Int.toNat_natCast, ← hF]; exact ⟨fun h g => h g.2, fun h g => h ⟨by omega, g⟩⟩)) | exact bool_to_f (by first | exact fun h => h20 ⟨by omega, by have := (hF.2 h).1; omega⟩ | (rw [if_pos (Classical.not_not.1 h20), Int.toNat_natCast, ← hF]; exact ⟨fun h g => h g.2, fun h g => h ⟨by omega, g⟩⟩)) | exact bool_to (by first | exact fun h => h20 ⟨by omega, by have := (hF.2 h).1; omega⟩ | (rw [if_pos (Classical.not_not.1 h20), Int.toNat_natCast, ← hF]; exact ⟨fun h g => h g.2, fun h g => h ⟨by omega, g⟩⟩)) | exact bool_to_b (by first | exact fun h => h20 ⟨by omega, by have := (hF.2 h).1; omega⟩ | (rw [if_pos (Classical.not_not.1 h20), Int.toNat_natCast, ← hF]; exact ⟨fun h g => h g.2, fun h g => h ⟨by omega, g⟩⟩)))
    · skip
      refine vl_guard_f rfl rfl rfl rfl ?_
      refine vl_guard_f rfl rfl rfl rfl ?_
      refine vl_det (det_pick_t rfl rfl) rfl ?_
      exact vl_cut_end ⟨rfl, trivial⟩ (by first | rfl | exact bool_to_t (by first | exact fun h => h20 ⟨by omega, by have := (hF.2 h).1; omega⟩ | (rw [if_pos (Classical.not_not.1 h20), Int.toNat_natCast, ← hF]; exact ⟨fun h g => h g.2, fun h g => h ⟨by omega, g⟩⟩)) | exact bool_to_f (by first | exact fun h => h20 ⟨by omega, by have := (hF.2 h).1; omega⟩ | (rw [if_pos (Classical.not_not.1 h20), Int.toNat_natCast, ← hF]; exact ⟨fun h g => h g.2, fun h g => h ⟨by omega, g⟩⟩)) | exact bool_to (by first | exact fun h => h20 ⟨by omega, by have := (hF.2 h).1; omega⟩ | (rw [if_pos (Classical.not_not.1 h20), Int.toNat_natCast, ← hF]; exact ⟨fun h g => h g.2, fun h g => h ⟨by omega, g⟩⟩)) | exact bool_to_b (by first | exact fun h => h20 ⟨by omega, by have := (hF.2 h).1; omega⟩ | (rw [if_pos (Classical.not_not.1 h20), Int.toNat_natCast, ← hF]; exact ⟨fun h g => h g.2, fun h g => h ⟨by omega, g⟩⟩)))
  · skip
    refine vl_end [(6, _), (24, _)] ⟨rfl, rfl, trivial⟩ ?_
    refine then_next ?_
    refine vc_decideU rfl (fun h24 => ?_) (fun h24 => ?_)
    · skip
      refine vc_seq ?_
      refine vc_region ?_
      refine vl_det (det_assign rfl) rfl ?_
      refine vl_det (det_assign rfl) rfl ?_
      refine vl_end [(4, _), (5, _)] ⟨rfl, rfl, trivial⟩ ?_
      refine then_next ?_
      refine vc_ret ?_
      refine then_ret ?_
      refine ret2 rfl rfl rfl ?_
      exact ⟨0, .inr ⟨h24, rfl⟩, by rw [decide_eq_false h24]; rfl, rfl⟩
    · skip
      refine vc_skip ?_
      refine then_next ?_
      refine vc_seq ?_
      refine vc_region ?_
      refine vl_det (det_move rfl) rfl ?_
      refine vl_det (det_assign rfl) rfl ?_
      refine vl_det (det_assign rfl) rfl ?_
      refine vl_end [(4, _), (5, _)] ⟨rfl, rfl, trivial⟩ ?_
      refine then_next ?_
      refine vc_ret ?_
      refine ret2 rfl rfl rfl ?_
      have h24' := Classical.not_not.1 h24
      exact ⟨k, .inl ⟨h24', hF.2 h24'⟩, by rw [decide_eq_true h24'], rfl⟩
theorem range_done {t : Txt} {k f : Nat} (hR : RisT o) (hK : plK o t k) (hkf : k ≤ f) (hf : f ≤ o.length) (hlo : ∀ i, k ≤ i → i < f → bgT (o.getD i []) t) (hx : ¬ (f < o.length ∧ bgT (o.getD f []) t)) : rgK o t (if k = f then 0 else k) (if k = f then 0 else f) := by
  have h1 : ∀ i, i < k → ¬ bgT (o.getD i []) t := fun i hi hb => bgT_ge hb (hK.2.1 i hi)
  have h2 : ∀ i, f ≤ i → i < o.length → ¬ bgT (o.getD i []) t := by
    intro i hi hio
    have hn : ¬ bgT (o.getD f []) t := fun h => hx ⟨by omega, h⟩
    rcases Nat.eq_or_lt_of_le hi with h | h
    · rw [← h]; exact hn
    · exact bgT_past (not_ltT.1 (hK.2.2 f hkf (by omega))) hn (hR.lt i f h hio)
  by_cases e : k = f
  · rw [if_pos e, if_pos e]
    refine ⟨by omega, fun i hi => ⟨fun hb => ?_, fun h => absurd h.2 (by omega)⟩, .inr ⟨rfl, rfl⟩⟩
    rcases Nat.lt_or_ge i k with h | h
    · exact absurd hb (h1 i h)
    · exact absurd hb (h2 i (by omega) hi)
  · rw [if_neg e, if_neg e]
    refine ⟨hf, fun i hi => ⟨fun hb => ?_, fun h => hlo i h.1 h.2⟩, .inl (by omega)⟩
    constructor
    · exact Nat.le_of_not_lt fun h => h1 i h hb
    · exact Nat.lt_of_not_le fun h => h2 i h hi hb
theorem hasp0_d (x t : Txt) : Does Try.prog B w0 49 [.string ⟨x.toArray⟩, .string ⟨t.toArray⟩] F (fun r L => r = .bool (decide (bgT x t)) ∧ L = F) := by
  refine fn_walk Try.func49 18 rfl rfl rfl [(0, .string ⟨x.toArray⟩), (1, .string ⟨t.toArray⟩)] ⟨⟨rfl, rfl⟩, ⟨rfl, rfl⟩, trivial⟩ ?_
  refine vc_seq ?_
  refine vc_region ?_
  refine vl_det (det_assign rfl) rfl ?_
  refine vl_end [(0, _), (1, _)] ⟨rfl, rfl, trivial⟩ ?_
  refine then_next ?_
  refine vc_seq ?_
  refine vc_region ?_
  refine vl_cut 13 17 [] (bgT x t) trivial ?_ ?_
  · skip
    refine vl_det (det_move rfl) rfl ?_
    refine vl_det (det_len_s Try.underlying9 rfl) rfl ?_
    refine vl_det (det_move rfl) rfl ?_
    refine vl_det (det_len_s Try.underlying9 rfl) rfl ?_
    refine vl_det (det_geq rfl rfl) rfl ?_
    refine vl_det (det_move rfl) rfl ?_
    refine vl_guardp rfl rfl rfl (fun h10 => ?_) (fun h10 => ?_)
    · skip
      refine vl_det (det_move rfl) rfl ?_
      refine vl_guard_t rfl rfl ?_
      refine vl_det (det_move rfl) rfl ?_
      refine vl_guard_t rfl rfl ?_
      refine vl_det (det_len_s Try.underlying9 rfl) rfl ?_
      refine vl_guard_t rfl rfl ?_
      refine vl_det (det_str_hi Try.underlying9 rfl rfl rfl (by omega)) rfl ?_
      refine vl_guard_t rfl rfl ?_
      refine vl_det (det_move rfl) rfl ?_
      refine vl_guard_t rfl rfl ?_
      refine vl_det (det_s_eql rfl rfl) rfl ?_
      refine vl_det (det_pick_t rfl rfl) rfl ?_
      exact vl_cut_end trivial (by first | rfl | exact bool_to_t (by first | exact fun h => absurd h.1 (by omega) | exact ⟨fun h => ⟨by omega, h⟩, fun h => h.2⟩) | exact bool_to_f (by first | exact fun h => absurd h.1 (by omega) | exact ⟨fun h => ⟨by omega, h⟩, fun h => h.2⟩) | exact bool_to (by first | exact fun h => absurd h.1 (by omega) | exact ⟨fun h => ⟨by omega, h⟩, fun h => h.2⟩) | exact bool_to_b (by first | exact fun h => absurd h.1 (by omega) | exact ⟨fun h => ⟨by omega, h⟩, fun h => h.2⟩))
    · skip
      refine vl_guard_f rfl rfl rfl rfl ?_
      refine vl_guard_f rfl rfl rfl rfl ?_
      refine vl_guard_f rfl rfl rfl rfl ?_
      refine vl_guard_f rfl rfl rfl rfl ?_
      refine vl_guard_f rfl rfl rfl rfl ?_
      refine vl_det (det_pick_f rfl rfl) rfl ?_
      exact vl_cut_end trivial (by first | rfl | exact bool_to_t (by first | exact fun h => absurd h.1 (by omega) | exact ⟨fun h => ⟨by omega, h⟩, fun h => h.2⟩) | exact bool_to_f (by first | exact fun h => absurd h.1 (by omega) | exact ⟨fun h => ⟨by omega, h⟩, fun h => h.2⟩) | exact bool_to (by first | exact fun h => absurd h.1 (by omega) | exact ⟨fun h => ⟨by omega, h⟩, fun h => h.2⟩) | exact bool_to_b (by first | exact fun h => absurd h.1 (by omega) | exact ⟨fun h => ⟨by omega, h⟩, fun h => h.2⟩))
  · skip
    refine vl_det (det_assign rfl) rfl ?_
    refine vl_end [(4, _)] ⟨rfl, trivial⟩ ?_
    refine then_next ?_
    refine vc_ret ?_
    refine ret1 rfl rfl ?_
    exact ⟨rfl, rfl⟩
theorem hasp_d (x t : Txt) : Does Try.prog B w0 34 [.string ⟨x.toArray⟩, .string ⟨t.toArray⟩] F (fun r L => r = .bool (decide (bgT x t)) ∧ L = F) := by
  refine fn_walk Try.func34 8 rfl rfl rfl [(0, .string ⟨x.toArray⟩), (1, .string ⟨t.toArray⟩)] ⟨⟨rfl, rfl⟩, ⟨rfl, rfl⟩, trivial⟩ ?_
  refine vc_seq ?_
  refine vc_region ?_
  refine vl_det (det_assign rfl) rfl ?_
  refine vl_end [(0, _), (1, _)] ⟨rfl, rfl, trivial⟩ ?_
  refine then_next ?_
  refine vc_seq ?_
  refine vc_region ?_
  refine vl_det (det_move rfl) rfl ?_
  refine vl_det (det_move rfl) rfl ?_
  refine vl_call co49 rfl (hasp0_d x t) rfl ?_
  rintro _ _ ⟨rfl, hLL⟩
  obtain rfl := hLL.symm
  refine vl_det (det_assign rfl) rfl ?_
  refine vl_end [(4, _)] ⟨rfl, trivial⟩ ?_
  refine then_next ?_
  refine vc_ret ?_
  refine ret1 rfl rfl ?_
  exact ⟨rfl, rfl⟩
theorem drange_d (t : Txt) (hs1 : 1 ≤ sz) (hs2 : sz ≤ 64) (hR : RisT o) :
    Does Try.prog B w0 16 [.pointer (some ⟨g, 0, none⟩), .string ⟨t.toArray⟩] (Dd g sz A1 c1 A2 c2 o (hdS sz o) F) (fun r L => ∃ a b : Nat, rgK o t a b ∧ r = .tuple #[.int .i64 a, .int .i64 b] ∧ L = Dd g sz A1 c1 A2 c2 o (hdS sz o) F) := by
  have hol := hR.2
  refine fn_walk Try.func16 35 rfl rfl rfl [(0, .pointer (some ⟨g, 0, none⟩)), (1, .string ⟨t.toArray⟩)] ⟨⟨rfl, rfl⟩, ⟨rfl, rfl⟩, trivial⟩ ?_
  refine vc_seq ?_
  refine vc_region ?_
  refine vl_det (det_assign rfl) rfl ?_
  refine vl_det (det_assign rfl) rfl ?_
  refine vl_end [(0, _), (1, _)] ⟨rfl, rfl, trivial⟩ ?_
  refine then_next ?_
  refine vc_seq ?_
  refine vc_region ?_
  refine vl_det (det_move rfl) rfl ?_
  refine vl_det (det_move rfl) rfl ?_
  refine vl_call co33 rfl (place_d t hs1 hs2 hR) rfl ?_
  rintro _ _ ⟨k, hK, rfl, hLL⟩
  obtain rfl := hLL.symm
  refine vl_det (det_assign rfl) rfl ?_
  refine vl_end [(0, _), (1, _), (6, _)] ⟨rfl, rfl, rfl, trivial⟩ ?_
  refine then_next ?_
  refine vc_seq ?_
  refine vc_region ?_
  refine vl_det (det_move rfl) rfl ?_
  refine vl_det (det_assign rfl) rfl ?_
  refine vl_end [(0, _), (1, _), (6, _), (7, _)] ⟨rfl, rfl, rfl, rfl, trivial⟩ ?_
  refine then_next ?_
  refine vc_seq ?_
  refine vc_block ?_
  refine vc_loopJ (fun zf zL zm => ∃ (f : Nat), (k ≤ f ∧ f ≤ o.length ∧ (∀ i, k ≤ i → i < f → bgT (o.getD i []) t)) ∧ o.length - f = zm ∧ Sub zf [(0, .pointer (some ⟨g, 0, none⟩)), (1, .string ⟨t.toArray⟩), (6, .int .i64 k), (7, .int .i64 f)] ∧ Wk zL (Dd g sz A1 c1 A2 c2 o (hdS sz o) F)) _ ⟨k, ⟨Nat.le_refl _, hK.1, fun i h1 h2 => absurd h1 (by omega)⟩, rfl, ⟨(by first | rfl | exact int_to (by omega) | exact sl_to (by omega)), (by first | rfl | exact int_to (by omega) | exact sl_to (by omega)), (by first | rfl | exact int_to (by omega) | exact sl_to (by omega)), (by first | rfl | exact int_to (by omega) | exact sl_to (by omega)), trivial⟩, .refl _⟩ ?_
  rintro _ _ _ ⟨f, ⟨hkf, hf, hlo⟩, rfl, hs, hp⟩
  refine vc_weaken _ hs (vc_wk hp ?_)
  clear hs hp
  refine vc_seq ?_
  refine vc_seq ?_
  refine vc_region ?_
  refine vl_cut 16 27 [(0, _), (1, _), (6, _), (7, _)] (f < o.length ∧ bgT (o.getD f []) t) ⟨rfl, rfl, rfl, rfl, trivial⟩ ?_ ?_
  · skip
    refine vl_det (det_move rfl) rfl ?_
    refine vl_det (det_move rfl) rfl ?_
    refine vl_call co17 rfl (dlen_d) rfl ?_
    rintro _ _ ⟨rfl, hLL⟩
    obtain rfl := hLL.symm
    refine vl_det (det_lss rfl rfl) rfl ?_
    refine vl_det (det_move rfl) rfl ?_
    refine vl_guardp rfl rfl rfl (fun h16 => ?_) (fun h16 => ?_)
    · skip
      refine vl_det (det_move rfl) rfl ?_
      refine vl_guard_t rfl rfl ?_
      refine vl_det (det_nilCheck rfl) rfl ?_
      refine vl_guard_t rfl rfl ?_
      refine vl_det (det_fieldAddr_ Try.underlying65 rfl (by kernel_rfl) rfl rfl) rfl ?_
      refine vl_guard_t rfl rfl ?_
      refine vl_det (det_fieldAddr_ Try.underlying63 rfl (by kernel_rfl) rfl rfl) rfl ?_
      refine vl_guard_t rfl rfl ?_
      refine vl_det (det_load_blk (by kernel_rfl) rfl (by repeat (first | exact .hd | apply Sel.tl)) rfl) rfl ?_
      refine vl_guard_t rfl rfl ?_
      refine vl_det (det_move rfl) rfl ?_
      refine vl_guard_t rfl rfl ?_
      refine vl_det (det_indexAddr (size := 1) Try.underlying22 (by kernel_rfl) rfl rfl rfl (by omega) (by first | (exact Bor.own (by repeat (first | exact List.Mem.head _ | apply List.Mem.tail))) | (repeat (first | assumption | apply Bor.cons)))) rfl ?_
      refine vl_guard_t rfl rfl ?_
      refine vl_det (det_load_str (b := o) (j := f) (by kernel_rfl) rfl (by first | (exact Bor.own (by repeat (first | exact List.Mem.head _ | apply List.Mem.tail))) | (repeat (first | assumption | apply Bor.cons))) (by omega)) rfl ?_
      refine vl_guard_t rfl rfl ?_
      refine vl_det (det_move rfl) rfl ?_
      refine vl_guard_t rfl rfl ?_
      refine vl_call co34 rfl (hasp_d (o.getD f []) t) rfl ?_
      rintro _ _ ⟨rfl, hLL⟩
      obtain rfl := hLL.symm
      refine vl_det (det_pick_t rfl rfl) rfl ?_
      exact vl_cut_end ⟨rfl, rfl, rfl, rfl, trivial⟩ (by first | rfl | exact bool_to_t (by first | omega | exact ⟨fun h => ⟨by omega, h⟩, fun h => h.2⟩) | exact bool_to_f (by first | omega | exact ⟨fun h => ⟨by omega, h⟩, fun h => h.2⟩) | exact bool_to (by first | omega | exact ⟨fun h => ⟨by omega, h⟩, fun h => h.2⟩) | exact bool_to_b (by first | omega | exact ⟨fun h => ⟨by omega, h⟩, fun h => h.2⟩))
    · skip
      refine vl_guard_f rfl rfl rfl rfl ?_
      refine vl_guard_f rfl rfl rfl rfl ?_
      refine vl_guard_f rfl rfl rfl rfl ?_
      refine vl_guard_f rfl rfl rfl rfl ?_
      refine vl_guard_f rfl rfl rfl rfl ?_
      refine vl_guard_f rfl rfl rfl rfl ?_
      refine vl_guard_f rfl rfl rfl rfl ?_
      refine vl_guard_f rfl rfl rfl rfl ?_
      refine vl_guard_f rfl rfl rfl rfl ?_
      refine vl_det (det_pick_f rfl rfl) rfl ?_
      exact vl_cut_end ⟨rfl, rfl, rfl, rfl, trivial⟩ (by first | rfl | exact bool_to_t (by first | omega | exact ⟨fun h => ⟨by omega, h⟩, fun h => h.2⟩) | exact bool_to_f (by first | omega | exact ⟨fun h => ⟨by omega, h⟩, fun h => h.2⟩) | exact bool_to (by first | omega | exact ⟨fun h => ⟨by omega, h⟩, fun h => h.2⟩) | exact bool_to_b (by first | omega | exact ⟨fun h => ⟨by omega, h⟩, fun h => h.2⟩))
  · skip
    refine vl_end [(0, _), (1, _), (6, _), (7, _), (27, _)] ⟨rfl, rfl, rfl, rfl, rfl, trivial⟩ ?_
    refine then_next ?_
    refine vc_decideU rfl (fun h27 => ?_) (fun h27 => ?_)
    · skip
      refine vc_skip ?_
      refine then_next ?_
      refine vc_block ?_
      refine vc_region ?_
      refine vl_det (det_move rfl) rfl ?_
      refine vl_det (det_add rfl rfl (w_i64 (by omega) (by omega))) rfl ?_
      refine vl_det (det_assign rfl) rfl ?_
      refine vl_end [(0, _), (1, _), (6, _), (7, _)] ⟨rfl, rfl, rfl, rfl, trivial⟩ ?_
      refine in_normal ?_
      refine in_loop_ ⟨_, by omega, f + 1, ⟨by omega, by omega, fun i h1 h2 => by
  rcases Nat.lt_or_ge i f with h | h
  · exact hlo i h1 h
  · rw [show i = f by omega]; exact h27.2⟩, rfl, ⟨(by first | rfl | exact int_to (by omega) | exact sl_to (by omega)), (by first | rfl | exact int_to (by omega) | exact sl_to (by omega)), (by first | rfl | exact int_to (by omega) | exact sl_to (by omega)), (by first | rfl | exact int_to (by omega) | exact sl_to (by omega)), trivial⟩, .refl _⟩
    · skip
      have hG := range_done hR hK hkf hf hlo h27
      refine vc_exit ?_
      refine then_exit ?_
      refine loop_exit ?_
      refine in_eq ?_
      refine then_next ?_
      refine vc_seq ?_
      refine vc_seq ?_
      refine vc_region ?_
      refine vl_det (det_move rfl) rfl ?_
      refine vl_det (det_move rfl) rfl ?_
      refine vl_det (det_eql rfl rfl) rfl ?_
      refine vl_end [(6, _), (7, _), (32, _)] ⟨rfl, rfl, rfl, trivial⟩ ?_
      refine then_next ?_
      refine vc_decideU rfl (fun h32 => ?_) (fun h32 => ?_)
      · skip
        refine vc_seq ?_
        refine vc_region ?_
        refine vl_det (det_assign rfl) rfl ?_
        refine vl_det (det_assign rfl) rfl ?_
        refine vl_end [(4, _), (5, _)] ⟨rfl, rfl, trivial⟩ ?_
        refine then_next ?_
        refine vc_ret ?_
        refine then_ret ?_
        refine ret2 rfl rfl rfl ?_
        rw [if_pos (by omega), if_pos (by omega)] at hG
        exact ⟨0, 0, hG, rfl, rfl⟩
      · skip
        refine vc_skip ?_
        refine then_next ?_
        refine vc_seq ?_
        refine vc_region ?_
        refine vl_det (det_move rfl) rfl ?_
        refine vl_det (det_move rfl) rfl ?_
        refine vl_det (det_assign rfl) rfl ?_
        refine vl_det (det_assign rfl) rfl ?_
        refine vl_end [(4, _), (5, _)] ⟨rfl, rfl, trivial⟩ ?_
        refine then_next ?_
        refine vc_ret ?_
        refine ret2 rfl rfl rfl ?_
        rw [if_neg (by omega), if_neg (by omega)] at hG
        exact ⟨k, f, hG, rfl, rfl⟩
end Go.Proofs.Ytbkaoncopohdbaa

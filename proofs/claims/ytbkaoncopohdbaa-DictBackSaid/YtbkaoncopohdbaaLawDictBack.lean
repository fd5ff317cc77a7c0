/-
  'DictBack': what was written is read, whatever stands behind it. No condition.
-/
import Derived.Test.YtbkaoncopohdbaaDictL
import Derived.Test.YtbkaoncopohdbaaDictH
import Derived.Test.YtbkaoncopohdbaaDictR
import Derived.Test.YtbkaoncopohdbaaRows
import Derived.Test.YtbkaoncopohdbaaOpen
namespace Go.Proofs.Ytbkaoncopohdbaa.lawDictBack
open Go.ChangeShapes Go.WideShapes Go.ChangeAt Go.RowKit
open Go.ChangeMaps (open_string shut_string)
set_option linter.unusedVariables false
set_option maxRecDepth 20000
theorem walk (w : World) (size : Int) (hsz : -9223372036854775808 ≤ size ∧ size ≤ 9223372036854775807) (v : Value) (ls : List ByteArray) (hr : Rd w w.heap.size 1 v ls.length (ls.flatMap fun s => [.string s])) (ho : ∀ s ∈ ls, s.size ≤ maxLen) (hm : ls.length ≤ maxLen)
    (v2 : Value) (more : List UInt8) (hr2 : Rd w w.heap.size 1 v2 more.length (bv more)) (hm2 : more.length ≤ maxLen) :
    Calls Try.prog 5 #[.int .i64 size, v, v2] w fun e w' => e = .returned (.bool true) ∧ Below w.heap.size w w' := by
  obtain ⟨l, hl⟩ : ∃ l : List Txt, l = ls.map (·.data.toList) := ⟨_, rfl⟩
  have hll : ls.length = l.length := by rw [hl, List.length_map]
  have hst : (ls.flatMap fun s => [Value.string s]) = strs l := by
    rw [hl]; unfold strs; rw [List.map_map, flatMap_one]; rfl
  rw [hst, hll] at hr
  obtain ⟨A0, c0, rfl, hc0⟩ := hr.form
  obtain ⟨A3, c3, rfl, hc3⟩ := hr2.form
  have hbo : Bor w.heap.size w [] 1 (.slice A0 l.length c0) l.length (strs l) := Bor.in_ hr
  have hbm : Bor w.heap.size w [] 1 (.slice A3 more.length c3) more.length (bv more) := Bor.in_ hr2
  rw [hll] at hm
  simp only [maxLen] at hm hm2
  clear hl hll hst ho
  refine Does.law (args := [.int .i64 size, .slice A0 l.length c0, .slice A3 more.length c3]) ?_
  refine fn_walk Try.func5 63 rfl rfl rfl [(0, .int .i64 size), (1, .slice A0 l.length c0), (2, .slice A3 more.length c3)] ⟨⟨rfl, rfl⟩, ⟨rfl, rfl⟩, ⟨rfl, rfl⟩, trivial⟩ ?_
  refine vc_seq ?_
  refine vc_region ?_
  refine vl_det (det_assign rfl) rfl ?_
  refine vl_end [(0, _), (1, _), (2, _)] ⟨rfl, rfl, rfl, trivial⟩ ?_
  refine then_next ?_
  refine vc_seq ?_
  refine vc_seq ?_
  refine vc_region ?_
  refine vl_call co9 rfl (alive_d) rfl ?_
  rintro _ _ ⟨rfl, hLL⟩
  obtain rfl := hLL.symm
  refine vl_det (det_not_t rfl) rfl ?_
  refine vl_end [(0, _), (1, _), (2, _), (14, _)] ⟨rfl, rfl, rfl, rfl, trivial⟩ ?_
  refine then_next ?_
  refine vc_cond_f rfl ?_
  refine vc_skip ?_
  refine then_next ?_
  refine vc_seq ?_
  refine vc_seq ?_
  refine vc_region ?_
  refine vl_cut 7 21 [(0, _), (1, _), (2, _)] (grT l ∨ (500 : Int) < more.length) ⟨rfl, rfl, rfl, trivial⟩ ?_ ?_
  · skip
    refine vl_det (det_move rfl) rfl ?_
    refine vl_call co10 rfl (great_dd (by first | (exact Bor.own (by repeat (first | exact List.Mem.head _ | apply List.Mem.tail))) | (repeat (first | assumption | apply Bor.cons))) (by omega)) rfl ?_
    rintro _ _ ⟨rfl, hLL⟩
    obtain rfl := hLL.symm
    refine vl_det (det_move rfl) rfl ?_
    refine vl_guardn rfl rfl rfl (fun h17 => ?_) (fun h17 => ?_)
    · skip
      refine vl_det (det_move rfl) rfl ?_
      refine vl_guard_t rfl rfl ?_
      refine vl_det (det_len_sl Try.underlying25 rfl) rfl ?_
      refine vl_guard_t rfl rfl ?_
      refine vl_det (det_gtr rfl rfl) rfl ?_
      refine vl_det (det_pick_f rfl rfl) rfl ?_
      exact vl_cut_end ⟨rfl, rfl, rfl, trivial⟩ (by first | rfl | exact bool_to_t (by first | omega | simp_all) | exact bool_to_f (by first | omega | simp_all) | exact bool_to (by first | omega | simp_all) | exact bool_to_b (by first | omega | simp_all))
    · skip
      refine vl_guard_f rfl rfl rfl rfl ?_
      refine vl_guard_f rfl rfl rfl rfl ?_
      refine vl_det (det_pick_t rfl rfl) rfl ?_
      exact vl_cut_end ⟨rfl, rfl, rfl, trivial⟩ (by first | rfl | exact bool_to_t (by first | omega | simp_all) | exact bool_to_f (by first | omega | simp_all) | exact bool_to (by first | omega | simp_all) | exact bool_to_b (by first | omega | simp_all))
  · skip
    refine vl_end [(0, _), (1, _), (2, _), (21, _)] ⟨rfl, rfl, rfl, rfl, trivial⟩ ?_
    refine then_next ?_
    refine vc_decideU rfl (fun h21 => ?_) (fun h21 => ?_)
    · skip
      refine vc_seq ?_
      refine vc_region ?_
      refine vl_det (det_assign rfl) rfl ?_
      refine vl_end [(6, _)] ⟨rfl, trivial⟩ ?_
      refine then_next ?_
      refine vc_ret ?_
      refine then_ret ?_
      refine ret1 rfl rfl ?_
      rfl
    · skip
      obtain ⟨hl3, hl60⟩ := not_grT fun h => h21 (.inl h)
      refine vc_skip ?_
      refine then_next ?_
      refine vc_seq ?_
      refine vc_region ?_
      refine vl_det (det_move rfl) rfl ?_
      refine vl_det (det_move rfl) rfl ?_
      refine vl_call co11 rfl (dwrite_d (by first | (exact Bor.own (by repeat (first | exact List.Mem.head _ | apply List.Mem.tail))) | (repeat (first | assumption | apply Bor.cons))) hc0 (by omega)) rfl ?_
      rintro _ _ ⟨A25, c25, rfl, hLL⟩
      obtain rfl := hLL.symm
      refine vl_det (det_move rfl) rfl ?_
      refine vl_det (det_extract rfl rfl) rfl ?_
      refine vl_det (det_extract rfl rfl) rfl ?_
      refine vl_det (det_assign rfl) rfl ?_
      refine vl_det (det_assign rfl) rfl ?_
      refine vl_end [(0, _), (1, _), (2, _), (7, _), (8, _)] ⟨rfl, rfl, rfl, rfl, rfl, trivial⟩ ?_
      refine then_next ?_
      refine vc_seq ?_
      refine vc_seq ?_
      refine vc_region ?_
      refine vl_det (det_move rfl) rfl ?_
      refine vl_det (det_neq rfl rfl) rfl ?_
      refine vl_end [(0, _), (1, _), (2, _), (7, _), (8, _), (29, _)] ⟨rfl, rfl, rfl, rfl, rfl, rfl, trivial⟩ ?_
      refine then_next ?_
      refine vc_decideU rfl (fun h29 => ?_) (fun h29 => ?_)
      · skip
        have hE : size < 1 ∨ 64 < size ∨ ¬ RisT l := Classical.byContradiction fun hE => by
          obtain ⟨b, rfl⟩ := Int.eq_ofNat_of_zero_le (show 0 ≤ size by omega)
          rw [dictW_ok hE] at h29; exact h29 rfl
        rw [dictW_bad hE]
        refine vc_seq ?_
        refine vc_region ?_
        refine vl_det (det_move rfl) rfl ?_
        refine vl_det (det_eql rfl rfl) rfl ?_
        refine vl_det (det_move rfl) rfl ?_
        refine vl_guardp rfl rfl rfl (fun h32 => ?_) (fun h32 => ?_)
        · skip
          refine vl_det (det_move rfl) rfl ?_
          refine vl_guard_t rfl rfl ?_
          refine vl_det (det_len_sl Try.underlying25 rfl) rfl ?_
          refine vl_guard_t rfl rfl ?_
          refine vl_det (det_eql rfl rfl) rfl ?_
          refine vl_det (det_pick_t rfl rfl) rfl ?_
          refine vl_det (det_assign rfl) rfl ?_
          refine vl_end [(6, _)] ⟨rfl, trivial⟩ ?_
          refine then_next ?_
          refine vc_ret ?_
          refine then_ret ?_
          refine ret_wk (L' := []) (.skip (.refl _)) ?_
          refine ret1 rfl rfl ?_
          rfl
        · skip
          exfalso; exact h32 rfl
      · skip
        have hE : ¬ (size < 1 ∨ 64 < size ∨ ¬ RisT l) := fun hE => by rw [dictW_bad hE] at h29; exact h29 (by decide)
        have hR : RisT l := Classical.byContradiction fun h => hE (.inr (.inr h))
        obtain ⟨b, rfl⟩ := Int.eq_ofNat_of_zero_le (show 0 ≤ size by omega)
        rw [dictW_ok hE]
        dsimp only
        have hbk := dict_back hR (sz := b) (by omega) (by omega) more
        have hB1 := bodyT_len (l := l) (sz := b) (by omega) hR.le (List.range (chN b l.length))
        have hH1 := headT_len (l := l) (sz := b) (by omega) hR.le (List.range (chN b l.length))
        have hN1 := encN_len10 (x := l.length) (by omega)
        have hcN : chN b l.length ≤ 400 := by
          unfold chN
          exact Nat.le_trans (Nat.div_le_self _ _) (by omega)
        have hdl : (dictB b l).length ≤ 1250000 := by
          rw [List.length_range] at hB1 hH1
          have h1 : chN b l.length * 3000 ≤ 400 * 3000 := Nat.mul_le_mul_right _ hcN
          have h2 : chN b l.length * 10 ≤ 400 * 10 := Nat.mul_le_mul_right _ hcN
          simp only [dictB, List.length_append]
          omega
        refine vc_skip ?_
        refine then_next ?_
        refine vc_seq ?_
        refine vc_region ?_
        refine vl_det (det_assign rfl) rfl ?_
        refine vl_end [(0, _), (1, _), (2, _), (7, _), (9, _)] ⟨rfl, rfl, rfl, rfl, rfl, trivial⟩ ?_
        refine then_next ?_
        refine vc_seq ?_
        refine vc_nil_row 5 1 none ?_
        refine vc_region ?_
        refine vl_det (det_move rfl) rfl ?_
        refine vl_det (det_move rfl) rfl ?_
        refine vl_eff (eff_app slT25 rfl (by repeat (first | exact .hd | apply Sel.tl)) rfl (by first | (exact Bor.own (by repeat (first | exact List.Mem.head _ | apply List.Mem.tail))) | (repeat (first | assumption | apply Bor.cons))) (by first | exact bv_one _ | exact strs_one _ | exact ints_one _ _ | (simp; done) | (simp [Value.oneCell']; done) | assumption) (by omega) (by omega)) rfl ?_
        rintro _ _ ⟨A39, c39, rfl, rfl⟩
        refine vl_det (det_move rfl) rfl ?_
        refine vl_eff (eff_app slT25 rfl (by repeat (first | exact .hd | apply Sel.tl)) rfl (by first | (exact Bor.own (by repeat (first | exact List.Mem.head _ | apply List.Mem.tail))) | (repeat (first | assumption | apply Bor.cons))) (by first | exact bv_one _ | exact strs_one _ | exact ints_one _ _ | (simp; done) | (simp [Value.oneCell']; done) | assumption) (by omega) (by omega)) rfl ?_
        rintro _ _ ⟨A41, c41, rfl, rfl⟩
        rw [List.nil_append, ← bv_append, Nat.zero_add, ← List.length_append]
        refine vl_det (det_assign rfl) rfl ?_
        refine vl_end [(0, _), (1, _), (7, _), (9, _)] ⟨rfl, rfl, rfl, rfl, trivial⟩ ?_
        refine then_next ?_
        refine vc_seq ?_
        refine vc_region ?_
        refine vl_det (det_move rfl) rfl ?_
        refine vl_det (det_move rfl) rfl ?_
        refine vl_call co19 rfl (dread_good (sz := b) (by omega) (by omega) (by first | (exact Bor.own (by repeat (first | exact List.Mem.head _ | apply List.Mem.tail))) | (repeat (first | assumption | apply Bor.cons))) (by rw [List.length_append]; omega) hbk) rfl ?_
        rintro _ _ ⟨g45, P45, p45, Q45, q45, rfl, hLL⟩
        obtain rfl := hLL.symm
        refine vl_det (det_move rfl) rfl ?_
        refine vl_det (det_extract rfl rfl) rfl ?_
        refine vl_det (det_extract rfl rfl) rfl ?_
        refine vl_det (det_extract rfl rfl) rfl ?_
        refine vl_det (det_assign rfl) rfl ?_
        refine vl_det (det_assign rfl) rfl ?_
        refine vl_det (det_assign rfl) rfl ?_
        refine vl_end [(1, _), (7, _), (10, _), (11, _), (12, _)] ⟨rfl, rfl, rfl, rfl, rfl, trivial⟩ ?_
        refine then_next ?_
        refine vc_seq ?_
        refine vc_region ?_
        refine vl_det (det_move rfl) rfl ?_
        refine vl_det (det_eql rfl rfl) rfl ?_
        refine vl_det (det_move rfl) rfl ?_
        refine vl_guardp rfl rfl rfl (fun h51 => ?_) (fun h51 => ?_)
        · skip
          refine vl_det (det_move rfl) rfl ?_
          refine vl_guard_t rfl rfl ?_
          refine vl_det (det_move rfl) rfl ?_
          refine vl_guard_t rfl rfl ?_
          refine vl_det (det_len_sl Try.underlying25 rfl) rfl ?_
          refine vl_guard_t rfl rfl ?_
          refine vl_det (det_eql rfl rfl) rfl ?_
          refine vl_det (det_pick_t rfl rfl) rfl ?_
          refine vl_det (det_move rfl) rfl ?_
          refine vl_guardp rfl rfl rfl (fun h57 => ?_) (fun h57 => ?_)
          · skip
            refine vl_det (det_move rfl) rfl ?_
            refine vl_guard_t rfl rfl ?_
            refine vl_call co18 rfl (dall_d (by omega)) rfl ?_
            rintro _ _ ⟨A59, c59, rfl, hLL⟩
            obtain rfl := hLL.symm
            refine vl_guard_t rfl rfl ?_
            refine vl_det (det_move rfl) rfl ?_
            refine vl_guard_t rfl rfl ?_
            refine vl_call co20 rfl (same15_d (by first | (exact Bor.own (by repeat (first | exact List.Mem.head _ | apply List.Mem.tail))) | (repeat (first | assumption | apply Bor.cons))) (by first | (exact Bor.own (by repeat (first | exact List.Mem.head _ | apply List.Mem.tail))) | (repeat (first | assumption | apply Bor.cons))) (by omega)) rfl ?_
            rintro _ _ ⟨rfl, hLL⟩
            obtain rfl := hLL.symm
            refine vl_det (det_pick_t rfl rfl) rfl ?_
            refine vl_det (det_assign rfl) rfl ?_
            refine vl_end [(6, _)] ⟨rfl, trivial⟩ ?_
            refine then_next ?_
            refine vc_ret ?_
            refine ret_wk (L' := []) (.skip (.skip (.skip (.skip (.skip (.skip (.refl _))))))) ?_
            refine ret1 rfl rfl ?_
            rw [decide_eq_true rfl]
          · skip
            exfalso; exact h57 rfl
        · skip
          exfalso; exact h51 rfl
theorem own : ownKnob Try.prog.godebug = none := by kernel_rfl
theorem laidOut : laidOutB Try.prog = true := by kernel_rfl
set_option maxRecDepth 100000 in
theorem lifted (os : Os) (started : os.Started) (H : Type) (enc : TypeId × Value → H) :
    ReturnsInHanded {} Try.checked os 5 .any (Rows.dictBackSpec.pre6 enc Try.prog Try.f5 Rows.dictBackRow.domain false) (Rows.dictBackSpec.post enc Try.prog Try.f5 false true false false) := by
  refine returnsInHanded_of_change (C := Try.checked) own started (by kernel_rfl) Try.func5
    (ChangeSpec.witness6 (enc := enc) (C := Try.checked) false ⟨#[], #[.int .i64 0, .slice none 0 0, .slice none 0 0], []⟩ 8 (by kernel_rfl) (by kernel_rfl) (by kernel_rfl) (by kernel_rfl)) ?_
  intro W base args ds gs before hval0 hW hcnd _
  have hval : ∀ (j : Nat) t v, Try.f5.params[j]? = some t → args[j]? = some v → Value.okWide Try.prog W .any base t v := hval0
  have hW' := hW
  obtain ⟨p, q, hA0, hV, rfl, hfz, hnd⟩ := hW
  have hA : DataW.TrodAll enc Try.prog W 0 (fun _ => true) true Try.f5.params.toList args.toList ds p := hA0
  rw [Try.params5] at hA hval
  obtain ⟨v0', vs0, d0, ds0, p0, q0, hargs, rfl, rfl, h0', r0⟩ := trodAll_cons hA
  obtain ⟨v1', vs1, d1, ds1, p1, q1, rfl, rfl, rfl, h1', r1⟩ := trodAll_cons r0
  obtain ⟨v2', vs2, d2, ds2, p2, q2, rfl, rfl, rfl, h2', r2⟩ := trodAll_cons r1
  obtain ⟨rfl, rfl, rfl⟩ := trodAll_nil r2
  obtain rfl : args = #[v0', v1', v2'] := by cases args; simp_all
  obtain ⟨rfl, rfl⟩ := trodVars_none hV
  have k0 := h0'
  have lt0 : ∀ x ∈ p0, x.block < W.heap.size := by obtain ⟨m, hm⟩ := k0; exact DataW.trod_lt m _ _ _ hm
  obtain ⟨a0, rfl, hd0, hp0, w0⟩ := open_int Try.underlying3 (hval 0 3 v0' rfl rfl) h0'
  have k1 := h1'
  have lt1 : ∀ x ∈ p1, x.block < W.heap.size := by obtain ⟨m, hm⟩ := k1; exact DataW.trod_lt m _ _ _ hm
  obtain ⟨A1, n1, c1, rfl⟩ := okWide_slice Try.underlying22 (hval 1 22 v1' rfl rfl)
  obtain ⟨⟨u1, L1⟩, e1, hr1, ho1, hm1⟩ := DecT.arg (dec_slice Try.underlying22 (by kernel_rfl : Try.prog.cellsOf 9 = 1) (by omega) (fun _ => rfl) (dec_string Try.underlying9)) k1
  obtain rfl := cells_slice A1 n1 c1 rfl e1
  have k2 := h2'
  have lt2 : ∀ x ∈ p2, x.block < W.heap.size := by obtain ⟨m, hm⟩ := k2; exact DataW.trod_lt m _ _ _ hm
  obtain ⟨A2, n2, c2, rfl⟩ := okWide_slice Try.underlying25 (hval 2 25 v2' rfl rfl)
  obtain ⟨⟨u2, L2⟩, e2, hr2, ho2, hm2⟩ := DecT.arg (dec_slice Try.underlying25 (by kernel_rfl : Try.prog.cellsOf 5 = 1) (by omega) (fun _ => rfl) (dec_u8 (w := W) Try.underlying5)) k2
  obtain rfl := cells_slice A2 n2 c2 rfl e2
  rw [flatMap_bv] at hr2
  clear hA0 hval0
  refine (walk W a0 (bounds_i64 w0) _ L1 hr1 ho1 hm1 _ L2 hr2 hm2).mono fun e W' ⟨he, bel⟩ => ?_
  subst he
  exact ⟨_, rfl, _, _, _, [], _, [], hW', trodAll_mk1 (shut_bool Try.underlying4 _), (trodAll_cons_mk (Below.trod laidOut (by kernel_rfl) (of_decide_eq_true (by kernel_rfl)) k0 bel lt0) (trodAll_cons_mk (Below.trod laidOut (by kernel_rfl) (of_decide_eq_true (by kernel_rfl)) k1 bel lt1) (trodAll_cons_mk (Below.trod laidOut (by kernel_rfl) (of_decide_eq_true (by kernel_rfl)) k2 bel lt2) trodAll_mk0))), rfl, bel.frame _, fun h => by cases h⟩

theorem over : Rows.dictBackRow.holds Try.pinned (OpenSpec.ofChange Rows.dictBackSpec) :=
  OpenClaim.holds_of_wide 5 Try.f5 rfl rfl rfl rfl rfl rfl rfl ⟨rfl, rfl, rfl, rfl, rfl⟩ rfl rfl rfl rfl rfl (by kernel_rfl) Try.func5 (by kernel_rfl)
    (of_decide_eq_true (by kernel_rfl)) (by unfold Func.isWrapper; first | (rw [if_pos (by decide +kernel)]; kernel_rfl) | (rw [if_neg (by decide +kernel)]; exact ⟨rfl, rfl⟩))
    (fun os started H enc _ => lifted os started H enc)

theorem proved : Rows.DictBackSaid := over
#print axioms proved
end Go.Proofs.Ytbkaoncopohdbaa.lawDictBack

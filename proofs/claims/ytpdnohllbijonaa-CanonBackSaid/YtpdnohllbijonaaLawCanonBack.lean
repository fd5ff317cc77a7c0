/-
  'CanonBack': right lengths that were written are read, and what is left is padding. No condition.
-/
import Derived.Test.YtpdnohllbijonaaCanonRdr
import Derived.Test.YtpdnohllbijonaaCanonBk
import Derived.Test.YtpdnohllbijonaaCn3
import Derived.Test.YtpdnohllbijonaaRows
import Derived.Test.YtpdnohllbijonaaOpen
namespace Go.Proofs.Ytpdnohllbijonaa.lawCanonBack
open Go.ChangeShapes Go.WideShapes Go.ChangeAt Go.RowKit
open Go.ChangeMaps (open_string shut_string)
set_option linter.unusedVariables false
theorem w_cases (l : List UInt8) : (wE l = 0 ∧ wQ [] l = encC l 0 ∧ Good l) ∨ (wE l = 7 ∧ wQ [] l = []) := by
  unfold wE wQ
  by_cases hg : Good l
  · rw [if_pos hg, if_pos hg]; exact .inl ⟨rfl, rfl, hg⟩
  · rw [if_neg hg, if_neg hg]; exact .inr ⟨rfl, rfl⟩
theorem walk (w : World) (v : Value) (l : List UInt8) (hr : Rd w w.heap.size 1 v l.length (bv l)) (hm : l.length ≤ maxLen) :
    Calls Try.prog 9 #[v] w fun e w' => e = .returned (.bool true) ∧ Below w.heap.size w w' := by
  obtain ⟨A0, c0, rfl, _⟩ := hr.form
  have hbo : Bor w.heap.size w [] 1 (.slice A0 l.length c0) l.length (bv l) := Bor.in_ hr
  simp only [maxLen] at hm
  refine Does.law (args := [.slice A0 l.length c0]) ?_
  have hwc := w_cases l
  refine fn_walk Try.func9 41 rfl rfl rfl [(0, .slice A0 l.length c0)] ⟨⟨rfl, rfl⟩, trivial⟩ ?_
  refine vc_seq ?_
  refine vc_region ?_
  refine vl_det (det_assign rfl) rfl ?_
  refine vl_end [(0, _)] ⟨rfl, trivial⟩ ?_
  refine then_next ?_
  refine vc_seq ?_
  refine vc_seq ?_
  refine vc_region ?_
  refine vl_call co10 rfl (alive_d) rfl ?_
  rintro _ _ ⟨rfl, hLL⟩
  obtain rfl := hLL.symm
  refine vl_det (det_not_t rfl) rfl ?_
  refine vl_end [(0, _), (9, _)] ⟨rfl, rfl, trivial⟩ ?_
  refine then_next ?_
  refine vc_cond_f rfl ?_
  refine vc_skip ?_
  refine then_next ?_
  refine vc_seq ?_
  refine vc_nil_row 5 1 none ?_
  refine vc_region ?_
  refine vl_eff (eff_alloc_z (zv := (.agg #[.slice none 0 0, .int .i64 0])) (by kernel_rfl) rfl) rfl ?_
  rintro _ _ ⟨g3, rfl, rfl⟩
  refine vl_end [(0, _), (3, _)] ⟨rfl, rfl, trivial⟩ ?_
  refine then_next ?_
  refine vc_seq ?_
  refine vc_seq ?_
  refine vc_region ?_
  refine vl_det (det_move rfl) rfl ?_
  refine vl_call co17 rfl (write_c l [] (by first | (exact Bor.own (by repeat (first | exact List.Mem.head _ | apply List.Mem.tail))) | (repeat (first | assumption | apply Bor.cons))) (by simp)) rfl ?_
  rintro _ _ ⟨rfl, A11, c11, hLL⟩
  obtain rfl := hLL.symm
  refine vl_det (det_assign rfl) rfl ?_
  refine vl_end [(0, _), (3, _), (4, _)] ⟨rfl, rfl, rfl, trivial⟩ ?_
  refine then_next ?_
  refine vc_seq ?_
  refine vc_region ?_
  refine vl_det (det_move rfl) rfl ?_
  refine vl_det (det_neq rfl rfl) rfl ?_
  refine vl_end [(0, _), (3, _), (4, _), (13, _)] ⟨rfl, rfl, rfl, rfl, trivial⟩ ?_
  refine then_next ?_
  refine vc_decideU rfl (fun h13 => ?_) (fun h13 => ?_)
  · skip
    obtain ⟨h7, hq0⟩ := hwc.resolve_left (fun h => h13 h.1)
    rw [hq0]
    refine vc_seq ?_
    refine vc_region ?_
    refine vl_cut 6 19 [] (True) trivial ?_ ?_
    · skip
      refine vl_det (det_move rfl) rfl ?_
      refine vl_det (det_eql rfl rfl) rfl ?_
      refine vl_det (det_move rfl) rfl ?_
      refine vl_guardp rfl rfl rfl (fun h16 => ?_) (fun h16 => ?_)
      · skip
        refine vl_call co19 rfl (len_d []) rfl ?_
        rintro _ _ ⟨rfl, hLL⟩
        obtain rfl := hLL.symm
        refine vl_guard_t rfl rfl ?_
        refine vl_det (det_eql rfl rfl) rfl ?_
        refine vl_det (det_pick_t rfl rfl) rfl ?_
        exact vl_cut_end trivial (by first | rfl | exact bool_to_t (by first | omega | (simp; done) | (simp_all; done) | (simp_all; omega)) | exact bool_to_f (by first | omega | (simp; done) | (simp_all; done) | (simp_all; omega)) | exact bool_to (by first | omega | (simp; done) | (simp_all; done) | (simp_all; omega)) | exact bool_to_b (by first | omega | (simp; done) | (simp_all; done) | (simp_all; omega)))
      · skip
        refine vl_guard_f rfl rfl rfl rfl ?_
        refine vl_det (det_pick_f rfl rfl) rfl ?_
        exact vl_cut_end trivial (by first | rfl | exact bool_to_t (by first | omega | (simp; done) | (simp_all; done) | (simp_all; omega)) | exact bool_to_f (by first | omega | (simp; done) | (simp_all; done) | (simp_all; omega)) | exact bool_to (by first | omega | (simp; done) | (simp_all; done) | (simp_all; omega)) | exact bool_to_b (by first | omega | (simp; done) | (simp_all; done) | (simp_all; omega)))
    · skip
      refine vl_det (det_assign rfl) rfl ?_
      refine vl_end [(2, _)] ⟨rfl, trivial⟩ ?_
      refine then_next ?_
      refine vc_ret ?_
      refine then_ret ?_
      refine ret1 rfl rfl ?_
      rw [decide_eq_true trivial]
  · skip
    obtain ⟨hE, hQ, hg⟩ := hwc.resolve_right (fun h => by omega)
    rw [hQ]
    have h300 := hg.1.1
    have hel := encC_len l l.length 0 (by omega)
    have hun := unp_of_packed (encC l 0)
    have hb := back_all l hg
    rw [← hun] at hb
    have hpd := read_pad (encC l 0)
    rw [← hun] at hpd
    have hle : (encC l 0).length ≤ (unp (packed (encC l 0))).length := by rw [hun, List.length_append]; omega
    have hpl := packed_length (encC l 0)
    have hul := unp_length (packed (encC l 0))
    refine vc_skip ?_
    refine then_next ?_
    refine vc_seq ?_
    refine vc_region ?_
    refine vl_call co21 rfl (bytes_d (encC l 0) (by omega)) rfl ?_
    rintro _ _ ⟨A20, c20, rfl, hLL⟩
    obtain rfl := hLL.symm
    refine vl_call co23 rfl (newr_d (l := packed (encC l 0)) (by first | (exact Bor.own (by repeat (first | exact List.Mem.head _ | apply List.Mem.tail))) | (repeat (first | assumption | apply Bor.cons))) (by omega)) rfl ?_
    rintro _ _ ⟨g21, A21, c21, rfl, hLL⟩
    obtain rfl := hLL.symm
    refine vl_det (det_assign rfl) rfl ?_
    refine vl_end [(0, _), (5, _)] ⟨rfl, rfl, trivial⟩ ?_
    refine then_next ?_
    refine vc_seq ?_
    refine vc_region ?_
    refine vl_det (det_move rfl) rfl ?_
    refine vl_det (det_move rfl) rfl ?_
    refine vl_det (det_len_sl Try.underlying22 rfl) rfl ?_
    refine vl_call co25 rfl (read_d (unp (packed (encC l 0))) 0 (by omega) (by omega) l.length (by omega) (by omega) l 0 (encC l 0).length hb) rfl ?_
    rintro _ _ ⟨A26, c26, rfl, hLL⟩
    obtain rfl := hLL.symm
    refine vl_det (det_move rfl) rfl ?_
    refine vl_det (det_extract rfl rfl) rfl ?_
    refine vl_det (det_extract rfl rfl) rfl ?_
    refine vl_det (det_assign rfl) rfl ?_
    refine vl_det (det_assign rfl) rfl ?_
    refine vl_end [(0, _), (5, _), (6, _), (7, _)] ⟨rfl, rfl, rfl, rfl, trivial⟩ ?_
    refine then_next ?_
    refine vc_seq ?_
    refine vc_region ?_
    refine vl_cut 12 40 [] (True) trivial ?_ ?_
    · skip
      refine vl_det (det_move rfl) rfl ?_
      refine vl_det (det_eql rfl rfl) rfl ?_
      refine vl_det (det_move rfl) rfl ?_
      refine vl_guardp rfl rfl rfl (fun h31 => ?_) (fun h31 => ?_)
      · skip
        refine vl_det (det_move rfl) rfl ?_
        refine vl_guard_t rfl rfl ?_
        refine vl_det (det_move rfl) rfl ?_
        refine vl_guard_t rfl rfl ?_
        refine vl_call co20 rfl (same_d (by first | (exact Bor.own (by repeat (first | exact List.Mem.head _ | apply List.Mem.tail))) | (repeat (first | assumption | apply Bor.cons))) (by first | (exact Bor.own (by repeat (first | exact List.Mem.head _ | apply List.Mem.tail))) | (repeat (first | assumption | apply Bor.cons)))) rfl ?_
        rintro _ _ ⟨rfl, hLL⟩
        obtain rfl := hLL.symm
        refine vl_det (det_pick_t rfl rfl) rfl ?_
        refine vl_det (det_move rfl) rfl ?_
        refine vl_guardp rfl rfl rfl (fun h36 => ?_) (fun h36 => ?_)
        · skip
          refine vl_det (det_move rfl) rfl ?_
          refine vl_guard_t rfl rfl ?_
          refine vl_call co29 rfl (pad_d (unp (packed (encC l 0))) (encC l 0).length hle (by omega)) rfl ?_
          rintro _ _ ⟨rfl, hLL⟩
          obtain rfl := hLL.symm
          refine vl_guard_t rfl rfl ?_
          refine vl_det (det_eql rfl rfl) rfl ?_
          refine vl_det (det_pick_t rfl rfl) rfl ?_
          exact vl_cut_end trivial (by first | rfl | exact bool_to_t (by first | omega | (simp; done) | (simp_all; done) | (simp_all; omega)) | exact bool_to_f (by first | omega | (simp; done) | (simp_all; done) | (simp_all; omega)) | exact bool_to (by first | omega | (simp; done) | (simp_all; done) | (simp_all; omega)) | exact bool_to_b (by first | omega | (simp; done) | (simp_all; done) | (simp_all; omega)))
        · skip
          refine vl_guard_f rfl rfl rfl rfl ?_
          refine vl_guard_f rfl rfl rfl rfl ?_
          refine vl_det (det_pick_f rfl rfl) rfl ?_
          exact vl_cut_end trivial (by first | rfl | exact bool_to_t (by first | omega | (simp; done) | (simp_all; done) | (simp_all; omega)) | exact bool_to_f (by first | omega | (simp; done) | (simp_all; done) | (simp_all; omega)) | exact bool_to (by first | omega | (simp; done) | (simp_all; done) | (simp_all; omega)) | exact bool_to_b (by first | omega | (simp; done) | (simp_all; done) | (simp_all; omega)))
      · skip
        refine vl_guard_f rfl rfl rfl rfl ?_
        refine vl_guard_f rfl rfl rfl rfl ?_
        refine vl_det (det_pick_f rfl rfl) rfl ?_
        refine vl_det (det_move rfl) rfl ?_
        refine vl_guard_f rfl rfl rfl rfl ?_
        refine vl_guard_f rfl rfl rfl rfl ?_
        refine vl_guard_f rfl rfl rfl rfl ?_
        refine vl_det (det_pick_f rfl rfl) rfl ?_
        exact vl_cut_end trivial (by first | rfl | exact bool_to_t (by first | omega | (simp; done) | (simp_all; done) | (simp_all; omega)) | exact bool_to_f (by first | omega | (simp; done) | (simp_all; done) | (simp_all; omega)) | exact bool_to (by first | omega | (simp; done) | (simp_all; done) | (simp_all; omega)) | exact bool_to_b (by first | omega | (simp; done) | (simp_all; done) | (simp_all; omega)))
    · skip
      refine vl_det (det_assign rfl) rfl ?_
      refine vl_end [(2, _)] ⟨rfl, trivial⟩ ?_
      refine then_next ?_
      refine vc_ret ?_
      refine ret1 rfl rfl ?_
      rw [decide_eq_true trivial]
theorem own : ownKnob Try.prog.godebug = none := by kernel_rfl
theorem laidOut : laidOutB Try.prog = true := by kernel_rfl
set_option maxRecDepth 100000 in
theorem lifted (os : Os) (started : os.Started) (H : Type) (enc : TypeId × Value → H) :
    ReturnsInHanded {} Try.checked os 9 .any (Rows.canonBackSpec.pre6 enc Try.prog Try.f9 Rows.canonBackRow.domain false) (Rows.canonBackSpec.post enc Try.prog Try.f9 false true false false) := by
  refine returnsInHanded_of_change (C := Try.checked) own started (by kernel_rfl) Try.func9
    (ChangeSpec.witness6 (enc := enc) (C := Try.checked) false ⟨#[], #[.slice none 0 0], []⟩ 8 (by kernel_rfl) (by kernel_rfl) (by kernel_rfl) (by kernel_rfl)) ?_
  intro W base args ds gs before hval0 hW hcnd _
  have hval : ∀ (j : Nat) t v, Try.f9.params[j]? = some t → args[j]? = some v → Value.okWide Try.prog W .any base t v := hval0
  have hW' := hW
  obtain ⟨p, q, hA0, hV, rfl, hfz, hnd⟩ := hW
  have hA : DataW.TrodAll enc Try.prog W 0 (fun _ => true) true Try.f9.params.toList args.toList ds p := hA0
  rw [Try.params9] at hA hval
  obtain ⟨v0', vs0, d0, ds0, p0, q0, hargs, rfl, rfl, h0', r0⟩ := trodAll_cons hA
  obtain ⟨rfl, rfl, rfl⟩ := trodAll_nil r0
  obtain rfl : args = #[v0'] := by cases args; simp_all
  obtain ⟨rfl, rfl⟩ := trodVars_none hV
  have k0 := h0'
  have lt0 : ∀ x ∈ p0, x.block < W.heap.size := by obtain ⟨m, hm⟩ := k0; exact DataW.trod_lt m _ _ _ hm
  obtain ⟨A0, n0, c0, rfl⟩ := okWide_slice Try.underlying22 (hval 0 22 v0' rfl rfl)
  obtain ⟨⟨u0, L0⟩, e0, hr0, ho0, hm0⟩ := DecT.arg (dec_slice Try.underlying22 (by kernel_rfl : Try.prog.cellsOf 5 = 1) (by omega) (fun _ => rfl) (dec_u8 (w := W) Try.underlying5)) k0
  obtain rfl := cells_slice A0 n0 c0 rfl e0
  rw [flatMap_bv] at hr0
  clear hA0 hval0
  refine (walk W _ L0 hr0 hm0).mono fun e W' ⟨he, bel⟩ => ?_
  subst he
  exact ⟨_, rfl, _, _, _, [], _, [], hW', trodAll_mk1 (shut_bool Try.underlying4 _), (trodAll_cons_mk (Below.trod laidOut (by kernel_rfl) (of_decide_eq_true (by kernel_rfl)) k0 bel lt0) trodAll_mk0), rfl, bel.frame _, fun h => by cases h⟩

theorem over : Rows.canonBackRow.holds Try.pinned (OpenSpec.ofChange Rows.canonBackSpec) :=
  OpenClaim.holds_of_wide 9 Try.f9 rfl rfl rfl rfl rfl rfl rfl ⟨rfl, rfl, rfl, rfl, rfl⟩ rfl rfl rfl rfl rfl (by kernel_rfl) Try.func9 (by kernel_rfl)
    (of_decide_eq_true (by kernel_rfl)) (by unfold Func.isWrapper; first | (rw [if_pos (by decide +kernel)]; kernel_rfl) | (rw [if_neg (by decide +kernel)]; exact ⟨rfl, rfl⟩))
    (fun os started H enc _ => lifted os started H enc)

theorem proved : Rows.CanonBackSaid := over
#print axioms proved
end Go.Proofs.Ytpdnohllbijonaa.lawCanonBack

/-
  'WordsTerms': the terms of any record are the document's. No condition.
-/
import Derived.Test.YtfooomfdokkiaaaSplitD
import Derived.Test.YtfooomfdokkiaaaTermR
import Derived.Test.YtfooomfdokkiaaaWd3
import Derived.Test.YtfooomfdokkiaaaRec
import Derived.Test.YtfooomfdokkiaaaAgg
import Derived.Test.YtfooomfdokkiaaaRows
import Derived.Test.YtfooomfdokkiaaaOpen
namespace Go.Proofs.Ytfooomfdokkiaaa.lawWordsTerms
open Go.ChangeShapes Go.WideShapes Go.ChangeAt Go.RowKit
open Go.ChangeMaps (open_string shut_string)
set_option linter.unusedVariables false
set_option maxRecDepth 20000
theorem walk (w : World) (x : RecC) (hx : RecC.ok x) :
    Calls Try.prog 8 #[.agg (RecC.cells x).toArray] w fun e w' => e = .returned (.bool true) ∧ Below w.heap.size w w' := by
  obtain ⟨tm, lv, src, txt⟩ := x
  obtain ⟨_, _, hx3, hx4⟩ := hx
  simp only [maxLen] at hx3 hx4
  have hrl := rawT_len txt src
  have htl := Nat.le_trans (setT_len (rawT txt src)) hrl
  change (termsL txt src).length ≤ _ at htl
  obtain ⟨a, ha⟩ : ∃ a, a = Value.int .u64 tm := ⟨_, rfl⟩
  obtain ⟨b, hb⟩ : ∃ b, b = Value.int .u8 (lv.toNat : Int) := ⟨_, rfl⟩
  have e : RecC.cells (tm, lv, src, txt) = [a, b, .string ⟨src.toArray⟩, .string ⟨txt.toArray⟩] := by rw [ha, hb]; rfl
  rw [e]
  clear e ha hb
  refine Does.law (args := [.agg #[a, b, .string ⟨src.toArray⟩, .string ⟨txt.toArray⟩]]) ?_
  refine fn_walk Try.func8 22 rfl rfl rfl [(0, .agg #[a, b, .string ⟨src.toArray⟩, .string ⟨txt.toArray⟩])] ⟨⟨rfl, rfl⟩, trivial⟩ ?_
  refine vc_seq ?_
  refine vc_region ?_
  refine vl_eff (eff_box rfl rfl) rfl ?_
  rintro _ _ ⟨g1, rfl, rfl⟩
  refine vl_det (det_assign rfl) rfl ?_
  refine vl_end [(1, _)] ⟨rfl, trivial⟩ ?_
  refine then_next ?_
  refine vc_seq ?_
  refine vc_seq ?_
  refine vc_region ?_
  refine vl_call co10 rfl (alive_d) rfl ?_
  rintro _ _ ⟨rfl, hLL⟩
  obtain rfl := hLL.symm
  refine vl_det (det_not_t rfl) rfl ?_
  refine vl_end [(1, _), (4, _)] ⟨rfl, rfl, trivial⟩ ?_
  refine then_next ?_
  refine vc_cond_f rfl ?_
  refine vc_skip ?_
  refine then_next ?_
  refine vc_seq ?_
  refine vh_region (S := .blk g1 38 [a, b, .string ⟨src.toArray⟩, .string ⟨txt.toArray⟩] :: []) (by kernel_rfl) (by repeat (first | exact List.Sublist.refl _ | exact List.nil_sublist _ | apply List.Sublist.cons_cons | apply List.Sublist.cons)) ?_
  refine vh_take 0 rfl (by kernel_rfl) (by kernel_rfl) (by kernel_rfl) (det_fieldAddr_ Try.underlying38 rfl (by kernel_rfl) rfl rfl) rfl ?_
  refine vh_take 1 rfl (by kernel_rfl) (by kernel_rfl) (by kernel_rfl) (det_load_blk (by kernel_rfl) rfl (by repeat (first | exact .hd | apply Sel.tl)) rfl) rfl ?_
  refine vh_take 2 rfl (by kernel_rfl) (by kernel_rfl) (by kernel_rfl) (det_len_s Try.underlying9 rfl) rfl ?_
  refine vh_take 3 rfl (by kernel_rfl) (by kernel_rfl) (by kernel_rfl) (det_gtr rfl rfl) rfl ?_
  refine vh_take 4 rfl (by kernel_rfl) (by kernel_rfl) (by kernel_rfl) (det_move rfl) rfl ?_
  refine vh_split 9 rfl (fun h9 => ?_) (fun h9 => ?_)
  · skip
    refine vh_take_f 5 rfl (by kernel_rfl) (by kernel_rfl) (by kernel_rfl) rfl rfl rfl rfl ?_
    refine vh_take_f 6 rfl (by kernel_rfl) (by kernel_rfl) (by kernel_rfl) rfl rfl rfl rfl ?_
    refine vh_take_f 7 rfl (by kernel_rfl) (by kernel_rfl) (by kernel_rfl) rfl rfl rfl rfl ?_
    refine vh_take_f 8 rfl (by kernel_rfl) (by kernel_rfl) (by kernel_rfl) rfl rfl rfl rfl ?_
    refine vh_take 9 rfl (by kernel_rfl) (by kernel_rfl) (by kernel_rfl) (det_pick_t rfl rfl) rfl ?_
    refine vh_take 10 rfl (by kernel_rfl) (by kernel_rfl) (by kernel_rfl) (det_move rfl) rfl ?_
    refine vh_take_f 11 rfl (by kernel_rfl) (by kernel_rfl) (by kernel_rfl) rfl rfl rfl rfl ?_
    refine vh_take_f 12 rfl (by kernel_rfl) (by kernel_rfl) (by kernel_rfl) rfl rfl rfl rfl ?_
    refine vh_take_f 13 rfl (by kernel_rfl) (by kernel_rfl) (by kernel_rfl) rfl rfl rfl rfl ?_
    refine vh_take_f 14 rfl (by kernel_rfl) (by kernel_rfl) (by kernel_rfl) rfl rfl rfl rfl ?_
    refine vh_take_f 15 rfl (by kernel_rfl) (by kernel_rfl) (by kernel_rfl) rfl rfl rfl rfl ?_
    refine vh_take 16 rfl (by kernel_rfl) (by kernel_rfl) (by kernel_rfl) (det_pick_t rfl rfl) rfl ?_
    refine vh_take 17 rfl (by kernel_rfl) (by kernel_rfl) (by kernel_rfl) (det_assign rfl) rfl ?_
    refine vh_done [(2, _)] ⟨rfl, trivial⟩ (by kernel_rfl) ?_
    refine then_next ?_
    refine vc_ret ?_
    refine ret1 rfl rfl ?_
    rfl
  · skip
    refine vh_take_g 5 rfl (by kernel_rfl) (by kernel_rfl) (by kernel_rfl) rfl rfl (det_fieldAddr_ Try.underlying38 rfl (by kernel_rfl) rfl rfl) rfl ?_
    refine vh_take_g 6 rfl (by kernel_rfl) (by kernel_rfl) (by kernel_rfl) rfl rfl (det_load_blk (by kernel_rfl) rfl (by repeat (first | exact .hd | apply Sel.tl)) rfl) rfl ?_
    refine vh_take_g 7 rfl (by kernel_rfl) (by kernel_rfl) (by kernel_rfl) rfl rfl (det_len_s Try.underlying9 rfl) rfl ?_
    refine vh_take_g 8 rfl (by kernel_rfl) (by kernel_rfl) (by kernel_rfl) rfl rfl (det_gtr rfl rfl) rfl ?_
    refine vh_take 9 rfl (by kernel_rfl) (by kernel_rfl) (by kernel_rfl) (det_pick_f rfl rfl) rfl ?_
    refine vh_take 10 rfl (by kernel_rfl) (by kernel_rfl) (by kernel_rfl) (det_move rfl) rfl ?_
    refine vh_split 15 rfl (fun h15 => ?_) (fun h15 => ?_)
    · skip
      refine vh_take_f 11 rfl (by kernel_rfl) (by kernel_rfl) (by kernel_rfl) rfl rfl rfl rfl ?_
      refine vh_take_f 12 rfl (by kernel_rfl) (by kernel_rfl) (by kernel_rfl) rfl rfl rfl rfl ?_
      refine vh_take_f 13 rfl (by kernel_rfl) (by kernel_rfl) (by kernel_rfl) rfl rfl rfl rfl ?_
      refine vh_take_f 14 rfl (by kernel_rfl) (by kernel_rfl) (by kernel_rfl) rfl rfl rfl rfl ?_
      refine vh_take_f 15 rfl (by kernel_rfl) (by kernel_rfl) (by kernel_rfl) rfl rfl rfl rfl ?_
      refine vh_take 16 rfl (by kernel_rfl) (by kernel_rfl) (by kernel_rfl) (det_pick_t rfl rfl) rfl ?_
      refine vh_take 17 rfl (by kernel_rfl) (by kernel_rfl) (by kernel_rfl) (det_assign rfl) rfl ?_
      refine vh_done [(2, _)] ⟨rfl, trivial⟩ (by kernel_rfl) ?_
      refine then_next ?_
      refine vc_ret ?_
      refine ret1 rfl rfl ?_
      rfl
    · skip
      refine vh_take_g 11 rfl (by kernel_rfl) (by kernel_rfl) (by kernel_rfl) rfl rfl (det_load_whole 4 (by kernel_rfl) rfl (by repeat (first | exact .hd | apply Sel.tl)) (by first | rfl | (simp; omega) | (simp [*]; done))) rfl ?_
      refine vh_take_g 13 rfl (by kernel_rfl) (by kernel_rfl) (by kernel_rfl) rfl rfl (det_load_whole 4 (by kernel_rfl) rfl (by repeat (first | exact .hd | apply Sel.tl)) (by first | rfl | (simp; omega) | (simp [*]; done))) rfl ?_
      refine vh_one 12 (by kernel_rfl) ?_
      refine st_call rfl (.yes rfl rfl) co19 rfl (terms_d txt src (by omega) (by omega)) rfl (by rintro _ _ ⟨A17, c17, rfl, rfl⟩; exact (by repeat (first | exact List.Sublist.refl _ | exact List.nil_sublist _ | apply List.Sublist.cons_cons | apply List.Sublist.cons))) ?_
      rintro _ _ ⟨A17, c17, rfl, hLL⟩
      obtain rfl := hLL.symm
      refine vh_one 14 (by kernel_rfl) ?_
      refine st_call rfl (.yes rfl rfl) co20 rfl (rterms_d txt src (by omega) (by omega)) rfl (by rintro _ _ ⟨A19, c19, rfl, rfl⟩; exact (by repeat (first | exact List.Sublist.refl _ | exact List.nil_sublist _ | apply List.Sublist.cons_cons | apply List.Sublist.cons))) ?_
      rintro _ _ ⟨A19, c19, rfl, hLL⟩
      obtain rfl := hLL.symm
      refine vh_one 15 (by kernel_rfl) ?_
      refine st_call rfl (.yes rfl rfl) co11 rfl (same_d (by first | (exact Bor.own (by repeat (first | exact List.Mem.head _ | apply List.Mem.tail))) | (repeat (first | assumption | apply Bor.cons))) (by first | (exact Bor.own (by repeat (first | exact List.Mem.head _ | apply List.Mem.tail))) | (repeat (first | assumption | apply Bor.cons))) (by omega)) rfl (by rintro _ _ ⟨rfl, rfl⟩; exact (by repeat (first | exact List.Sublist.refl _ | exact List.nil_sublist _ | apply List.Sublist.cons_cons | apply List.Sublist.cons))) ?_
      rintro _ _ ⟨rfl, hLL⟩
      obtain rfl := hLL.symm
      refine vh_take 16 rfl (by kernel_rfl) (by kernel_rfl) (by kernel_rfl) (det_pick_f rfl rfl) rfl ?_
      refine vh_take 17 rfl (by kernel_rfl) (by kernel_rfl) (by kernel_rfl) (det_assign rfl) rfl ?_
      refine vh_done [(2, _)] ⟨rfl, trivial⟩ (by kernel_rfl) ?_
      refine then_next ?_
      refine vc_ret ?_
      refine ret_wk (L' := []) (.skip (.skip (.skip (.refl _)))) ?_
      refine ret1 rfl rfl ?_
      rw [decide_eq_true rfl]
theorem own : ownKnob Try.prog.godebug = none := by kernel_rfl
theorem laidOut : laidOutB Try.prog = true := by kernel_rfl
set_option maxRecDepth 100000 in
theorem lifted (os : Os) (started : os.Started) (H : Type) (enc : TypeId × Value → H) :
    ReturnsInHanded {} Try.checked os 8 .any (Rows.wordsTermsSpec.pre6 enc Try.prog Try.f8 Rows.wordsTermsRow.domain false) (Rows.wordsTermsSpec.post enc Try.prog Try.f8 false true false false) := by
  refine returnsInHanded_of_change (C := Try.checked) own started (by kernel_rfl) Try.func8
    (ChangeSpec.witness6 (enc := enc) (C := Try.checked) false ⟨#[], #[(.agg #[.int .u64 0, .int .u8 0, .string ByteArray.empty, .string ByteArray.empty])], []⟩ 8 (by kernel_rfl) (by kernel_rfl) (by kernel_rfl) (by kernel_rfl)) ?_
  intro W base args ds gs before hval0 hW hcnd _
  have hval : ∀ (j : Nat) t v, Try.f8.params[j]? = some t → args[j]? = some v → Value.okWide Try.prog W .any base t v := hval0
  have hW' := hW
  obtain ⟨p, q, hA0, hV, rfl, hfz, hnd⟩ := hW
  have hA : DataW.TrodAll enc Try.prog W 0 (fun _ => true) true Try.f8.params.toList args.toList ds p := hA0
  rw [Try.params8] at hA hval
  obtain ⟨v0', vs0, d0, ds0, p0, q0, hargs, rfl, rfl, h0', r0⟩ := trodAll_cons hA
  obtain ⟨rfl, rfl, rfl⟩ := trodAll_nil r0
  obtain rfl : args = #[v0'] := by cases args; simp_all
  obtain ⟨rfl, rfl⟩ := trodVars_none hV
  have k0 := h0'
  have lt0 : ∀ x ∈ p0, x.block < W.heap.size := by obtain ⟨m, hm⟩ := k0; exact DataW.trod_lt m _ _ _ hm
  obtain ⟨x0, e0, w0⟩ := DecT.arg (w := W) (dec_rec W) k0
  obtain rfl := agg_of Try.underlying38 (hval 0 38 v0' rfl rfl) e0
  clear hA0 hval0
  refine (walk W x0 w0).mono fun e W' ⟨he, bel⟩ => ?_
  subst he
  exact ⟨_, rfl, _, _, _, [], _, [], hW', trodAll_mk1 (shut_bool Try.underlying4 _), (trodAll_cons_mk (Below.trod laidOut (by kernel_rfl) (of_decide_eq_true (by kernel_rfl)) k0 bel lt0) trodAll_mk0), rfl, bel.frame _, fun h => by cases h⟩

theorem over : Rows.wordsTermsRow.holds Try.pinned (OpenSpec.ofChange Rows.wordsTermsSpec) :=
  OpenClaim.holds_of_wide 8 Try.f8 rfl rfl rfl rfl rfl rfl rfl ⟨rfl, rfl, rfl, rfl, rfl⟩ rfl rfl rfl rfl rfl (by kernel_rfl) Try.func8 (by kernel_rfl)
    (of_decide_eq_true (by kernel_rfl)) (by unfold Func.isWrapper; first | (rw [if_pos (by decide +kernel)]; kernel_rfl) | (rw [if_neg (by decide +kernel)]; exact ⟨rfl, rfl⟩))
    (fun os started H enc _ => lifted os started H enc)

theorem proved : Rows.WordsTermsSaid := over
#print axioms proved
end Go.Proofs.Ytfooomfdokkiaaa.lawWordsTerms

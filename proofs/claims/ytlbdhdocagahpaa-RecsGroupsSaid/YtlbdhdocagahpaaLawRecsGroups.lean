/-
  'RecsGroups': the groups of any log, for any size, are the document's. No condition.
-/
import Derived.Test.YtlbdhdocagahpaaRecG
import Derived.Test.YtlbdhdocagahpaaRows
import Derived.Test.YtlbdhdocagahpaaOpen
namespace Go.Proofs.Ytlbdhdocagahpaa.lawRecsGroups
open Go.ChangeShapes Go.WideShapes Go.ChangeAt Go.RowKit
open Go.ChangeMaps (open_string shut_string)
set_option linter.unusedVariables false
set_option maxRecDepth 20000
theorem walk (w : World) (size : Int) (hz : -9223372036854775808 ≤ size ∧ size ≤ 9223372036854775807) (b : Bool) (v : Value) (l : List RecC) (hr : Rd w w.heap.size 4 v l.length (l.flatMap RecC.cells)) (ho : ∀ x ∈ l, RecC.ok x) (hm : l.length ≤ maxLen) :
    Calls Try.prog 5 #[.int .i64 size, .bool b, v] w fun e w' => e = .returned (.bool true) ∧ Below w.heap.size w w' := by
  obtain ⟨A0, c0, rfl, hc0⟩ := hr.form
  have hbo : Bor w.heap.size w [] 4 (.slice A0 l.length c0) l.length (recs l) := Bor.in_ hr
  have hx : ∀ x ∈ l, x.1 < 18446744073709551616 := fun x h => (ho x h).1
  simp only [maxLen] at hm
  have hS : (((max 1 size).toNat : Nat) : Int) = max 1 size := by omega
  have hS2 : (max 1 size).toNat ≤ 9223372036854775807 := by omega
  refine Does.law (args := [.int .i64 size, .bool b, .slice A0 l.length c0]) ?_
  refine fn_walk Try.func5 22 rfl rfl rfl [(0, .int .i64 size), (1, .bool b), (2, .slice A0 l.length c0)] ⟨⟨rfl, rfl⟩, ⟨rfl, rfl⟩, ⟨rfl, rfl⟩, trivial⟩ ?_
  refine vc_seq ?_
  refine vc_region ?_
  refine vl_det (det_assign rfl) rfl ?_
  refine vl_end [(0, _), (1, _), (2, _)] ⟨rfl, rfl, rfl, trivial⟩ ?_
  refine then_next ?_
  refine vc_seq ?_
  refine vc_seq ?_
  refine vc_region ?_
  refine vl_call co12 rfl (alive_d) rfl ?_
  rintro _ _ ⟨rfl, hLL⟩
  obtain rfl := hLL.symm
  refine vl_det (det_not_t rfl) rfl ?_
  refine vl_end [(0, _), (1, _), (2, _), (8, _)] ⟨rfl, rfl, rfl, rfl, trivial⟩ ?_
  refine then_next ?_
  refine vc_cond_f rfl ?_
  refine vc_skip ?_
  refine then_next ?_
  refine vc_seq ?_
  refine vc_region ?_
  refine vl_det (det_move rfl) rfl ?_
  refine vl_call co15 rfl (great_d l (by first | (exact Bor.own (by repeat (first | exact List.Mem.head _ | apply List.Mem.tail))) | (repeat (first | assumption | apply Bor.cons))) 50 3000 (by omega) (by omega)) rfl ?_
  rintro _ _ ⟨bg, rfl, hLL, hbg⟩
  obtain rfl := hLL.symm
  refine vl_det (det_move rfl) rfl ?_
  refine vl_guard rfl rfl rfl (fun h11 => ?_) (fun h11 => ?_)
  · skip
    refine vl_det (det_move rfl) rfl ?_
    refine vl_guard_t rfl rfl ?_
    refine vl_det (det_move rfl) rfl ?_
    refine vl_guard_t rfl rfl ?_
    refine vl_det (det_move rfl) rfl ?_
    refine vl_guard_t rfl rfl ?_
    refine vl_call co22 rfl (groups_d size b l (by first | (exact Bor.own (by repeat (first | exact List.Mem.head _ | apply List.Mem.tail))) | (repeat (first | assumption | apply Bor.cons))) hx (by have := hbg h11; omega) _ hS hS2) rfl ?_
    rintro _ _ ⟨A15, c15, rfl, hLL⟩
    obtain rfl := hLL.symm
    refine vl_guard_t rfl rfl ?_
    refine vl_det (det_move rfl) rfl ?_
    refine vl_guard_t rfl rfl ?_
    refine vl_det (det_move rfl) rfl ?_
    refine vl_guard_t rfl rfl ?_
    refine vl_det (det_move rfl) rfl ?_
    refine vl_guard_t rfl rfl ?_
    refine vl_call co23 rfl (rgroups_d size b l (by first | (exact Bor.own (by repeat (first | exact List.Mem.head _ | apply List.Mem.tail))) | (repeat (first | assumption | apply Bor.cons))) hx (by have := hbg h11; omega) _ hS hS2) rfl ?_
    rintro _ _ ⟨A19, c19, rfl, hLL⟩
    obtain rfl := hLL.symm
    refine vl_guard_t rfl rfl ?_
    refine vl_call co21 rfl (same9_d (by first | (exact Bor.own (by repeat (first | exact List.Mem.head _ | apply List.Mem.tail))) | (repeat (first | assumption | apply Bor.cons))) (by first | (exact Bor.own (by repeat (first | exact List.Mem.head _ | apply List.Mem.tail))) | (repeat (first | assumption | apply Bor.cons))) (by have := hbg h11; have := groups_le (max 1 size).toNat (lens b l); rw [lens_length] at this; omega)) rfl ?_
    rintro _ _ ⟨rfl, hLL⟩
    obtain rfl := hLL.symm
    refine vl_det (det_pick_f rfl rfl) rfl ?_
    refine vl_det (det_assign rfl) rfl ?_
    refine vl_end [(6, _)] ⟨rfl, trivial⟩ ?_
    refine then_next ?_
    refine vc_ret ?_
    refine ret_wk (L' := []) (by first | exact .refl _ | exact .skip (.skip (.refl _))) ?_
    refine ret1 rfl rfl ?_
    first | rfl | rw [decide_eq_true rfl]
  · skip
    refine vl_guard_f rfl rfl rfl rfl ?_
    refine vl_guard_f rfl rfl rfl rfl ?_
    refine vl_guard_f rfl rfl rfl rfl ?_
    refine vl_guard_f rfl rfl rfl rfl ?_
    refine vl_guard_f rfl rfl rfl rfl ?_
    refine vl_guard_f rfl rfl rfl rfl ?_
    refine vl_guard_f rfl rfl rfl rfl ?_
    refine vl_guard_f rfl rfl rfl rfl ?_
    refine vl_det (det_pick_t rfl rfl) rfl ?_
    refine vl_det (det_assign rfl) rfl ?_
    refine vl_end [(6, _)] ⟨rfl, trivial⟩ ?_
    refine then_next ?_
    refine vc_ret ?_
    refine ret_wk (L' := []) (by first | exact .refl _ | exact .skip (.skip (.refl _))) ?_
    refine ret1 rfl rfl ?_
    first | rfl | rw [decide_eq_true rfl]
theorem own : ownKnob Try.prog.godebug = none := by kernel_rfl
theorem laidOut : laidOutB Try.prog = true := by kernel_rfl
set_option maxRecDepth 100000 in
theorem lifted (os : Os) (started : os.Started) (H : Type) (enc : TypeId × Value → H) :
    ReturnsInHanded {} Try.checked os 5 .any (Rows.recsGroupsSpec.pre6 enc Try.prog Try.f5 Rows.recsGroupsRow.domain false) (Rows.recsGroupsSpec.post enc Try.prog Try.f5 false true false false) := by
  refine returnsInHanded_of_change (C := Try.checked) own started (by kernel_rfl) Try.func5
    (ChangeSpec.witness6 (enc := enc) (C := Try.checked) false ⟨#[], #[.int .i64 0, .bool false, .slice none 0 0], []⟩ 8 (by kernel_rfl) (by kernel_rfl) (by kernel_rfl) (by kernel_rfl)) ?_
  intro W base args ds gs before hval0 hW hcnd _
  have hval : ∀ (j : Nat) t v, Try.f5.params[j]? = some t → args[j]? = some v → Value.okWide Try.prog W .any base t v := hval0
  have hW' := hW
  obtain ⟨p, q, hA0, hV, rfl, hfz, hnd⟩ := hW
  have hA : DataW.TrodAll enc Try.prog W 0 (fun _ => true) true Try.f5.params.toList args.toList ds p := hA0
  rw [Try.params5] at hA hval
  obtain ⟨v0', vs0, d0, ds0, p0, q0, hargs, rfl, rfl, h0', r0⟩ := trodAll_cons hA
  obtain ⟨v1', vs1, d1, ds1, p1, q1, rfl, rfl, rfl, h1', r1⟩ := trodAll_cons r0
  obtain ⟨v2', vs2, d2, ds2, p2, q2, rfl, rfl, rfl, h2', r2⟩ := trodAll_cons r1
  obtain ⟨rfl, rfl, rfl⟩ := trodAll_nil r2
  obtain rfl : args = #[v0', v1', v2'] := by cases args; simp_all
  obtain ⟨rfl, rfl⟩ := trodVars_none hV
  have k0 := h0'
  have lt0 : ∀ x ∈ p0, x.block < W.heap.size := by obtain ⟨m, hm⟩ := k0; exact DataW.trod_lt m _ _ _ hm
  obtain ⟨a0, rfl, hd0, hp0, w0⟩ := open_int Try.underlying3 (hval 0 3 v0' rfl rfl) h0'
  have k1 := h1'
  have lt1 : ∀ x ∈ p1, x.block < W.heap.size := by obtain ⟨m, hm⟩ := k1; exact DataW.trod_lt m _ _ _ hm
  obtain ⟨a1, rfl, hd1, hp1⟩ := open_bool Try.underlying4 (hval 1 4 v1' rfl rfl) h1'
  have k2 := h2'
  have lt2 : ∀ x ∈ p2, x.block < W.heap.size := by obtain ⟨m, hm⟩ := k2; exact DataW.trod_lt m _ _ _ hm
  obtain ⟨A2, n2, c2, rfl⟩ := okWide_slice Try.underlying22 (hval 2 22 v2' rfl rfl)
  obtain ⟨⟨u2, L2⟩, e2, hr2, ho2, hm2⟩ := DecT.arg (dec_slice Try.underlying22 (by kernel_rfl : Try.prog.cellsOf 44 = 4) (by omega) (fun _ => rfl) (dec_rec W)) k2
  obtain rfl := cells_slice A2 n2 c2 rfl e2
  clear hA0 hval0
  refine (walk W a0 (bounds_i64 w0) a1 _ L2 hr2 ho2 hm2).mono fun e W' ⟨he, bel⟩ => ?_
  subst he
  exact ⟨_, rfl, _, _, _, [], _, [], hW', trodAll_mk1 (shut_bool Try.underlying4 _), (trodAll_cons_mk (Below.trod laidOut (by kernel_rfl) (of_decide_eq_true (by kernel_rfl)) k0 bel lt0) (trodAll_cons_mk (Below.trod laidOut (by kernel_rfl) (of_decide_eq_true (by kernel_rfl)) k1 bel lt1) (trodAll_cons_mk (Below.trod laidOut (by kernel_rfl) (of_decide_eq_true (by kernel_rfl)) k2 bel lt2) trodAll_mk0))), rfl, bel.frame _, fun h => by cases h⟩

theorem over : Rows.recsGroupsRow.holds Try.pinned (OpenSpec.ofChange Rows.recsGroupsSpec) :=
  OpenClaim.holds_of_wide 5 Try.f5 rfl rfl rfl rfl rfl rfl rfl ⟨rfl, rfl, rfl, rfl, rfl⟩ rfl rfl rfl rfl rfl (by kernel_rfl) Try.func5 (by kernel_rfl)
    (of_decide_eq_true (by kernel_rfl)) (by unfold Func.isWrapper; first | (rw [if_pos (by decide +kernel)]; kernel_rfl) | (rw [if_neg (by decide +kernel)]; exact ⟨rfl, rfl⟩))
    (fun os started H enc _ => lifted os started H enc)

theorem proved : Rows.RecsGroupsSaid := over
#print axioms proved
end Go.Proofs.Ytlbdhdocagahpaa.lawRecsGroups

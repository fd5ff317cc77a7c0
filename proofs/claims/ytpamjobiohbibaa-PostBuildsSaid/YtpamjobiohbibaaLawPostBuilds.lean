/-
  'PostBuilds': the index of any log is the document's. No condition.
-/
import Derived.Test.YtpamjobiohbibaaPostA
import Derived.Test.YtpamjobiohbibaaRows
import Derived.Test.YtpamjobiohbibaaOpen
namespace Go.Proofs.Ytpamjobiohbibaa.lawPostBuilds
open Go.ChangeShapes Go.WideShapes Go.ChangeAt Go.RowKit
open Go.ChangeMaps (open_string shut_string)
set_option linter.unusedVariables false
set_option maxRecDepth 20000
theorem ids_le {LL : List Lst} {Q : List (List Nat)} {n m : Nat} (h : LL.map (·.2.2) = Q) (hQ : ∀ x ∈ Q, x.length ≤ n) (hnm : n ≤ m) : ∀ e ∈ toI LL, e.2.2.length ≤ m := fun e he => by
  unfold toI at he
  obtain ⟨a, ha, rfl⟩ := List.mem_map.1 he
  have : a.2.2 ∈ Q := h ▸ List.mem_map_of_mem ha
  have := hQ _ this
  simp; omega
theorem walk (w : World) (v : Value) (l : List RecC) (hr : Rd w w.heap.size 4 v l.length (recs l)) (ho : ∀ x ∈ l, RecC.ok x) (hm : l.length ≤ maxLen) :
    Calls Try.prog 3 #[v] w fun e w' => e = .returned (.bool true) ∧ Below w.heap.size w w' := by
  obtain ⟨A0, c0, rfl, hc0⟩ := hr.form
  have hbo : Bor w.heap.size w [] 4 (.slice A0 l.length c0) l.length (recs l) := Bor.in_ hr
  simp only [maxLen] at hm
  have hbT : (bldT (tmF l) l.length).length ≤ wsum l := by
    have h1 := setT_len ((List.range l.length).flatMap (tmF l))
    have h2 := bldT_len l l.length (Nat.le_refl _)
    rw [List.take_length] at h2
    unfold bldT; omega
  have hll := wlen l
  have hbL : ∀ x ∈ bldL (tmF l) l.length, x.length ≤ l.length := fun x hx => by
    obtain ⟨s, _, rfl⟩ := List.mem_map.1 hx
    unfold lsF; exact Nat.le_trans (List.length_filter_le _ _) (by simp)
  obtain ⟨T, hT⟩ : ∃ T, T = bldT (tmF l) l.length := ⟨_, rfl⟩
  have hlL : (bldL (tmF l) l.length).length = T.length := by rw [hT]; simp [bldL]
  have hpb := fun F hb hw => @build_d w.heap.size w F A0 c0 l hb hw
  have hrb := fun F hb hw => @rbuild_d w.heap.size w F A0 c0 l hb hw
  rw [← hT] at hbT
  refine Does.law (args := [.slice A0 l.length c0]) ?_
  refine fn_walk Try.func3 14 rfl rfl rfl [(0, .slice A0 l.length c0)] ⟨⟨rfl, rfl⟩, trivial⟩ ?_
  refine vc_seq ?_
  refine vc_region ?_
  refine vl_det (det_assign rfl) rfl ?_
  refine vl_end [(0, _)] ⟨rfl, trivial⟩ ?_
  refine then_next ?_
  refine vc_seq ?_
  refine vc_seq ?_
  refine vc_region ?_
  refine vl_call co9 rfl (alive_d) rfl ?_
  rintro _ _ ⟨rfl, hLL⟩
  obtain rfl := hLL.symm
  refine vl_det (det_not_t rfl) rfl ?_
  refine vl_end [(0, _), (4, _)] ⟨rfl, rfl, trivial⟩ ?_
  refine then_next ?_
  refine vc_cond_f rfl ?_
  refine vc_skip ?_
  refine then_next ?_
  refine vc_seq ?_
  refine vc_region ?_
  refine vl_det (det_move rfl) rfl ?_
  refine vl_call co10 rfl (great_d l (by first | (exact Bor.own (by repeat (first | exact List.Mem.head _ | apply List.Mem.tail))) | (repeat (first | assumption | apply Bor.cons))) 30 3000 (by omega) (by omega)) rfl ?_
  rintro _ _ ⟨bg, rfl, hLL, hbg⟩
  obtain rfl := hLL.symm
  refine vl_det (det_move rfl) rfl ?_
  refine vl_guard rfl rfl rfl (fun h7 => ?_) (fun h7 => ?_)
  · skip
    refine vl_det (det_move rfl) rfl ?_
    refine vl_guard_t rfl rfl ?_
    refine vl_call co12 rfl (hpb _ (by first | (exact Bor.own (by repeat (first | exact List.Mem.head _ | apply List.Mem.tail))) | (repeat (first | assumption | apply Bor.cons))) (by have := (hbg (by simpa using h7)).2; omega)) rfl ?_
    rintro _ _ ⟨A1, c1, A2, c2, LL, rfl, hLL, hids⟩
    obtain rfl := hLL.symm
    rw [← hT]
    have hLn : LL.length = T.length := by have := congrArg List.length hids; rw [hlL] at this; simpa using this
    have hq1 : Bor w.heap.size w (.own 9 1 A1 T.length c1 (strs T) :: .own 37 1 A2 T.length c2 (LL.map lVal) :: (LL.map lRow ++ [])) 1 (.slice A1 T.length c1) T.length (strs T) := Bor.own (List.Mem.head _)
    have hq2 : Bor w.heap.size w (.own 9 1 A1 T.length c1 (strs T) :: .own 37 1 A2 T.length c2 (LL.map lVal) :: (LL.map lRow ++ [])) 1 (.slice A2 T.length c2) T.length ((toI LL).map iVal) := by rw [toI_val]; exact Bor.own (List.Mem.tail _ (List.Mem.head _))
    have hq3 : LsBor w.heap.size w (.own 9 1 A1 T.length c1 (strs T) :: .own 37 1 A2 T.length c2 (LL.map lVal) :: (LL.map lRow ++ [])) (toI LL) := toI_bor fun e he => List.mem_cons_of_mem _ (List.mem_cons_of_mem _ (List.mem_append_left _ (List.mem_map_of_mem he)))
    refine vl_guard_t rfl rfl ?_
    refine vl_det (det_move rfl) rfl ?_
    refine vl_guard_t rfl rfl ?_
    refine vl_call co13 rfl (hrb _ (hbo.mono (List.nil_sublist _)) (by have := (hbg (by simpa using h7)).2; omega)) rfl ?_
    rintro _ _ ⟨A3, c3, A4, c4, LM, rfl, hLL, hids2⟩
    obtain rfl := hLL.symm
    rw [← hT]
    have hMn : LM.length = T.length := by have := congrArg List.length hids2; rw [hlL] at this; simpa using this
    have hp1 := hq1.mono (List.sublist_append_right (LM.map lRow) _)
    have hp2 := hq2.mono (List.sublist_append_right (LM.map lRow) _)
    have hp3 := hq3.mono (List.sublist_append_right (LM.map lRow) _)
    have hle3 := ids_le hids hbL (Nat.le_refl _)
    refine vl_guard_t rfl rfl ?_
    refine vl_call co11 rfl (rsame18_n (T1 := T) (T2 := T) (L1 := toI LL) (L2 := toI LM) ((toI_len LL).trans hLn) ((toI_len LM).trans hMn) (by first | (exact Bor.own (by repeat (first | exact List.Mem.head _ | apply List.Mem.tail))) | (repeat (first | assumption | apply Bor.cons))) (by first | (exact Bor.own (by repeat (first | exact List.Mem.head _ | apply List.Mem.tail))) | (repeat (first | assumption | apply Bor.cons))) hp3.cons.cons (by first | (exact Bor.own (by repeat (first | exact List.Mem.head _ | apply List.Mem.tail))) | (repeat (first | assumption | apply Bor.cons))) (by rw [toI_val]; exact (by first | (exact Bor.own (by repeat (first | exact List.Mem.head _ | apply List.Mem.tail))) | (repeat (first | assumption | apply Bor.cons)))) (toI_bor fun e he => List.mem_cons_of_mem _ (List.mem_cons_of_mem _ (List.mem_append_left _ (List.mem_map_of_mem he)))) (by have := (hbg (by simpa using h7)).2; omega) (by have := (hbg (by simpa using h7)).2; omega) (fun e he => Nat.le_trans (hle3 e he) (by omega))) rfl ?_
    rintro _ _ ⟨rfl, hLL⟩
    obtain rfl := hLL.symm
    refine vl_det (det_pick_f rfl rfl) rfl ?_
    refine vl_det (det_assign rfl) rfl ?_
    refine vl_end [(2, _)] ⟨rfl, trivial⟩ ?_
    refine then_next ?_
    refine vc_ret ?_
    refine ret1 rfl rfl ?_
    rw [decide_eq_true ⟨rfl, by rw [toI_ids, toI_ids, hids, hids2]⟩]
  · skip
    refine vl_guard_f rfl rfl rfl rfl ?_
    refine vl_guard_f rfl rfl rfl rfl ?_
    refine vl_guard_f rfl rfl rfl rfl ?_
    refine vl_guard_f rfl rfl rfl rfl ?_
    refine vl_det (det_pick_t rfl rfl) rfl ?_
    refine vl_det (det_assign rfl) rfl ?_
    refine vl_end [(2, _)] ⟨rfl, trivial⟩ ?_
    refine then_next ?_
    refine vc_ret ?_
    refine ret1 rfl rfl ?_
    rfl
theorem own : ownKnob Try.prog.godebug = none := by kernel_rfl
theorem laidOut : laidOutB Try.prog = true := by kernel_rfl
set_option maxRecDepth 100000 in
theorem lifted (os : Os) (started : os.Started) (H : Type) (enc : TypeId × Value → H) :
    ReturnsInHanded {} Try.checked os 3 .any (Rows.postBuildsSpec.pre6 enc Try.prog Try.f3 Rows.postBuildsRow.domain false) (Rows.postBuildsSpec.post enc Try.prog Try.f3 false true false false) := by
  refine returnsInHanded_of_change (C := Try.checked) own started (by kernel_rfl) Try.func3
    (ChangeSpec.witness6 (enc := enc) (C := Try.checked) false ⟨#[], #[.slice none 0 0], []⟩ 8 (by kernel_rfl) (by kernel_rfl) (by kernel_rfl) (by kernel_rfl)) ?_
  intro W base args ds gs before hval0 hW hcnd _
  have hval : ∀ (j : Nat) t v, Try.f3.params[j]? = some t → args[j]? = some v → Value.okWide Try.prog W .any base t v := hval0
  have hW' := hW
  obtain ⟨p, q, hA0, hV, rfl, hfz, hnd⟩ := hW
  have hA : DataW.TrodAll enc Try.prog W 0 (fun _ => true) true Try.f3.params.toList args.toList ds p := hA0
  rw [Try.params3] at hA hval
  obtain ⟨v0', vs0, d0, ds0, p0, q0, hargs, rfl, rfl, h0', r0⟩ := trodAll_cons hA
  obtain ⟨rfl, rfl, rfl⟩ := trodAll_nil r0
  obtain rfl : args = #[v0'] := by cases args; simp_all
  obtain ⟨rfl, rfl⟩ := trodVars_none hV
  have k0 := h0'
  have lt0 : ∀ x ∈ p0, x.block < W.heap.size := by obtain ⟨m, hm⟩ := k0; exact DataW.trod_lt m _ _ _ hm
  obtain ⟨A0, n0, c0, rfl⟩ := okWide_slice Try.underlying22 (hval 0 22 v0' rfl rfl)
  obtain ⟨⟨u0, L0⟩, e0, hr0, ho0, hm0⟩ := DecT.arg (dec_slice Try.underlying22 (by kernel_rfl : Try.prog.cellsOf 35 = 4) (by omega) (fun _ => rfl) (dec_rec W)) k0
  obtain rfl := cells_slice A0 n0 c0 rfl e0
  clear hA0 hval0
  refine (walk W _ L0 hr0 ho0 hm0).mono fun e W' ⟨he, bel⟩ => ?_
  subst he
  exact ⟨_, rfl, _, _, _, [], _, [], hW', trodAll_mk1 (shut_bool Try.underlying4 _), (trodAll_cons_mk (Below.trod laidOut (by kernel_rfl) (of_decide_eq_true (by kernel_rfl)) k0 bel lt0) trodAll_mk0), rfl, bel.frame _, fun h => by cases h⟩

theorem over : Rows.postBuildsRow.holds Try.pinned (OpenSpec.ofChange Rows.postBuildsSpec) :=
  OpenClaim.holds_of_wide 3 Try.f3 rfl rfl rfl rfl rfl rfl rfl ⟨rfl, rfl, rfl, rfl, rfl⟩ rfl rfl rfl rfl rfl (by kernel_rfl) Try.func3 (by kernel_rfl)
    (of_decide_eq_true (by kernel_rfl)) (by unfold Func.isWrapper; first | (rw [if_pos (by decide +kernel)]; kernel_rfl) | (rw [if_neg (by decide +kernel)]; exact ⟨rfl, rfl⟩))
    (fun os started H enc _ => lifted os started H enc)

theorem proved : Rows.PostBuildsSaid := over
#print axioms proved
end Go.Proofs.Ytpamjobiohbibaa.lawPostBuilds

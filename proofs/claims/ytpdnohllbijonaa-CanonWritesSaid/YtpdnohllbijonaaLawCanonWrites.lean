/-
  'CanonWrites': the bits of any lengths, behind what there was, are the document's. No condition.
-/
import Derived.Test.YtpdnohllbijonaaCanonW
import Derived.Test.YtpdnohllbijonaaCn3
import Derived.Test.YtpdnohllbijonaaRows
import Derived.Test.YtpdnohllbijonaaOpen
namespace Go.Proofs.Ytpdnohllbijonaa.lawCanonWrites
open Go.ChangeShapes Go.WideShapes Go.ChangeAt Go.RowKit
open Go.ChangeMaps (open_string shut_string)
set_option linter.unusedVariables false
theorem rbytes_p {B : Nat} {w0 : World} {A : Option Addr} {c g : Nat} {bt : TypeId} {o a b : Ch} (q : List Bool) (hq : q.length ≤ 7000000) : Does Try.prog B w0 22 [.pointer (some ⟨g, 0, none⟩)] (o :: a :: b :: Wf g bt A c q []) (fun r L => ∃ A' c', r = .slice A' (packed q).length c' ∧ L = .own 5 1 A' (packed q).length c' (bv (packed q)) :: o :: a :: b :: Wf g bt A c q []) := fun w hw =>
  (rbytes_d q hq w (hw.perm (swp32 _ _ _ _ _ _))).mono fun e w' ⟨v, K, he, ⟨A', c', hr, hK⟩, hs⟩ => by
    subst hK
    exact ⟨v, _, he, ⟨A', c', hr, rfl⟩, hs.perm ((swp32 _ _ _ _ _ _).symm.cons _)⟩
theorem walk (w : World) (x : Nat) (hx : x < 256) (v : Value) (l : List UInt8) (hr : Rd w w.heap.size 1 v l.length (bv l)) (hm : l.length ≤ maxLen) :
    Calls Try.prog 7 #[.int .u8 x, v] w fun e w' => e = .returned (.bool true) ∧ Below w.heap.size w w' := by
  obtain ⟨A0, c0, rfl, _⟩ := hr.form
  have hbo : Bor w.heap.size w [] 1 (.slice A0 l.length c0) l.length (bv l) := Bor.in_ hr
  simp only [maxLen] at hm
  refine Does.law (args := [.int .u8 x, .slice A0 l.length c0]) ?_
  refine fn_walk Try.func7 44 rfl rfl rfl [(0, .int .u8 x), (1, .slice A0 l.length c0)] ⟨⟨rfl, rfl⟩, ⟨rfl, rfl⟩, trivial⟩ ?_
  refine vc_seq ?_
  refine vc_region ?_
  refine vl_det (det_assign rfl) rfl ?_
  refine vl_end [(0, _), (1, _)] ⟨rfl, rfl, trivial⟩ ?_
  refine then_next ?_
  refine vc_seq ?_
  refine vc_seq ?_
  refine vc_region ?_
  refine vl_call co10 rfl (alive_d) rfl ?_
  rintro _ _ ⟨rfl, hLL⟩
  obtain rfl := hLL.symm
  refine vl_det (det_not_t rfl) rfl ?_
  refine vl_end [(0, _), (1, _), (10, _)] ⟨rfl, rfl, rfl, trivial⟩ ?_
  refine then_next ?_
  refine vc_cond_f rfl ?_
  refine vc_skip ?_
  refine then_next ?_
  refine vc_seq ?_
  refine vc_seq ?_
  refine vc_region ?_
  refine vl_det (det_move rfl) rfl ?_
  refine vl_det (det_len_sl Try.underlying22 rfl) rfl ?_
  refine vl_det (det_gtr rfl rfl) rfl ?_
  refine vl_end [(0, _), (1, _), (13, _)] ⟨rfl, rfl, rfl, trivial⟩ ?_
  refine then_next ?_
  refine vc_decideU rfl (fun h13 => ?_) (fun h13 => ?_)
  · skip
    refine vc_seq ?_
    refine vc_region ?_
    refine vl_det (det_assign rfl) rfl ?_
    refine vl_end [(4, _)] ⟨rfl, trivial⟩ ?_
    refine then_next ?_
    refine vc_ret ?_
    refine then_ret ?_
    refine ret1 rfl rfl ?_
    first | exact absurd rfl h39 | exact absurd rfl h34 | exact absurd rfl h27 | rw [decide_eq_true rfl] | rfl
  · skip
    refine vc_skip ?_
    refine then_next ?_
    refine vc_seq ?_
    refine vc_nil_row 5 1 none ?_
    refine vc_region ?_
    refine vl_eff (eff_alloc_z (zv := (.agg #[.slice none 0 0, .int .i64 0])) (by kernel_rfl) rfl) rfl ?_
    rintro _ _ ⟨g5, rfl, rfl⟩
    refine vl_end [(0, _), (1, _), (5, _)] ⟨rfl, rfl, rfl, trivial⟩ ?_
    refine then_next ?_
    refine vc_seq ?_
    refine vc_nil_row 5 1 none ?_
    refine vc_region ?_
    refine vl_eff (eff_alloc_z (zv := (.agg #[.slice none 0 0])) (by kernel_rfl) rfl) rfl ?_
    rintro _ _ ⟨g6, rfl, rfl⟩
    refine vl_end [(0, _), (1, _), (5, _), (6, _)] ⟨rfl, rfl, rfl, rfl, trivial⟩ ?_
    refine then_next ?_
    refine vc_seq ?_
    refine vc_perm (perm4 _ _ _ _) ?_
    refine vc_region ?_
    refine vl_det (det_move rfl) rfl ?_
    refine vl_det (det_conv Try.underlying5 Try.underlying39 rfl (w_u64 (by omega) (by omega))) rfl ?_
    refine vl_call co15 rfl (put_d [] x (by omega) 8 (by omega) (by omega) (by simp)) rfl ?_
    rintro _ _ ⟨rfl, A16, c16, hLL⟩
    obtain rfl := hLL.symm
    refine vl_end [(0, _), (1, _), (5, _), (6, _)] ⟨rfl, rfl, rfl, rfl, trivial⟩ ?_
    refine then_next ?_
    refine vc_seq ?_
    refine vc_region ?_
    refine vl_det (det_move rfl) rfl ?_
    refine vl_det (det_conv Try.underlying5 Try.underlying39 rfl (w_u64 (by omega) (by omega))) rfl ?_
    refine vl_call co16 rfl ((rput_d [] x (by omega) 8 (by omega) (by omega) (by simp)).perm (swp22 _ _ _ _ _)) rfl ?_
    rintro _ _ ⟨rfl, A19, c19, hLL⟩
    obtain rfl := hLL.symm
    refine vl_end [(1, _), (5, _), (6, _)] ⟨rfl, rfl, rfl, trivial⟩ ?_
    refine then_next ?_
    refine vc_seq ?_
    refine vc_region ?_
    refine vl_det (det_move rfl) rfl ?_
    refine vl_call co17 rfl ((write_c l ([] ++ hi x 8 8) (by first | (exact Bor.own (by repeat (first | exact List.Mem.head _ | apply List.Mem.tail))) | (repeat (first | assumption | apply Bor.cons))) (by simp [hi_length])).perm (swp22 _ _ _ _ _)) rfl ?_
    rintro _ _ ⟨rfl, A21, c21, hLL⟩
    obtain rfl := hLL.symm
    refine vl_det (det_assign rfl) rfl ?_
    refine vl_end [(1, _), (5, _), (6, _), (7, _)] ⟨rfl, rfl, rfl, rfl, trivial⟩ ?_
    refine then_next ?_
    refine vc_seq ?_
    refine vc_region ?_
    refine vl_det (det_move rfl) rfl ?_
    refine vl_call co18 rfl ((rwrite_c l ([] ++ hi x 8 8) (by first | (exact Bor.own (by repeat (first | exact List.Mem.head _ | apply List.Mem.tail))) | (repeat (first | assumption | apply Bor.cons))) (by simp [hi_length])).perm (swp22 _ _ _ _ _)) rfl ?_
    rintro _ _ ⟨rfl, A23, c23, hLL⟩
    obtain rfl := hLL.symm
    refine vl_det (det_assign rfl) rfl ?_
    refine vl_end [(1, _), (5, _), (6, _), (7, _), (8, _)] ⟨rfl, rfl, rfl, rfl, rfl, trivial⟩ ?_
    refine then_next ?_
    refine vc_seq ?_
    refine vc_perm (swp22 _ _ _ _ _) ?_
    have hwl := wQ_len ([] ++ hi x 8 8) l
    rw [List.nil_append, hi_length] at hwl
    rw [List.nil_append]
    generalize wQ (hi x 8 8) l = q at hwl ⊢
    refine vh_region (S := Wr g5 35 A21 c21 q (Wf g6 37 A23 c23 q [])) (by kernel_rfl) (by repeat (first | exact List.Sublist.refl _ | exact List.nil_sublist _ | apply List.Sublist.cons_cons | apply List.Sublist.cons)) ?_
    refine vh_take 0 rfl (by kernel_rfl) (by kernel_rfl) (by kernel_rfl) (det_move rfl) rfl ?_
    refine vh_take 1 rfl (by kernel_rfl) (by kernel_rfl) (by kernel_rfl) (det_move rfl) rfl ?_
    refine vh_take 2 rfl (by kernel_rfl) (by kernel_rfl) (by kernel_rfl) (det_eql rfl rfl) rfl ?_
    refine vh_take 3 rfl (by kernel_rfl) (by kernel_rfl) (by kernel_rfl) (det_move rfl) rfl ?_
    refine vh_split 27 rfl (fun h27 => ?_) (fun h27 => ?_)
    · skip
      refine vh_take_g 5 rfl (by kernel_rfl) (by kernel_rfl) (by kernel_rfl) rfl rfl (det_fieldAddr_ Try.underlying37 rfl (by kernel_rfl) rfl rfl) rfl ?_
      refine vh_take_g 6 rfl (by kernel_rfl) (by kernel_rfl) (by kernel_rfl) rfl rfl (det_load_blk (by kernel_rfl) rfl (by repeat (first | exact .hd | apply Sel.tl)) rfl) rfl ?_
      refine vh_take_g 7 rfl (by kernel_rfl) (by kernel_rfl) (by kernel_rfl) rfl rfl (det_len_sl Try.underlying22 rfl) rfl ?_
      refine vh_one 4 (by kernel_rfl) ?_
      refine st_call rfl (.yes rfl rfl) co19 rfl (len_d q) rfl (by rintro _ _ ⟨rfl, rfl⟩; exact (by repeat (first | exact List.Sublist.refl _ | exact List.nil_sublist _ | apply List.Sublist.cons_cons | apply List.Sublist.cons))) ?_
      rintro _ _ ⟨rfl, hLL⟩
      obtain rfl := hLL.symm
      refine vh_take_g 8 rfl (by kernel_rfl) (by kernel_rfl) (by kernel_rfl) rfl rfl (det_eql rfl rfl) rfl ?_
      refine vh_take 9 rfl (by kernel_rfl) (by kernel_rfl) (by kernel_rfl) (det_pick_t rfl rfl) rfl ?_
      refine vh_take 10 rfl (by kernel_rfl) (by kernel_rfl) (by kernel_rfl) (det_move rfl) rfl ?_
      refine vh_split 34 rfl (fun h34 => ?_) (fun h34 => ?_)
      · skip
        refine vh_one 11 (by kernel_rfl) ?_
        refine st_call rfl (.yes rfl rfl) co21 rfl (bytes_d q (by omega)) rfl (by rintro _ _ ⟨A35, c35, rfl, rfl⟩; exact (by repeat (first | exact List.Sublist.refl _ | exact List.nil_sublist _ | apply List.Sublist.cons_cons | apply List.Sublist.cons))) ?_
        rintro _ _ ⟨A35, c35, rfl, hLL⟩
        obtain rfl := hLL.symm
        refine vh_one 12 (by kernel_rfl) ?_
        refine st_call rfl (.yes rfl rfl) co22 rfl (rbytes_p q (by omega)) rfl (by rintro _ _ ⟨A36, c36, rfl, rfl⟩; exact (by repeat (first | exact List.Sublist.refl _ | exact List.nil_sublist _ | apply List.Sublist.cons_cons | apply List.Sublist.cons))) ?_
        rintro _ _ ⟨A36, c36, rfl, hLL⟩
        obtain rfl := hLL.symm
        refine vh_one 13 (by kernel_rfl) ?_
        refine st_call rfl (.yes rfl rfl) co20 rfl (same_d (by first | (exact Bor.own (by repeat (first | exact List.Mem.head _ | apply List.Mem.tail))) | (repeat (first | assumption | apply Bor.cons))) (by first | (exact Bor.own (by repeat (first | exact List.Mem.head _ | apply List.Mem.tail))) | (repeat (first | assumption | apply Bor.cons)))) rfl (by rintro _ _ ⟨rfl, rfl⟩; exact (by repeat (first | exact List.Sublist.refl _ | exact List.nil_sublist _ | apply List.Sublist.cons_cons | apply List.Sublist.cons))) ?_
        rintro _ _ ⟨rfl, hLL⟩
        obtain rfl := hLL.symm
        refine vh_take 14 rfl (by kernel_rfl) (by kernel_rfl) (by kernel_rfl) (det_pick_t rfl rfl) rfl ?_
        refine vh_take 15 rfl (by kernel_rfl) (by kernel_rfl) (by kernel_rfl) (det_move rfl) rfl ?_
        refine vh_split 39 rfl (fun h39 => ?_) (fun h39 => ?_)
        · skip
          refine vh_take_g 16 rfl (by kernel_rfl) (by kernel_rfl) (by kernel_rfl) rfl rfl (det_move rfl) rfl ?_
          refine vh_one 17 (by kernel_rfl) ?_
          refine st_call rfl (.yes rfl rfl) co17 rfl (writenil_d l) rfl (by rintro _ _ ⟨rfl, rfl⟩; exact (by repeat (first | exact List.Sublist.refl _ | exact List.nil_sublist _ | apply List.Sublist.cons_cons | apply List.Sublist.cons))) ?_
          rintro _ _ ⟨rfl, hLL⟩
          obtain rfl := hLL.symm
          refine vh_take_g 18 rfl (by kernel_rfl) (by kernel_rfl) (by kernel_rfl) rfl rfl (det_eql rfl rfl) rfl ?_
          refine vh_take 19 rfl (by kernel_rfl) (by kernel_rfl) (by kernel_rfl) (det_pick_t rfl rfl) rfl ?_
          refine vh_take 20 rfl (by kernel_rfl) (by kernel_rfl) (by kernel_rfl) (det_assign rfl) rfl ?_
          refine vh_done [(4, _)] ⟨rfl, trivial⟩ (by kernel_rfl) ?_
          refine then_next ?_
          refine vc_ret ?_
          refine ret1 rfl rfl ?_
          first | exact absurd rfl h39 | exact absurd rfl h34 | exact absurd rfl h27 | rw [decide_eq_true rfl] | rfl
        · skip
          refine vh_take_f 16 rfl (by kernel_rfl) (by kernel_rfl) (by kernel_rfl) rfl rfl rfl rfl ?_
          refine vh_take_f 17 rfl (by kernel_rfl) (by kernel_rfl) (by kernel_rfl) rfl rfl rfl rfl ?_
          refine vh_take_f 18 rfl (by kernel_rfl) (by kernel_rfl) (by kernel_rfl) rfl rfl rfl rfl ?_
          refine vh_take 19 rfl (by kernel_rfl) (by kernel_rfl) (by kernel_rfl) (det_pick_f rfl rfl) rfl ?_
          refine vh_take 20 rfl (by kernel_rfl) (by kernel_rfl) (by kernel_rfl) (det_assign rfl) rfl ?_
          refine vh_done [(4, _)] ⟨rfl, trivial⟩ (by kernel_rfl) ?_
          refine then_next ?_
          refine vc_ret ?_
          refine ret1 rfl rfl ?_
          first | exact absurd rfl h39 | exact absurd rfl h34 | exact absurd rfl h27 | rw [decide_eq_true rfl] | rfl
      · skip
        refine vh_take_f 11 rfl (by kernel_rfl) (by kernel_rfl) (by kernel_rfl) rfl rfl rfl rfl ?_
        refine vh_take_f 12 rfl (by kernel_rfl) (by kernel_rfl) (by kernel_rfl) rfl rfl rfl rfl ?_
        refine vh_take_f 13 rfl (by kernel_rfl) (by kernel_rfl) (by kernel_rfl) rfl rfl rfl rfl ?_
        refine vh_take 14 rfl (by kernel_rfl) (by kernel_rfl) (by kernel_rfl) (det_pick_f rfl rfl) rfl ?_
        refine vh_take 15 rfl (by kernel_rfl) (by kernel_rfl) (by kernel_rfl) (det_move rfl) rfl ?_
        refine vh_take_f 16 rfl (by kernel_rfl) (by kernel_rfl) (by kernel_rfl) rfl rfl rfl rfl ?_
        refine vh_take_f 17 rfl (by kernel_rfl) (by kernel_rfl) (by kernel_rfl) rfl rfl rfl rfl ?_
        refine vh_take_f 18 rfl (by kernel_rfl) (by kernel_rfl) (by kernel_rfl) rfl rfl rfl rfl ?_
        refine vh_take 19 rfl (by kernel_rfl) (by kernel_rfl) (by kernel_rfl) (det_pick_f rfl rfl) rfl ?_
        refine vh_take 20 rfl (by kernel_rfl) (by kernel_rfl) (by kernel_rfl) (det_assign rfl) rfl ?_
        refine vh_done [(4, _)] ⟨rfl, trivial⟩ (by kernel_rfl) ?_
        refine then_next ?_
        refine vc_ret ?_
        refine ret1 rfl rfl ?_
        first | exact absurd rfl h39 | exact absurd rfl h34 | exact absurd rfl h27 | rw [decide_eq_true rfl] | rfl
    · skip
      refine vh_take_f 4 rfl (by kernel_rfl) (by kernel_rfl) (by kernel_rfl) rfl rfl rfl rfl ?_
      refine vh_take_f 5 rfl (by kernel_rfl) (by kernel_rfl) (by kernel_rfl) rfl rfl rfl rfl ?_
      refine vh_take_f 6 rfl (by kernel_rfl) (by kernel_rfl) (by kernel_rfl) rfl rfl rfl rfl ?_
      refine vh_take_f 7 rfl (by kernel_rfl) (by kernel_rfl) (by kernel_rfl) rfl rfl rfl rfl ?_
      refine vh_take_f 8 rfl (by kernel_rfl) (by kernel_rfl) (by kernel_rfl) rfl rfl rfl rfl ?_
      refine vh_take 9 rfl (by kernel_rfl) (by kernel_rfl) (by kernel_rfl) (det_pick_f rfl rfl) rfl ?_
      refine vh_take 10 rfl (by kernel_rfl) (by kernel_rfl) (by kernel_rfl) (det_move rfl) rfl ?_
      refine vh_take_f 11 rfl (by kernel_rfl) (by kernel_rfl) (by kernel_rfl) rfl rfl rfl rfl ?_
      refine vh_take_f 12 rfl (by kernel_rfl) (by kernel_rfl) (by kernel_rfl) rfl rfl rfl rfl ?_
      refine vh_take_f 13 rfl (by kernel_rfl) (by kernel_rfl) (by kernel_rfl) rfl rfl rfl rfl ?_
      refine vh_take 14 rfl (by kernel_rfl) (by kernel_rfl) (by kernel_rfl) (det_pick_f rfl rfl) rfl ?_
      refine vh_take 15 rfl (by kernel_rfl) (by kernel_rfl) (by kernel_rfl) (det_move rfl) rfl ?_
      refine vh_take_f 16 rfl (by kernel_rfl) (by kernel_rfl) (by kernel_rfl) rfl rfl rfl rfl ?_
      refine vh_take_f 17 rfl (by kernel_rfl) (by kernel_rfl) (by kernel_rfl) rfl rfl rfl rfl ?_
      refine vh_take_f 18 rfl (by kernel_rfl) (by kernel_rfl) (by kernel_rfl) rfl rfl rfl rfl ?_
      refine vh_take 19 rfl (by kernel_rfl) (by kernel_rfl) (by kernel_rfl) (det_pick_f rfl rfl) rfl ?_
      refine vh_take 20 rfl (by kernel_rfl) (by kernel_rfl) (by kernel_rfl) (det_assign rfl) rfl ?_
      refine vh_done [(4, _)] ⟨rfl, trivial⟩ (by kernel_rfl) ?_
      refine then_next ?_
      refine vc_ret ?_
      refine ret1 rfl rfl ?_
      first | exact absurd rfl h39 | exact absurd rfl h34 | exact absurd rfl h27 | rw [decide_eq_true rfl] | rfl
theorem own : ownKnob Try.prog.godebug = none := by kernel_rfl
theorem laidOut : laidOutB Try.prog = true := by kernel_rfl
set_option maxRecDepth 100000 in
theorem lifted (os : Os) (started : os.Started) (H : Type) (enc : TypeId × Value → H) :
    ReturnsInHanded {} Try.checked os 7 .any (Rows.canonWritesSpec.pre6 enc Try.prog Try.f7 Rows.canonWritesRow.domain false) (Rows.canonWritesSpec.post enc Try.prog Try.f7 false true false false) := by
  refine returnsInHanded_of_change (C := Try.checked) own started (by kernel_rfl) Try.func7
    (ChangeSpec.witness6 (enc := enc) (C := Try.checked) false ⟨#[], #[.int .u8 0, .slice none 0 0], []⟩ 8 (by kernel_rfl) (by kernel_rfl) (by kernel_rfl) (by kernel_rfl)) ?_
  intro W base args ds gs before hval0 hW hcnd _
  have hval : ∀ (j : Nat) t v, Try.f7.params[j]? = some t → args[j]? = some v → Value.okWide Try.prog W .any base t v := hval0
  have hW' := hW
  obtain ⟨p, q, hA0, hV, rfl, hfz, hnd⟩ := hW
  have hA : DataW.TrodAll enc Try.prog W 0 (fun _ => true) true Try.f7.params.toList args.toList ds p := hA0
  rw [Try.params7] at hA hval
  obtain ⟨v0', vs0, d0, ds0, p0, q0, hargs, rfl, rfl, h0', r0⟩ := trodAll_cons hA
  obtain ⟨v1', vs1, d1, ds1, p1, q1, rfl, rfl, rfl, h1', r1⟩ := trodAll_cons r0
  obtain ⟨rfl, rfl, rfl⟩ := trodAll_nil r1
  obtain rfl : args = #[v0', v1'] := by cases args; simp_all
  obtain ⟨rfl, rfl⟩ := trodVars_none hV
  have k0 := h0'
  have lt0 : ∀ x ∈ p0, x.block < W.heap.size := by obtain ⟨m, hm⟩ := k0; exact DataW.trod_lt m _ _ _ hm
  obtain ⟨a0, rfl, hd0, hp0, w0⟩ := open_int Try.underlying5 (hval 0 5 v0' rfl rfl) h0'
  have bd0 := bounds_u8 w0
  obtain ⟨n0, rfl⟩ := Int.eq_ofNat_of_zero_le bd0.1
  have k1 := h1'
  have lt1 : ∀ x ∈ p1, x.block < W.heap.size := by obtain ⟨m, hm⟩ := k1; exact DataW.trod_lt m _ _ _ hm
  obtain ⟨A1, n1, c1, rfl⟩ := okWide_slice Try.underlying22 (hval 1 22 v1' rfl rfl)
  obtain ⟨⟨u1, L1⟩, e1, hr1, ho1, hm1⟩ := DecT.arg (dec_slice Try.underlying22 (by kernel_rfl : Try.prog.cellsOf 5 = 1) (by omega) (fun _ => rfl) (dec_u8 (w := W) Try.underlying5)) k1
  obtain rfl := cells_slice A1 n1 c1 rfl e1
  rw [flatMap_bv] at hr1
  clear hA0 hval0
  refine (walk W n0 (by omega) _ L1 hr1 hm1).mono fun e W' ⟨he, bel⟩ => ?_
  subst he
  exact ⟨_, rfl, _, _, _, [], _, [], hW', trodAll_mk1 (shut_bool Try.underlying4 _), (trodAll_cons_mk (Below.trod laidOut (by kernel_rfl) (of_decide_eq_true (by kernel_rfl)) k0 bel lt0) (trodAll_cons_mk (Below.trod laidOut (by kernel_rfl) (of_decide_eq_true (by kernel_rfl)) k1 bel lt1) trodAll_mk0)), rfl, bel.frame _, fun h => by cases h⟩

theorem over : Rows.canonWritesRow.holds Try.pinned (OpenSpec.ofChange Rows.canonWritesSpec) :=
  OpenClaim.holds_of_wide 7 Try.f7 rfl rfl rfl rfl rfl rfl rfl ⟨rfl, rfl, rfl, rfl, rfl⟩ rfl rfl rfl rfl rfl (by kernel_rfl) Try.func7 (by kernel_rfl)
    (of_decide_eq_true (by kernel_rfl)) (by unfold Func.isWrapper; first | (rw [if_pos (by decide +kernel)]; kernel_rfl) | (rw [if_neg (by decide +kernel)]; exact ⟨rfl, rfl⟩))
    (fun os started H enc _ => lifted os started H enc)

theorem proved : Rows.CanonWritesSaid := over
#print axioms proved
end Go.Proofs.Ytpdnohllbijonaa.lawCanonWrites

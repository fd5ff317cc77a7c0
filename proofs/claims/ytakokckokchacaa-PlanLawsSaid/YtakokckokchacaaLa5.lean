/-
  Texts of one proof, joined: part 5. No condition.
-/
import Derived.Test.YtakokckokchacaaLa4
import Derived.ProofKit
import Derived.OpenShut
import Derived.ShutString
import Derived.ChangeOld
import Derived.Deep.Slices
namespace Go.Proofs.Ytakokckokchacaa
open Go.RowKit
set_option linter.unusedVariables false
set_option maxRecDepth 20000
variable {B : Nat} {w0 : World} {F L M : List Ch} {A A2 : Option Addr} {n c c2 g : Nat}
theorem set_last {α : Type} {l : List α} (h : 1 ≤ l.length) (v : α) : l.set (l.length - 1) v = l.take (l.length - 1) ++ [v] := by
  rw [List.set_eq_take_append_cons_drop, if_pos (by omega), List.drop_of_length_le (by omega)]
theorem nv_iface {t : Qt} {u : Value} (h : NV B w0 L t [u]) (hn : t.isN) : ∃ ty v, u = .iface ty v := by
  cases t with
  | leaf s => exact ⟨_, _, by simpa using (show [u] = _ from h)⟩
  | not k => obtain ⟨x, hx, _⟩ := h; exact ⟨_, _, by simpa using hx⟩
  | group op ks => obtain ⟨A, c, vs, hx, _⟩ := h; exact ⟨_, _, by simpa using hx⟩
  | nil => exact hn.elim
  | cons k r => exact hn.elim
theorem tree_x {q : List StepC} {t : Qt} (hb : Bor B w0 F 5 (.slice A q.length c) q.length (stepsV q)) (hq : q.length ≤ 1000) (hd : depS [] q = some [t.dep]) (hp : parS [] q = [t]) :
    Does Try.prog B w0 30 [.slice A q.length c] F (fun r L => ∃ M, L = M ++ F ∧ NV B w0 M t [r]) := by
  refine fn_walk Try.func30 63 rfl rfl rfl [(0, .slice A q.length c)] ⟨⟨rfl, rfl⟩, trivial⟩ ?_
  refine vc_seq ?_
  refine vc_region ?_
  refine vl_det (det_assign rfl) rfl ?_
  refine vl_end [(0, _)] ⟨rfl, trivial⟩ ?_
  refine then_next ?_
  refine vc_seq ?_
  refine vc_region ?_
  refine vl_det (det_assign rfl) rfl ?_
  refine vl_end [(0, _), (3, _)] ⟨rfl, rfl, trivial⟩ ?_
  refine then_next ?_
  refine vc_seq ?_
  refine vc_seq ?_
  refine vc_nil_row 58 1 none ?_
  refine vc_region ?_
  refine vl_det (det_move rfl) rfl ?_
  refine vl_det (det_len_sl Try.underlying22 rfl) rfl ?_
  refine vl_det (det_move rfl) rfl ?_
  refine vl_end [(3, _), (8, _), (9, _), (10, _)] ⟨rfl, rfl, rfl, rfl, trivial⟩ ?_
  refine then_next ?_
  refine vc_block ?_
  refine vc_loopJ (fun zf zL zm => ∃ (k : Nat) (S : List Qt) (us : List Value) (M : List Ch) (A3 : Option Addr) (c3 : Nat), (k ≤ q.length ∧ (∀ t ∈ S, t.isN ∧ t.wf) ∧ depS (S.map Qt.dep) (q.drop k) = some [t.dep] ∧ parS S (q.drop k) = [t] ∧ NVs B w0 M S us ∧ S.length ≤ k) ∧ q.length - k = zm ∧ Sub zf [(3, .slice A3 S.length c3), (8, .slice A q.length c), (9, .int .i64 q.length), (10, .int .i64 k)] ∧ Wk zL (.own 58 1 A3 S.length c3 us :: (M ++ F))) _ ⟨0, [], [], [], none, 0, ⟨Nat.zero_le _, fun t h => absurd h (by simp), hd, hp, rfl, Nat.le_refl _⟩, rfl, ⟨(by first | rfl | exact int_to (by omega) | exact sl_to (by omega)), (by first | rfl | exact int_to (by omega) | exact sl_to (by omega)), (by first | rfl | exact int_to (by omega) | exact sl_to (by omega)), (by first | rfl | exact int_to (by omega) | exact sl_to (by omega)), trivial⟩, .refl _⟩ ?_
  rintro _ _ _ ⟨k, S, us, M, A3, c3, ⟨hk, hS, hD, hP, hN, hSk⟩, rfl, hs, hp⟩
  refine vc_weaken _ hs (vc_wk hp ?_)
  clear hs hp
  refine vc_seq ?_
  refine vc_region ?_
  refine vl_det (det_lss rfl rfl) rfl ?_
  refine vl_end [(3, _), (8, _), (9, _), (10, _), (11, _)] ⟨rfl, rfl, rfl, rfl, rfl, trivial⟩ ?_
  refine then_next ?_
  refine vc_seq ?_
  refine vc_decideU rfl (fun h11 => ?_) (fun h11 => ?_)
  · skip
    rw [drop_getD (show k < q.length by omega) sNil] at hD hP
    have hone := step_one (q.getD k sNil)
    have hcl := step_cells (q := q) (k := k) (by omega)
    obtain ⟨s, hs⟩ : ∃ s, s = q.getD k sNil := ⟨_, rfl⟩
    rw [← hs] at hD hP hone hcl
    have hul := hN.len
    have hbb : Bor B w0 (M ++ F) 5 (.slice A q.length c) q.length (stepsV q) := hb.mono (List.sublist_append_right ..)
    rw [depS_cons, List.length_map] at hD
    have hcnd : rightS s ∧ takesS s ≤ S.length := Classical.byContradiction fun h => by rw [if_neg h] at hD; cases hD
    rw [if_pos hcnd] at hD
    obtain ⟨hrs, htk⟩ := hcnd
    obtain ⟨hS2, hD2, _⟩ := stepT_ok hS hrs htk
    rw [← hD2] at hD
    rw [parS_cons] at hP
    clear hD2
    obtain ⟨op, nn, wd, fr, to⟩ := s
    simp only [StepC.cells] at hone hcl
    refine vc_skip ?_
    refine then_next ?_
    refine vc_seq ?_
    refine vc_block ?_
    refine vc_seq ?_
    refine vc_region ?_
    refine vl_det (det_indexAddr (size := 5) Try.underlying22 (by kernel_rfl) rfl rfl rfl (by omega) (by first | (exact Bor.own (by repeat (first | exact List.Mem.head _ | apply List.Mem.tail))) | (repeat (first | assumption | apply Bor.cons)))) rfl ?_
    refine vl_det (det_load_rowa 5 (by kernel_rfl) rfl (by first | (exact Bor.own (by repeat (first | exact List.Mem.head _ | apply List.Mem.tail))) | (repeat (first | assumption | apply Bor.cons))) (by omega) [.int .i64 op, .int .i64 nn, .string ⟨wd.toArray⟩, .int .u64 (fr : Int), .int .u64 (to : Int)] hcl rfl) rfl ?_
    refine vl_eff (eff_alloc_z (zv := (.agg #[.int .i64 0, .int .i64 0, .string ⟨#[]⟩, .int .u64 0, .int .u64 0])) (by kernel_rfl) rfl) rfl ?_
    rintro _ _ ⟨g5, rfl, rfl⟩
    refine vl_eff0 (eff_store_whole 5 (by kernel_rfl) rfl rfl (by first | exact bv_one _ | exact strs_one _ | exact ints_one _ _ | (simp; done) | (simp [Value.oneCell']; done) | assumption) (by repeat (first | exact .hd | apply Sel.tl)) (by first | rfl | (simp; omega) | (simp [*]; done)) (by first | rfl | (simp; omega) | (simp [*]; done))) ?_
    rintro _ _ rfl
    refine vl_end [(3, _), (5, _), (8, _), (9, _), (10, _)] ⟨rfl, rfl, rfl, rfl, rfl, trivial⟩ ?_
    refine then_next ?_
    refine vc_seq ?_
    refine vc_region ?_
    refine vl_det (det_fieldAddr_ Try.underlying38 rfl (by kernel_rfl) rfl rfl) rfl ?_
    refine vl_det (det_load_blk (by kernel_rfl) rfl (by repeat (first | exact .hd | apply Sel.tl)) rfl) rfl ?_
    refine vl_end [(3, _), (5, _), (8, _), (9, _), (10, _), (15, _)] ⟨rfl, rfl, rfl, rfl, rfl, rfl, trivial⟩ ?_
    refine then_next ?_
    refine vc_block ?_
    refine vc_seq ?_
    refine vc_region ?_
    refine vl_det (det_eql rfl rfl) rfl ?_
    refine vl_det (det_assign rfl) rfl ?_
    refine vl_end [(3, _), (5, _), (8, _), (9, _), (10, _), (15, _), (22, _)] ⟨rfl, rfl, rfl, rfl, rfl, rfl, rfl, trivial⟩ ?_
    refine then_next ?_
    refine vc_decideU rfl (fun h22 => ?_) (fun h22 => ?_)
    · skip
      have hT : takesS (op, nn, wd, fr, to) = 1 := by unfold takesS; simp [h22]
      have hE : stepT S (op, nn, wd, fr, to) = S.take (S.length - 1) ++ [.not (S.getD (S.length - 1) .nil)] := by unfold stepT; simp [h22]
      rw [hT] at htk
      rw [hE] at hS2 hD hP
      obtain ⟨u, hu, hku⟩ := hN.get (k := S.length - 1) (by omega)
      obtain ⟨uy, uv, rfl⟩ := nv_iface hku (hS _ (getD_mem (show S.length - 1 < S.length by omega) .nil)).1
      have hu1 : us[(S.length - 1) * 1]? = some (.iface uy uv) := by rw [Nat.mul_one]; exact hu
      have hnm : NV B w0 M (.not (S.getD (S.length - 1) .nil)) [.iface 64 (.agg #[.iface uy uv])] := ⟨_, rfl, hku⟩
      have hset : ∀ v, us.set ((S.length - 1) * 1) v = us.take (S.length - 1) ++ [v] := fun v => by rw [Nat.mul_one, ← hul]; exact set_last (by omega) v
      refine vc_region ?_
      refine vl_det (det_move rfl) rfl ?_
      refine vl_det (det_move rfl) rfl ?_
      refine vl_det (det_len_sl Try.underlying65 rfl) rfl ?_
      refine vl_det (det_sub rfl rfl (w_i64 (by omega) (by omega))) rfl ?_
      refine vl_det (det_move rfl) rfl ?_
      refine vl_det (det_move rfl) rfl ?_
      refine vl_det (det_len_sl Try.underlying65 rfl) rfl ?_
      refine vl_det (det_sub rfl rfl (w_i64 (by omega) (by omega))) rfl ?_
      refine vl_det (det_indexAddr (i := S.length - 1) (size := 1) Try.underlying65 (by kernel_rfl) rfl rfl (by omega) (by omega) (by first | (exact Bor.own (by repeat (first | exact List.Mem.head _ | apply List.Mem.tail))) | (repeat (first | assumption | apply Bor.cons)))) rfl ?_
      refine vl_det (det_load_row (by kernel_rfl) rfl (by first | (exact Bor.own (by repeat (first | exact List.Mem.head _ | apply List.Mem.tail))) | (repeat (first | assumption | apply Bor.cons))) (by omega) hu1) rfl ?_
      refine vl_det (det_build [(0, _)] [_] rfl rfl (by kernel_rfl)) rfl ?_
      refine vl_det (det_makeIface (by kernel_rfl) rfl) rfl ?_
      refine vl_det (det_indexAddr (i := S.length - 1) (size := 1) Try.underlying65 (by kernel_rfl) rfl rfl (by omega) (by omega) (by first | (exact Bor.own (by repeat (first | exact List.Mem.head _ | apply List.Mem.tail))) | (repeat (first | assumption | apply Bor.cons)))) rfl ?_
      refine vl_eff0 (eff_store_row (by kernel_rfl) rfl rfl rfl (by repeat (first | exact .hd | apply Sel.tl)) (by first | omega | (simp; done) | (simp; omega))) ?_
      rintro _ _ rfl
      refine vl_end [(3, _), (8, _), (9, _), (10, _)] ⟨rfl, rfl, rfl, rfl, trivial⟩ ?_
      refine in_normal ?_
      refine in_normal ?_
      refine then_next ?_
      refine vc_region ?_
      refine vl_det (det_add rfl rfl (w_i64 (by omega) (by omega))) rfl ?_
      refine vl_det (det_move rfl) rfl ?_
      refine vl_end [(3, _), (8, _), (9, _), (10, _)] ⟨rfl, rfl, rfl, rfl, trivial⟩ ?_
      have hel : S.length = (S.take (S.length - 1) ++ [Qt.not (S.getD (S.length - 1) .nil)]).length := by simp; omega
      refine in_loop_ ⟨_, by omega, k + 1, S.take (S.length - 1) ++ [.not (S.getD (S.length - 1) .nil)], us.take (S.length - 1) ++ [.iface 64 (.agg #[.iface uy uv])], M, A3, c3, ⟨by omega, hS2, hD, hP, NVs.append (S := S.take (S.length - 1)) (hN.take _) (NVs.sing hnm), by omega⟩, rfl, ⟨(by first | rfl | exact int_to (by omega) | exact sl_to (by omega)), (by first | rfl | exact int_to (by omega) | exact sl_to (by omega)), (by first | rfl | exact int_to (by omega) | exact sl_to (by omega)), (by first | rfl | exact int_to (by omega) | exact sl_to (by omega)), trivial⟩, .skip (wk_own hel (hset _) (.refl _))⟩
    · skip
      have hT : takesS (op, nn, wd, fr, to) = if op = 6 ∨ op = 7 then nn else 0 := by unfold takesS; simp [h22]
      rw [hT] at htk
      refine vc_seq ?_
      refine vc_seq ?_
      refine vc_region ?_
      refine vl_det (det_eql rfl rfl) rfl ?_
      refine vl_det (det_assign rfl) rfl ?_
      refine vl_end [(3, _), (5, _), (8, _), (9, _), (10, _), (15, _), (37, _)] ⟨rfl, rfl, rfl, rfl, rfl, rfl, rfl, trivial⟩ ?_
      refine then_next ?_
      refine vc_decideU rfl (fun h37 => ?_) (fun h37 => ?_)
      · skip
        have h67 : op = 6 ∨ op = 7 := by omega
        have hE : stepT S (op, nn, wd, fr, to) = S.take (S.length - nn.toNat) ++ [.group op (ofL (S.drop (S.length - nn.toNat)))] := by unfold stepT; simp [h22, h67]
        rw [if_pos h67] at htk
        have hn2 := ((right_g h67).1 hrs).2
        obtain ⟨i, hi⟩ : ∃ i, i = S.length - nn.toNat := ⟨_, rfl⟩
        rw [← hi] at hE
        rw [hE] at hS2 hD hP
        have hii : (S.length : Int) - nn = i := by omega
        have hil : i ≤ S.length := by omega
        have hdl : (S.drop i).length = S.length - i := List.length_drop
        have hbd : ∀ {L : List Ch}, .own 58 1 A3 S.length c3 us ∈ L → Bor B w0 L 1 (.slice (if c3 = i then A3 else A3.map (·.add (i * 1))) (S.length - i) (c3 - i)) (S.length - i) (us.drop i) := fun h => by
          have := (Bor.own h).cut (B := B) (w0 := w0) hil; rwa [show us.drop (i * 1) = us.drop i by rw [Nat.mul_one]] at this
        have hgm : ∀ A50 c50, NV B w0 (.own 58 1 A50 (S.length - i) c50 (us.drop i) :: M) (.group op (ofL (S.drop i))) [.iface 67 (.agg #[.int .i64 op, .slice A50 (S.length - i) c50])] := fun A50 c50 => by
          have := nv_group_mk (op := op) (l := S.drop i) (L := .own 58 1 A50 (S.length - i) c50 (us.drop i) :: M) (A := A50) (c := c50) (vs := us.drop i) (by rw [hdl]; exact Bor.own (.head _)) (hN.drop i).cons_
          rwa [hdl] at this
        refine vc_skip ?_
        refine then_next ?_
        refine vc_cond_t rfl ?_
        refine vc_seq ?_
        refine vc_bor (Bor.own (B := B) (w0 := w0) (L := .blk g5 38 [.int .i64 op, .int .i64 nn, .string ⟨wd.toArray⟩, .int .u64 (fr : Int), .int .u64 (to : Int)] :: .own 58 1 A3 S.length c3 us :: (M ++ F)) (.tail _ (.head _))) fun hcap _ => ?_
        refine vc_region ?_
        refine vl_det (det_move rfl) rfl ?_
        refine vl_det (det_len_sl Try.underlying65 rfl) rfl ?_
        refine vl_det (det_fieldAddr_ Try.underlying38 rfl (by kernel_rfl) rfl rfl) rfl ?_
        refine vl_det (det_load_blk (by kernel_rfl) rfl (by repeat (first | exact .hd | apply Sel.tl)) rfl) rfl ?_
        refine vl_det (det_sub rfl rfl (r := (i : Int)) ((w_i64 (by omega) (by omega)).trans hii)) rfl ?_
        refine vl_det (det_assign rfl) rfl ?_
        refine vl_end [(3, _), (5, _), (6, _), (8, _), (9, _), (10, _)] ⟨rfl, rfl, rfl, rfl, rfl, rfl, trivial⟩ ?_
        refine then_next ?_
        refine vc_seqJ (fun zf zL => ∃ (A50 : Option Addr) (c50 g7 : Nat), Sub zf [(3, .slice A3 S.length c3), (6, .int .i64 i), (7, .pointer (some ⟨g7, 0, none⟩)), (8, .slice A q.length c), (9, .int .i64 q.length), (10, .int .i64 k)] ∧ Wk zL (.own 58 1 A3 S.length c3 us :: .own 58 1 A50 (S.length - i) c50 (us.drop i) :: .blk g7 67 [.int .i64 op, .slice A50 (S.length - i) c50] :: (M ++ F))) ?_ ?_
        · skip
          refine vh_region (S := .blk g5 38 [.int .i64 op, .int .i64 nn, .string ⟨wd.toArray⟩, .int .u64 (fr : Int), .int .u64 (to : Int)] :: .own 58 1 A3 S.length c3 us :: (M ++ F)) (by kernel_rfl) (by repeat (first | exact List.Sublist.refl _ | exact List.nil_sublist _ | exact List.sublist_append_right _ _ | apply List.Sublist.cons_cons | apply List.Sublist.cons)) ?_
          refine vh_take 0 rfl (by kernel_rfl) (by kernel_rfl) (by kernel_rfl) (det_fieldAddr_ Try.underlying38 rfl (by kernel_rfl) rfl rfl) rfl ?_
          refine vh_take 1 rfl (by kernel_rfl) (by kernel_rfl) (by kernel_rfl) (det_load_blk (by kernel_rfl) rfl (by repeat (first | exact .hd | apply Sel.tl)) rfl) rfl ?_
          refine vh_take 2 rfl (by kernel_rfl) (by kernel_rfl) (by kernel_rfl) (det_move rfl) rfl ?_
          refine vh_take 3 rfl (by kernel_rfl) (by kernel_rfl) (by kernel_rfl) (det_move rfl) rfl ?_
          refine vh_take 4 rfl (by kernel_rfl) (by kernel_rfl) (by kernel_rfl) (det_slice_lo (i := i) (size := 1) Try.underlying65 (by kernel_rfl) rfl rfl rfl hil) rfl ?_
          refine vh_two 5 7 (by kernel_rfl) ?_ ?_
          · skip
            refine st_call rfl .no co47 rfl (nclone_d (hbd (by repeat (first | exact List.Mem.head _ | apply List.Mem.tail))) (fun u hu => hN.one u (List.mem_of_mem_drop hu)) (by omega)) rfl (by rintro _ _ ⟨A50, c50, rfl, rfl⟩; exact (by repeat (first | exact List.Sublist.refl _ | exact List.nil_sublist _ | exact List.sublist_append_right _ _ | apply List.Sublist.cons_cons | apply List.Sublist.cons))) ?_
            rintro _ _ ⟨A50, c50, rfl, hLL⟩
            obtain rfl := hLL.symm
            refine vh_take 6 rfl (by kernel_rfl) (by kernel_rfl) (by kernel_rfl) (det_build [(0, _), (1, _)] [_, _] rfl rfl (by kernel_rfl)) rfl ?_
            refine vh_one 7 (by kernel_rfl) ?_
            refine st_eff rfl .no (eff_alloc_z (zv := (.agg #[.int .i64 0, .slice none 0 0])) (by kernel_rfl) rfl) rfl (by rintro _ _ ⟨g7, rfl, rfl⟩; exact (by repeat (first | exact List.Sublist.refl _ | exact List.nil_sublist _ | exact List.sublist_append_right _ _ | apply List.Sublist.cons_cons | apply List.Sublist.cons))) ?_
            rintro _ _ ⟨g7, rfl, rfl⟩
            refine vh_one 8 (by kernel_rfl) ?_
            refine st_eff0 rfl .no (eff_store_whole 2 (by kernel_rfl) rfl rfl (by first | exact bv_one _ | exact strs_one _ | exact ints_one _ _ | (simp; done) | (simp [Value.oneCell']; done) | assumption) (by repeat (first | exact .hd | apply Sel.tl)) (by first | rfl | (simp; omega) | (simp [*]; done)) (by first | rfl | (simp; omega) | (simp [*]; done))) (by rintro _ _ rfl; exact (by repeat (first | exact List.Sublist.refl _ | exact List.nil_sublist _ | exact List.sublist_append_right _ _ | apply List.Sublist.cons_cons | apply List.Sublist.cons))) ?_
            rintro _ _ rfl
            refine vh_done [(3, _), (6, _), (7, _), (8, _), (9, _), (10, _)] ⟨rfl, rfl, rfl, rfl, rfl, rfl, trivial⟩ (by kernel_rfl) ?_
            exact in_join ⟨A50, c50, g7, ⟨(by first | rfl | exact int_to (by omega) | exact sl_to (by omega)), (by first | rfl | exact int_to (by omega) | exact sl_to (by omega)), (by first | rfl | exact int_to (by omega) | exact sl_to (by omega)), (by first | rfl | exact int_to (by omega) | exact sl_to (by omega)), (by first | rfl | exact int_to (by omega) | exact sl_to (by omega)), (by first | rfl | exact int_to (by omega) | exact sl_to (by omega)), trivial⟩, (wu3 (wu1 (wu0 (.skip (.refl _)))))⟩
          · skip
            refine st_eff rfl .no (eff_alloc_z (zv := (.agg #[.int .i64 0, .slice none 0 0])) (by kernel_rfl) rfl) rfl (by rintro _ _ ⟨g7, rfl, rfl⟩; exact (by repeat (first | exact List.Sublist.refl _ | exact List.nil_sublist _ | exact List.sublist_append_right _ _ | apply List.Sublist.cons_cons | apply List.Sublist.cons))) ?_
            rintro _ _ ⟨g7, rfl, rfl⟩
            refine vh_one 5 (by kernel_rfl) ?_
            refine st_call rfl .no co47 rfl (nclone_d (hbd (by repeat (first | exact List.Mem.head _ | apply List.Mem.tail))) (fun u hu => hN.one u (List.mem_of_mem_drop hu)) (by omega)) rfl (by rintro _ _ ⟨A50, c50, rfl, rfl⟩; exact (by repeat (first | exact List.Sublist.refl _ | exact List.nil_sublist _ | exact List.sublist_append_right _ _ | apply List.Sublist.cons_cons | apply List.Sublist.cons))) ?_
            rintro _ _ ⟨A50, c50, rfl, hLL⟩
            obtain rfl := hLL.symm
            refine vh_take 6 rfl (by kernel_rfl) (by kernel_rfl) (by kernel_rfl) (det_build [(0, _), (1, _)] [_, _] rfl rfl (by kernel_rfl)) rfl ?_
            refine vh_one 8 (by kernel_rfl) ?_
            refine st_eff0 rfl .no (eff_store_whole 2 (by kernel_rfl) rfl rfl (by first | exact bv_one _ | exact strs_one _ | exact ints_one _ _ | (simp; done) | (simp [Value.oneCell']; done) | assumption) (by repeat (first | exact .hd | apply Sel.tl)) (by first | rfl | (simp; omega) | (simp [*]; done)) (by first | rfl | (simp; omega) | (simp [*]; done))) (by rintro _ _ rfl; exact (by repeat (first | exact List.Sublist.refl _ | exact List.nil_sublist _ | exact List.sublist_append_right _ _ | apply List.Sublist.cons_cons | apply List.Sublist.cons))) ?_
            rintro _ _ rfl
            refine vh_done [(3, _), (6, _), (7, _), (8, _), (9, _), (10, _)] ⟨rfl, rfl, rfl, rfl, rfl, rfl, trivial⟩ (by kernel_rfl) ?_
            exact in_join ⟨A50, c50, g7, ⟨(by first | rfl | exact int_to (by omega) | exact sl_to (by omega)), (by first | rfl | exact int_to (by omega) | exact sl_to (by omega)), (by first | rfl | exact int_to (by omega) | exact sl_to (by omega)), (by first | rfl | exact int_to (by omega) | exact sl_to (by omega)), (by first | rfl | exact int_to (by omega) | exact sl_to (by omega)), (by first | rfl | exact int_to (by omega) | exact sl_to (by omega)), trivial⟩, (wu3 (wu0 (wu0 (.skip (.refl _)))))⟩
        · rintro _ _ ⟨A50, c50, g7, hs, hp⟩
          refine vc_weaken _ hs (vc_wk hp ?_)
          clear hs hp
          refine vc_cut_row i (by repeat (first | exact .hd | apply Sel.tl)) hil ?_
          rw [Nat.mul_one]
          refine vh_region (S := .own 58 1 A50 (S.length - i) c50 (us.drop i) :: .blk g7 67 [.int .i64 op, .slice A50 (S.length - i) c50] :: (M ++ F)) (by kernel_rfl) (by repeat (first | exact List.Sublist.refl _ | exact List.nil_sublist _ | exact List.sublist_append_right _ _ | apply List.Sublist.cons_cons | apply List.Sublist.cons)) ?_
          refine vh_take 0 rfl (by kernel_rfl) (by kernel_rfl) (by kernel_rfl) (det_move rfl) rfl ?_
          refine vh_take 1 rfl (by kernel_rfl) (by kernel_rfl) (by kernel_rfl) (det_move rfl) rfl ?_
          refine vh_take 2 rfl (by kernel_rfl) (by kernel_rfl) (by kernel_rfl) (det_slice_hi (i := i) (size := 1) Try.underlying65 (by kernel_rfl) rfl rfl rfl (by omega)) rfl ?_
          refine vh_take 3 rfl (by kernel_rfl) (by kernel_rfl) (by kernel_rfl) (det_load_whole 2 (by kernel_rfl) rfl (by repeat (first | exact .hd | apply Sel.tl)) (by first | rfl | (simp; omega) | (simp [*]; done))) rfl ?_
          refine vh_take 4 rfl (by kernel_rfl) (by kernel_rfl) (by kernel_rfl) (det_makeIface (by kernel_rfl) rfl) rfl ?_
          refine vh_one 5 (by kernel_rfl) ?_
          refine st_eff rfl .no (eff_build_lit slT65 [_] rfl rfl (by first | exact bv_one _ | exact strs_one _ | exact ints_one _ _ | (simp; done) | (simp [Value.oneCell']; done) | assumption) (by omega) (by omega)) rfl (by rintro _ _ ⟨A57, rfl, rfl⟩; exact (by repeat (first | exact List.Sublist.refl _ | exact List.nil_sublist _ | exact List.sublist_append_right _ _ | apply List.Sublist.cons_cons | apply List.Sublist.cons))) ?_
          rintro _ _ ⟨A57, rfl, rfl⟩
          refine vh_one 6 (by kernel_rfl) ?_
          refine st_eff rfl .no (eff_app slT65 rfl (by repeat (first | exact .hd | apply Sel.tl)) rfl (by first | (exact Bor.own (by repeat (first | exact List.Mem.head _ | apply List.Mem.tail))) | (repeat (first | assumption | apply Bor.cons))) (by first | exact bv_one _ | exact strs_one _ | exact ints_one _ _ | (simp; done) | (simp [Value.oneCell']; done) | assumption) (by omega) (by omega)) rfl (by rintro _ _ ⟨A58, c58, rfl, rfl⟩; exact (by repeat (first | exact List.Sublist.refl _ | exact List.nil_sublist _ | exact List.sublist_append_right _ _ | apply List.Sublist.cons_cons | apply List.Sublist.cons))) ?_
          rintro _ _ ⟨A58, c58, rfl, rfl⟩
          refine vh_take 7 rfl (by kernel_rfl) (by kernel_rfl) (by kernel_rfl) (det_assign rfl) rfl ?_
          refine vh_done [(3, _), (8, _), (9, _), (10, _)] ⟨rfl, rfl, rfl, rfl, trivial⟩ (by kernel_rfl) ?_
          refine in_normal ?_
          refine in_normal ?_
          refine then_next ?_
          refine vc_region ?_
          refine vl_det (det_add rfl rfl (w_i64 (by omega) (by omega))) rfl ?_
          refine vl_det (det_move rfl) rfl ?_
          refine vl_end [(3, _), (8, _), (9, _), (10, _)] ⟨rfl, rfl, rfl, rfl, trivial⟩ ?_
          have hel : i + 1 = (S.take i ++ [Qt.group op (ofL (S.drop i))]).length := by simp; omega
          refine in_loop_ ⟨_, by omega, k + 1, S.take i ++ [.group op (ofL (S.drop i))], us.take i ++ [.iface 67 (.agg #[.int .i64 op, .slice A50 (S.length - i) c50])], .own 58 1 A50 (S.length - i) c50 (us.drop i) :: M, A58, c58, ⟨by omega, hS2, hD, hP, NVs.append (S := S.take i) ((hN.take i).cons_) (NVs.sing (hgm A50 c50)), by omega⟩, rfl, ⟨(by first | rfl | exact int_to (by omega) | exact sl_to (by omega)), (by first | rfl | exact int_to (by omega) | exact sl_to (by omega)), (by first | rfl | exact int_to (by omega) | exact sl_to (by omega)), (by first | rfl | exact int_to (by omega) | exact sl_to (by omega)), trivial⟩, .skip (wk_own hel rfl (.cons (.skip (.refl _))))⟩
      · skip
        refine vc_region ?_
        refine vl_det (det_eql rfl rfl) rfl ?_
        refine vl_det (det_assign rfl) rfl ?_
        refine vl_end [(3, _), (5, _), (8, _), (9, _), (10, _), (37, _)] ⟨rfl, rfl, rfl, rfl, rfl, rfl, trivial⟩ ?_
        refine then_next ?_
        refine vc_decideU rfl (fun h37 => ?_) (fun h37 => ?_)
        · skip
          have h67 : op = 6 ∨ op = 7 := by omega
          have hE : stepT S (op, nn, wd, fr, to) = S.take (S.length - nn.toNat) ++ [.group op (ofL (S.drop (S.length - nn.toNat)))] := by unfold stepT; simp [h22, h67]
          rw [if_pos h67] at htk
          have hn2 := ((right_g h67).1 hrs).2
          obtain ⟨i, hi⟩ : ∃ i, i = S.length - nn.toNat := ⟨_, rfl⟩
          rw [← hi] at hE
          rw [hE] at hS2 hD hP
          have hii : (S.length : Int) - nn = i := by omega
          have hil : i ≤ S.length := by omega
          have hdl : (S.drop i).length = S.length - i := List.length_drop
          have hbd : ∀ {L : List Ch}, .own 58 1 A3 S.length c3 us ∈ L → Bor B w0 L 1 (.slice (if c3 = i then A3 else A3.map (·.add (i * 1))) (S.length - i) (c3 - i)) (S.length - i) (us.drop i) := fun h => by
            have := (Bor.own h).cut (B := B) (w0 := w0) hil; rwa [show us.drop (i * 1) = us.drop i by rw [Nat.mul_one]] at this
          have hgm : ∀ A50 c50, NV B w0 (.own 58 1 A50 (S.length - i) c50 (us.drop i) :: M) (.group op (ofL (S.drop i))) [.iface 67 (.agg #[.int .i64 op, .slice A50 (S.length - i) c50])] := fun A50 c50 => by
            have := nv_group_mk (op := op) (l := S.drop i) (L := .own 58 1 A50 (S.length - i) c50 (us.drop i) :: M) (A := A50) (c := c50) (vs := us.drop i) (by rw [hdl]; exact Bor.own (.head _)) (hN.drop i).cons_
            rwa [hdl] at this
          refine vc_seq ?_
          refine vc_bor (Bor.own (B := B) (w0 := w0) (L := .blk g5 38 [.int .i64 op, .int .i64 nn, .string ⟨wd.toArray⟩, .int .u64 (fr : Int), .int .u64 (to : Int)] :: .own 58 1 A3 S.length c3 us :: (M ++ F)) (.tail _ (.head _))) fun hcap _ => ?_
          refine vc_region ?_
          refine vl_det (det_move rfl) rfl ?_
          refine vl_det (det_len_sl Try.underlying65 rfl) rfl ?_
          refine vl_det (det_fieldAddr_ Try.underlying38 rfl (by kernel_rfl) rfl rfl) rfl ?_
          refine vl_det (det_load_blk (by kernel_rfl) rfl (by repeat (first | exact .hd | apply Sel.tl)) rfl) rfl ?_
          refine vl_det (det_sub rfl rfl (r := (i : Int)) ((w_i64 (by omega) (by omega)).trans hii)) rfl ?_
          refine vl_det (det_assign rfl) rfl ?_
          refine vl_end [(3, _), (5, _), (6, _), (8, _), (9, _), (10, _)] ⟨rfl, rfl, rfl, rfl, rfl, rfl, trivial⟩ ?_
          refine then_next ?_
          refine vc_seqJ (fun zf zL => ∃ (A50 : Option Addr) (c50 g7 : Nat), Sub zf [(3, .slice A3 S.length c3), (6, .int .i64 i), (7, .pointer (some ⟨g7, 0, none⟩)), (8, .slice A q.length c), (9, .int .i64 q.length), (10, .int .i64 k)] ∧ Wk zL (.own 58 1 A3 S.length c3 us :: .own 58 1 A50 (S.length - i) c50 (us.drop i) :: .blk g7 67 [.int .i64 op, .slice A50 (S.length - i) c50] :: (M ++ F))) ?_ ?_
          · skip
            refine vh_region (S := .blk g5 38 [.int .i64 op, .int .i64 nn, .string ⟨wd.toArray⟩, .int .u64 (fr : Int), .int .u64 (to : Int)] :: .own 58 1 A3 S.length c3 us :: (M ++ F)) (by kernel_rfl) (by repeat (first | exact List.Sublist.refl _ | exact List.nil_sublist _ | exact List.sublist_append_right _ _ | apply List.Sublist.cons_cons | apply List.Sublist.cons)) ?_
            refine vh_take 0 rfl (by kernel_rfl) (by kernel_rfl) (by kernel_rfl) (det_fieldAddr_ Try.underlying38 rfl (by kernel_rfl) rfl rfl) rfl ?_
            refine vh_take 1 rfl (by kernel_rfl) (by kernel_rfl) (by kernel_rfl) (det_load_blk (by kernel_rfl) rfl (by repeat (first | exact .hd | apply Sel.tl)) rfl) rfl ?_
            refine vh_take 2 rfl (by kernel_rfl) (by kernel_rfl) (by kernel_rfl) (det_move rfl) rfl ?_
            refine vh_take 3 rfl (by kernel_rfl) (by kernel_rfl) (by kernel_rfl) (det_move rfl) rfl ?_
            refine vh_take 4 rfl (by kernel_rfl) (by kernel_rfl) (by kernel_rfl) (det_slice_lo (i := i) (size := 1) Try.underlying65 (by kernel_rfl) rfl rfl rfl hil) rfl ?_
            refine vh_two 5 7 (by kernel_rfl) ?_ ?_
            · skip
              refine st_call rfl .no co47 rfl (nclone_d (hbd (by repeat (first | exact List.Mem.head _ | apply List.Mem.tail))) (fun u hu => hN.one u (List.mem_of_mem_drop hu)) (by omega)) rfl (by rintro _ _ ⟨A50, c50, rfl, rfl⟩; exact (by repeat (first | exact List.Sublist.refl _ | exact List.nil_sublist _ | exact List.sublist_append_right _ _ | apply List.Sublist.cons_cons | apply List.Sublist.cons))) ?_
              rintro _ _ ⟨A50, c50, rfl, hLL⟩
              obtain rfl := hLL.symm
              refine vh_take 6 rfl (by kernel_rfl) (by kernel_rfl) (by kernel_rfl) (det_build [(0, _), (1, _)] [_, _] rfl rfl (by kernel_rfl)) rfl ?_
              refine vh_one 7 (by kernel_rfl) ?_
              refine st_eff rfl .no (eff_alloc_z (zv := (.agg #[.int .i64 0, .slice none 0 0])) (by kernel_rfl) rfl) rfl (by rintro _ _ ⟨g7, rfl, rfl⟩; exact (by repeat (first | exact List.Sublist.refl _ | exact List.nil_sublist _ | exact List.sublist_append_right _ _ | apply List.Sublist.cons_cons | apply List.Sublist.cons))) ?_
              rintro _ _ ⟨g7, rfl, rfl⟩
              refine vh_one 8 (by kernel_rfl) ?_
              refine st_eff0 rfl .no (eff_store_whole 2 (by kernel_rfl) rfl rfl (by first | exact bv_one _ | exact strs_one _ | exact ints_one _ _ | (simp; done) | (simp [Value.oneCell']; done) | assumption) (by repeat (first | exact .hd | apply Sel.tl)) (by first | rfl | (simp; omega) | (simp [*]; done)) (by first | rfl | (simp; omega) | (simp [*]; done))) (by rintro _ _ rfl; exact (by repeat (first | exact List.Sublist.refl _ | exact List.nil_sublist _ | exact List.sublist_append_right _ _ | apply List.Sublist.cons_cons | apply List.Sublist.cons))) ?_
              rintro _ _ rfl
              refine vh_done [(3, _), (6, _), (7, _), (8, _), (9, _), (10, _)] ⟨rfl, rfl, rfl, rfl, rfl, rfl, trivial⟩ (by kernel_rfl) ?_
              exact in_join ⟨A50, c50, g7, ⟨(by first | rfl | exact int_to (by omega) | exact sl_to (by omega)), (by first | rfl | exact int_to (by omega) | exact sl_to (by omega)), (by first | rfl | exact int_to (by omega) | exact sl_to (by omega)), (by first | rfl | exact int_to (by omega) | exact sl_to (by omega)), (by first | rfl | exact int_to (by omega) | exact sl_to (by omega)), (by first | rfl | exact int_to (by omega) | exact sl_to (by omega)), trivial⟩, (wu3 (wu1 (wu0 (.skip (.refl _)))))⟩
            · skip
              refine st_eff rfl .no (eff_alloc_z (zv := (.agg #[.int .i64 0, .slice none 0 0])) (by kernel_rfl) rfl) rfl (by rintro _ _ ⟨g7, rfl, rfl⟩; exact (by repeat (first | exact List.Sublist.refl _ | exact List.nil_sublist _ | exact List.sublist_append_right _ _ | apply List.Sublist.cons_cons | apply List.Sublist.cons))) ?_
              rintro _ _ ⟨g7, rfl, rfl⟩
              refine vh_one 5 (by kernel_rfl) ?_
              refine st_call rfl .no co47 rfl (nclone_d (hbd (by repeat (first | exact List.Mem.head _ | apply List.Mem.tail))) (fun u hu => hN.one u (List.mem_of_mem_drop hu)) (by omega)) rfl (by rintro _ _ ⟨A50, c50, rfl, rfl⟩; exact (by repeat (first | exact List.Sublist.refl _ | exact List.nil_sublist _ | exact List.sublist_append_right _ _ | apply List.Sublist.cons_cons | apply List.Sublist.cons))) ?_
              rintro _ _ ⟨A50, c50, rfl, hLL⟩
              obtain rfl := hLL.symm
              refine vh_take 6 rfl (by kernel_rfl) (by kernel_rfl) (by kernel_rfl) (det_build [(0, _), (1, _)] [_, _] rfl rfl (by kernel_rfl)) rfl ?_
              refine vh_one 8 (by kernel_rfl) ?_
              refine st_eff0 rfl .no (eff_store_whole 2 (by kernel_rfl) rfl rfl (by first | exact bv_one _ | exact strs_one _ | exact ints_one _ _ | (simp; done) | (simp [Value.oneCell']; done) | assumption) (by repeat (first | exact .hd | apply Sel.tl)) (by first | rfl | (simp; omega) | (simp [*]; done)) (by first | rfl | (simp; omega) | (simp [*]; done))) (by rintro _ _ rfl; exact (by repeat (first | exact List.Sublist.refl _ | exact List.nil_sublist _ | exact List.sublist_append_right _ _ | apply List.Sublist.cons_cons | apply List.Sublist.cons))) ?_
              rintro _ _ rfl
              refine vh_done [(3, _), (6, _), (7, _), (8, _), (9, _), (10, _)] ⟨rfl, rfl, rfl, rfl, rfl, rfl, trivial⟩ (by kernel_rfl) ?_
              exact in_join ⟨A50, c50, g7, ⟨(by first | rfl | exact int_to (by omega) | exact sl_to (by omega)), (by first | rfl | exact int_to (by omega) | exact sl_to (by omega)), (by first | rfl | exact int_to (by omega) | exact sl_to (by omega)), (by first | rfl | exact int_to (by omega) | exact sl_to (by omega)), (by first | rfl | exact int_to (by omega) | exact sl_to (by omega)), (by first | rfl | exact int_to (by omega) | exact sl_to (by omega)), trivial⟩, (wu3 (wu0 (wu0 (.skip (.refl _)))))⟩
          · rintro _ _ ⟨A50, c50, g7, hs, hp⟩
            refine vc_weaken _ hs (vc_wk hp ?_)
            clear hs hp
            refine vc_cut_row i (by repeat (first | exact .hd | apply Sel.tl)) hil ?_
            rw [Nat.mul_one]
            refine vh_region (S := .own 58 1 A50 (S.length - i) c50 (us.drop i) :: .blk g7 67 [.int .i64 op, .slice A50 (S.length - i) c50] :: (M ++ F)) (by kernel_rfl) (by repeat (first | exact List.Sublist.refl _ | exact List.nil_sublist _ | exact List.sublist_append_right _ _ | apply List.Sublist.cons_cons | apply List.Sublist.cons)) ?_
            refine vh_take 0 rfl (by kernel_rfl) (by kernel_rfl) (by kernel_rfl) (det_move rfl) rfl ?_
            refine vh_take 1 rfl (by kernel_rfl) (by kernel_rfl) (by kernel_rfl) (det_move rfl) rfl ?_
            refine vh_take 2 rfl (by kernel_rfl) (by kernel_rfl) (by kernel_rfl) (det_slice_hi (i := i) (size := 1) Try.underlying65 (by kernel_rfl) rfl rfl rfl (by omega)) rfl ?_
            refine vh_take 3 rfl (by kernel_rfl) (by kernel_rfl) (by kernel_rfl) (det_load_whole 2 (by kernel_rfl) rfl (by repeat (first | exact .hd | apply Sel.tl)) (by first | rfl | (simp; omega) | (simp [*]; done))) rfl ?_
            refine vh_take 4 rfl (by kernel_rfl) (by kernel_rfl) (by kernel_rfl) (det_makeIface (by kernel_rfl) rfl) rfl ?_
            refine vh_one 5 (by kernel_rfl) ?_
            refine st_eff rfl .no (eff_build_lit slT65 [_] rfl rfl (by first | exact bv_one _ | exact strs_one _ | exact ints_one _ _ | (simp; done) | (simp [Value.oneCell']; done) | assumption) (by omega) (by omega)) rfl (by rintro _ _ ⟨A57, rfl, rfl⟩; exact (by repeat (first | exact List.Sublist.refl _ | exact List.nil_sublist _ | exact List.sublist_append_right _ _ | apply List.Sublist.cons_cons | apply List.Sublist.cons))) ?_
            rintro _ _ ⟨A57, rfl, rfl⟩
            refine vh_one 6 (by kernel_rfl) ?_
            refine st_eff rfl .no (eff_app slT65 rfl (by repeat (first | exact .hd | apply Sel.tl)) rfl (by first | (exact Bor.own (by repeat (first | exact List.Mem.head _ | apply List.Mem.tail))) | (repeat (first | assumption | apply Bor.cons))) (by first | exact bv_one _ | exact strs_one _ | exact ints_one _ _ | (simp; done) | (simp [Value.oneCell']; done) | assumption) (by omega) (by omega)) rfl (by rintro _ _ ⟨A58, c58, rfl, rfl⟩; exact (by repeat (first | exact List.Sublist.refl _ | exact List.nil_sublist _ | exact List.sublist_append_right _ _ | apply List.Sublist.cons_cons | apply List.Sublist.cons))) ?_
            rintro _ _ ⟨A58, c58, rfl, rfl⟩
            refine vh_take 7 rfl (by kernel_rfl) (by kernel_rfl) (by kernel_rfl) (det_assign rfl) rfl ?_
            refine vh_done [(3, _), (8, _), (9, _), (10, _)] ⟨rfl, rfl, rfl, rfl, trivial⟩ (by kernel_rfl) ?_
            refine in_normal ?_
            refine in_normal ?_
            refine then_next ?_
            refine vc_region ?_
            refine vl_det (det_add rfl rfl (w_i64 (by omega) (by omega))) rfl ?_
            refine vl_det (det_move rfl) rfl ?_
            refine vl_end [(3, _), (8, _), (9, _), (10, _)] ⟨rfl, rfl, rfl, rfl, trivial⟩ ?_
            have hel : i + 1 = (S.take i ++ [Qt.group op (ofL (S.drop i))]).length := by simp; omega
            refine in_loop_ ⟨_, by omega, k + 1, S.take i ++ [.group op (ofL (S.drop i))], us.take i ++ [.iface 67 (.agg #[.int .i64 op, .slice A50 (S.length - i) c50])], .own 58 1 A50 (S.length - i) c50 (us.drop i) :: M, A58, c58, ⟨by omega, hS2, hD, hP, NVs.append (S := S.take i) ((hN.take i).cons_) (NVs.sing (hgm A50 c50)), by omega⟩, rfl, ⟨(by first | rfl | exact int_to (by omega) | exact sl_to (by omega)), (by first | rfl | exact int_to (by omega) | exact sl_to (by omega)), (by first | rfl | exact int_to (by omega) | exact sl_to (by omega)), (by first | rfl | exact int_to (by omega) | exact sl_to (by omega)), trivial⟩, .skip (wk_own hel rfl (.cons (.skip (.refl _))))⟩
        · skip
          have h67 : ¬ (op = 6 ∨ op = 7) := by omega
          have hE : stepT S (op, nn, wd, fr, to) = S ++ [.leaf (op, nn, wd, fr, to)] := by unfold stepT; simp [h22, h67]
          rw [hE] at hS2 hD hP
          refine vc_region ?_
          refine vl_det (det_move rfl) rfl ?_
          refine vl_det (det_load_whole 5 (by kernel_rfl) rfl (by repeat (first | exact .hd | apply Sel.tl)) (by first | rfl | (simp; omega) | (simp [*]; done))) rfl ?_
          refine vl_det (det_build [(0, _)] [_, _, _, _, _] rfl rfl (by kernel_rfl)) rfl ?_
          refine vl_det (det_makeIface (by kernel_rfl) rfl) rfl ?_
          refine vl_push slT65 rfl rfl rfl rfl rfl (fun _ => rfl) (by repeat (first | exact .hd | apply Sel.tl)) (by omega) (by omega) ?_
          intro _ A21 c21
          refine vl_det (det_assign rfl) rfl ?_
          refine vl_end [(3, _), (8, _), (9, _), (10, _)] ⟨rfl, rfl, rfl, rfl, trivial⟩ ?_
          refine in_normal ?_
          refine in_normal ?_
          refine then_next ?_
          refine vc_region ?_
          refine vl_det (det_add rfl rfl (w_i64 (by omega) (by omega))) rfl ?_
          refine vl_det (det_move rfl) rfl ?_
          refine vl_end [(3, _), (8, _), (9, _), (10, _)] ⟨rfl, rfl, rfl, rfl, trivial⟩ ?_
          have hel : S.length + 1 = (S ++ [Qt.leaf (op, nn, wd, fr, to)]).length := by simp
          refine in_loop_ ⟨_, by omega, k + 1, S ++ [.leaf (op, nn, wd, fr, to)], us ++ [.iface 88 (.agg (StepC.cells (op, nn, wd, fr, to)).toArray)], M, A21, c21, ⟨by omega, hS2, hD, hP, NVs.append (S := S) hN (NVs.sing (show NV B w0 M (.leaf (op, nn, wd, fr, to)) [_] from rfl)), by omega⟩, rfl, ⟨(by first | rfl | exact int_to (by omega) | exact sl_to (by omega)), (by first | rfl | exact int_to (by omega) | exact sl_to (by omega)), (by first | rfl | exact int_to (by omega) | exact sl_to (by omega)), (by first | rfl | exact int_to (by omega) | exact sl_to (by omega)), trivial⟩, .skip (wk_own hel rfl (.refl _))⟩
  · skip
    obtain rfl : k = q.length := by omega
    rw [List.drop_of_length_le (Nat.le_refl _)] at hP
    obtain rfl : S = [t] := hP
    obtain ⟨u, hu, hku⟩ := hN.get (k := 0) (by simp)
    refine vc_exit ?_
    refine then_exit ?_
    refine loop_exit ?_
    refine in_eq ?_
    refine then_next ?_
    refine vc_seq ?_
    refine vc_region ?_
    refine vl_det (det_move rfl) rfl ?_
    refine vl_det (det_indexAddr (i := 0) (size := 1) Try.underlying65 (by kernel_rfl) rfl rfl rfl (by simp) (by first | (exact Bor.own (by repeat (first | exact List.Mem.head _ | apply List.Mem.tail))) | (repeat (first | assumption | apply Bor.cons)))) rfl ?_
    refine vl_det (det_load_row (by kernel_rfl) rfl (by first | (exact Bor.own (by repeat (first | exact List.Mem.head _ | apply List.Mem.tail))) | (repeat (first | assumption | apply Bor.cons))) (by simp) (show us[0 * 1]? = some u from hu)) rfl ?_
    refine vl_det (det_assign rfl) rfl ?_
    refine vl_end [(2, _)] ⟨rfl, trivial⟩ ?_
    refine then_next ?_
    refine vc_ret ?_
    refine ret_wk (L' := M ++ F) (.skip (.refl _)) ?_
    refine ret1 rfl rfl ?_
    exact ⟨M, rfl, hku⟩
theorem tree_d {q : List StepC} {t : Qt} (hb : Bor B w0 F 5 (.slice A q.length c) q.length (stepsV q)) (hq : q.length ≤ 1000) (hd : depS [] q = some [t.dep]) (hp : parS [] q = [t]) :
    Does Try.prog B w0 30 [.slice A q.length c] F (fun r L => ∃ M, L = M ++ F ∧ NV B w0 (M ++ F) t [r]) :=
  (tree_x hb hq hd hp).mono fun r L ⟨M, h1, h2⟩ => ⟨M, h1, h2.mono (List.sublist_append_left M F)⟩
end Go.Proofs.Ytakokckokchacaa
namespace Go.Proofs.Ytakokckokchacaa
open Go.RowKit
set_option linter.unusedVariables false
set_option maxRecDepth 20000
variable {B : Nat} {w0 : World} {F L M : List Ch} {A A2 : Option Addr} {n c c2 g : Nat}
/-- an assertion, whatever its answer -/
theorem det_assert_to {C : Cx} {fr : Fr} {L : List Ch} {ty t xt u : TypeId} {x : Operand} {v zv p : Value} {b : Bool} (hc : isCon C.P t = true) (hz : (C.P.info? t).bind (·.zero) = some zv) (h : ev fr x = some (.iface u v)) (hp : (if u = t then v else zv) = p) (hb : decide (u = t) = b) :
    Det C fr L (.typeAssert x xt t true) ty (.tuple #[p, .bool b]) := by
  by_cases e : u = t
  · subst e
    rw [if_pos rfl] at hp
    rw [← hp, ← hb, decide_eq_true rfl]
    exact det_assert_ok hc h
  · rw [if_neg e] at hp
    rw [← hp, ← hb, decide_eq_false e]
    exact det_assert_no hc hz (by cases hq : Nat.beq u t with
      | false => rfl
      | true => exact absurd (Nat.eq_of_beq_eq_true hq) e) h
theorem nv_not {t : Qt} {r : Value} (h : NV B w0 L t [r]) (hn : t.isN) : ∃ uy uv w, r = .iface uy uv ∧ decide (uy = 64) = isNt t ∧ (if uy = 64 then uv else .agg #[.nilIface]) = .agg #[w] ∧ (isNt t = true → NV B w0 L (nkid t) [w]) := by
  cases t with
  | leaf s => exact ⟨_, _, .nilIface, by simpa using (show [r] = _ from h), rfl, rfl, fun h => by cases h⟩
  | not k => obtain ⟨x, hx, hk⟩ := h; exact ⟨_, _, x, by simpa using hx, rfl, rfl, fun _ => hk⟩
  | group op ks => obtain ⟨A, c, vs, hx, _⟩ := h; exact ⟨_, _, .nilIface, by simpa using hx, rfl, rfl, fun h => by cases h⟩
  | nil => exact hn.elim
  | cons k r => exact hn.elim
theorem nv_grp {t : Qt} {r : Value} (h : NV B w0 L t [r]) (hn : t.isN) (hw : t.wf) : ∃ uy uv A c vs, r = .iface uy uv ∧ decide (uy = 67) = isG t ∧ (if uy = 67 then uv else .agg #[.int .i64 0, .slice none 0 0]) = .agg #[.int .i64 (gop t), .slice A (gks t).length c] ∧
    Bor B w0 L 1 (.slice A (gks t).length c) (gks t).length vs ∧ NVs B w0 L (gks t) vs := by
  cases t with
  | leaf s => exact ⟨_, _, none, 0, [], by simpa using (show [r] = _ from h), rfl, rfl, Bor.nil_, rfl⟩
  | not k => obtain ⟨x, hx, hk⟩ := h; exact ⟨_, _, none, 0, [], by simpa using hx, rfl, rfl, Bor.nil_, rfl⟩
  | group op ks =>
    obtain ⟨A, c, vs, hx, hb, hv⟩ := h
    refine ⟨_, _, A, c, vs, by simpa using hx, rfl, ?_, ?_, ?_⟩
    · show Value.agg #[.int .i64 op, .slice A ks.len c] = .agg #[.int .i64 op, .slice A (toL ks).length c]
      rw [toL_len]
    · show Bor B w0 L 1 (.slice A (toL ks).length c) (toL ks).length vs
      rw [toL_len]; exact hb
    · show NV B w0 L (ofL (toL ks)) vs
      rw [ofL_toL hw.2.2.1 hw.2.2.2]; exact hv
  | nil => exact hn.elim
  | cons k r => exact hn.elim
theorem eqst_d {l l2 : List StepC} (h1 : Bor B w0 F 5 (.slice A l.length c) l.length (stepsV l)) (h2 : Bor B w0 F 5 (.slice A2 l2.length c2) l2.length (stepsV l2)) (hl : l.length ≤ 1000000000) :
    Does Try.prog B w0 112 [.slice A l.length c, .slice A2 l2.length c2] F (fun r L => r = .bool (decide (l = l2)) ∧ L = F) := by
  refine fn_walk Try.func112 26 rfl rfl rfl [(0, .slice A l.length c), (1, .slice A2 l2.length c2)] ⟨⟨rfl, rfl⟩, ⟨rfl, rfl⟩, trivial⟩ ?_
  refine vc_seq ?_
  refine vc_region ?_
  refine vl_det (det_assign rfl) rfl ?_
  refine vl_end [(0, _), (1, _)] ⟨rfl, rfl, trivial⟩ ?_
  refine then_next ?_
  refine vc_seq ?_
  refine vc_seq ?_
  refine vc_region ?_
  refine vl_det (det_move rfl) rfl ?_
  refine vl_det (det_len_sl Try.underlying22 rfl) rfl ?_
  refine vl_det (det_move rfl) rfl ?_
  refine vl_det (det_len_sl Try.underlying22 rfl) rfl ?_
  refine vl_det (det_neq rfl rfl) rfl ?_
  refine vl_end [(0, _), (1, _), (10, _)] ⟨rfl, rfl, rfl, trivial⟩ ?_
  refine then_next ?_
  refine vc_decideU rfl (fun h10 => ?_) (fun h10 => ?_)
  · skip
    refine vc_seq ?_
    refine vc_region ?_
    refine vl_det (det_assign rfl) rfl ?_
    refine vl_end [(4, _)] ⟨rfl, trivial⟩ ?_
    refine then_next ?_
    refine vc_ret ?_
    refine then_ret ?_
    refine ret1 rfl rfl ?_
    exact ⟨by rw [decide_eq_false (fun h => by rw [h] at h10; exact h10 rfl)], rfl⟩
  · skip
    refine vc_skip ?_
    refine then_next ?_
    refine vc_seq ?_
    refine vc_seq ?_
    refine vc_region ?_
    refine vl_det (det_move rfl) rfl ?_
    refine vl_det (det_len_sl Try.underlying22 rfl) rfl ?_
    refine vl_det (det_move rfl) rfl ?_
    refine vl_end [(0, _), (1, _), (12, _), (13, _)] ⟨rfl, rfl, rfl, rfl, trivial⟩ ?_
    refine then_next ?_
    refine vc_block ?_
    refine vc_loopJ (fun zf zL zm => ∃ (k : Nat), (k ≤ l.length ∧ l.take k = l2.take k) ∧ l.length - k = zm ∧ Sub zf [(0, .slice A l.length c), (1, .slice A2 l2.length c2), (12, .int .i64 l.length), (13, .int .i64 k)] ∧ Wk zL (F)) _ ⟨0, ⟨Nat.zero_le _, rfl⟩, rfl, ⟨(by first | rfl | exact int_to (by omega) | exact sl_to (by omega)), (by first | rfl | exact int_to (by omega) | exact sl_to (by omega)), (by first | rfl | exact int_to (by omega) | exact sl_to (by omega)), (by first | rfl | exact int_to (by omega) | exact sl_to (by omega)), trivial⟩, .refl _⟩ ?_
    rintro _ _ _ ⟨k, ⟨hk, heq⟩, rfl, hs, hp⟩
    refine vc_weaken _ hs (vc_wk hp ?_)
    clear hs hp
    refine vc_seq ?_
    refine vc_region ?_
    refine vl_det (det_lss rfl rfl) rfl ?_
    refine vl_end [(0, _), (1, _), (12, _), (13, _), (14, _)] ⟨rfl, rfl, rfl, rfl, rfl, trivial⟩ ?_
    refine then_next ?_
    refine vc_seq ?_
    refine vc_decideU rfl (fun h14 => ?_) (fun h14 => ?_)
    · skip
      refine vc_skip ?_
      refine then_next ?_
      refine vc_seq ?_
      refine vc_block ?_
      refine vc_seq ?_
      refine vc_region ?_
      refine vl_det (det_move rfl) rfl ?_
      refine vl_det (det_assign rfl) rfl ?_
      refine vl_end [(0, _), (1, _), (5, _), (12, _), (13, _)] ⟨rfl, rfl, rfl, rfl, rfl, trivial⟩ ?_
      refine then_next ?_
      refine vc_seq ?_
      refine vq_region (by kernel_rfl) (by kernel_rfl) ?_
      refine vq_det (det_move rfl) rfl ?_
      refine vq_det (det_move rfl) rfl ?_
      refine vq_det (det_indexAddr (size := 5) Try.underlying22 (by kernel_rfl) rfl rfl rfl (by omega) (by first | (exact Bor.own (by repeat (first | exact List.Mem.head _ | apply List.Mem.tail))) | (repeat (first | assumption | apply Bor.cons)))) rfl ?_
      refine vq_det (det_load_rowa 5 (by kernel_rfl) rfl (by first | (exact Bor.own (by repeat (first | exact List.Mem.head _ | apply List.Mem.tail))) | (repeat (first | assumption | apply Bor.cons))) (by omega) (StepC.cells (l.getD k sNil)) (step_cells (by omega)) rfl) rfl ?_
      refine vq_det (det_move rfl) rfl ?_
      refine vq_det (det_move rfl) rfl ?_
      refine vq_det (det_indexAddr (size := 5) Try.underlying22 (by kernel_rfl) rfl rfl rfl (by omega) (by first | (exact Bor.own (by repeat (first | exact List.Mem.head _ | apply List.Mem.tail))) | (repeat (first | assumption | apply Bor.cons)))) rfl ?_
      refine vq_det (det_load_rowa 5 (by kernel_rfl) rfl (by first | (exact Bor.own (by repeat (first | exact List.Mem.head _ | apply List.Mem.tail))) | (repeat (first | assumption | apply Bor.cons))) (by omega) (StepC.cells (l2.getD k sNil)) (step_cells (by omega)) rfl) rfl ?_
      refine vq_det (det_step_neq rfl (l.getD k sNil) (l2.getD k sNil) rfl rfl) rfl ?_
      refine vq_end [(0, _), (1, _), (12, _), (13, _), (24, _)] ⟨rfl, rfl, rfl, rfl, rfl, trivial⟩ ?_
      refine then_next ?_
      refine vc_decideU rfl (fun h24 => ?_) (fun h24 => ?_)
      · skip
        refine vc_seq ?_
        refine vc_region ?_
        refine vl_det (det_assign rfl) rfl ?_
        refine vl_end [(4, _)] ⟨rfl, trivial⟩ ?_
        refine then_next ?_
        refine vc_ret ?_
        refine in_ret ?_
        refine then_ret ?_
        refine loop_ret ?_
        refine in_ret ?_
        refine then_ret ?_
        refine ret1 rfl rfl ?_
        exact ⟨by rw [decide_eq_false (fun h => by rw [h] at h24; exact h24 rfl)], rfl⟩
      · skip
        refine vc_skip ?_
        refine in_normal ?_
        refine then_next ?_
        refine vc_region ?_
        refine vl_det (det_add rfl rfl (w_i64 (by omega) (by omega))) rfl ?_
        refine vl_det (det_move rfl) rfl ?_
        refine vl_end [(0, _), (1, _), (12, _), (13, _)] ⟨rfl, rfl, rfl, rfl, trivial⟩ ?_
        refine in_loop_ ⟨_, by omega, k + 1, ⟨by omega, by rw [take_getD (by omega) sNil, take_getD (by omega) sNil, heq]; exact congrArg (fun z => l2.take k ++ [z]) (Classical.not_not.1 h24)⟩, rfl, ⟨(by first | rfl | exact int_to (by omega) | exact sl_to (by omega)), (by first | rfl | exact int_to (by omega) | exact sl_to (by omega)), (by first | rfl | exact int_to (by omega) | exact sl_to (by omega)), (by first | rfl | exact int_to (by omega) | exact sl_to (by omega)), trivial⟩, .refl _⟩
    · skip
      refine vc_exit ?_
      refine then_exit ?_
      refine loop_exit ?_
      refine in_eq ?_
      refine then_next ?_
      refine vc_seq ?_
      refine vc_region ?_
      refine vl_det (det_assign rfl) rfl ?_
      refine vl_end [(4, _)] ⟨rfl, trivial⟩ ?_
      refine then_next ?_
      refine vc_ret ?_
      refine ret1 rfl rfl ?_
      have e : l = l2 := by
        have := heq
        rwa [List.take_of_length_le (by omega), List.take_of_length_le (by omega)] at this
      exact ⟨by rw [decide_eq_true e], rfl⟩
theorem add1_d {z : Qt} {u : Value} {q : List StepC} (hu : NV B w0 F z [u]) (hn : z.isN) (hw : z.wf) (hz : z.st.length ≤ 1000000) (hb : Bor B w0 F 5 (.slice A q.length c) q.length (stepsV q)) :
    Does Try.prog B w0 111 [u, .pointer (some ⟨g, 0, none⟩)] (.blk g 22 [.slice A q.length c] :: F) (fun r L => r = .bool (decide (z.st = q)) ∧ L = .blk g 22 [.slice A q.length c] :: F) := by
  refine fn_walk Try.func111 8 rfl rfl rfl [(0, u), (1, .pointer (some ⟨g, 0, none⟩))] ⟨⟨rfl, rfl⟩, ⟨rfl, rfl⟩, trivial⟩ ?_
  refine vc_seq ?_
  refine vc_region ?_
  refine vl_det (det_assign rfl) rfl ?_
  refine vl_end [(0, _), (1, _)] ⟨rfl, rfl, trivial⟩ ?_
  refine then_next ?_
  refine vc_seq ?_
  refine vh_region (S := .blk g 22 [.slice A q.length c] :: F) (by kernel_rfl) (by repeat (first | exact List.Sublist.refl _ | exact List.nil_sublist _ | exact List.sublist_append_right _ _ | apply List.Sublist.cons_cons | apply List.Sublist.cons)) ?_
  refine vh_take 0 rfl (by kernel_rfl) (by kernel_rfl) (by kernel_rfl) (det_move rfl) rfl ?_
  refine vh_take 2 rfl (by kernel_rfl) (by kernel_rfl) (by kernel_rfl) (det_load_blk (by kernel_rfl) rfl (by repeat (first | exact .hd | apply Sel.tl)) rfl) rfl ?_
  refine vh_one 1 (by kernel_rfl) ?_
  refine st_invoke (by kernel_rfl) rfl .no rfl rfl (steps_m hn hw hz _ u hu.cons_) rfl (by rintro _ _ ⟨A5, c5, rfl, rfl⟩; exact (by repeat (first | exact List.Sublist.refl _ | exact List.nil_sublist _ | exact List.sublist_append_right _ _ | apply List.Sublist.cons_cons | apply List.Sublist.cons))) ?_
  rintro _ _ ⟨A5, c5, rfl, hLL⟩
  obtain rfl := hLL.symm
  refine vh_one 3 (by kernel_rfl) ?_
  refine st_call rfl .no co112 rfl (eqst_d (by first | (exact Bor.own (by repeat (first | exact List.Mem.head _ | apply List.Mem.tail))) | (repeat (first | assumption | apply Bor.cons))) (by first | (exact Bor.own (by repeat (first | exact List.Mem.head _ | apply List.Mem.tail))) | (repeat (first | assumption | apply Bor.cons))) (by omega)) rfl (by rintro _ _ ⟨rfl, rfl⟩; exact (by repeat (first | exact List.Sublist.refl _ | exact List.nil_sublist _ | exact List.sublist_append_right _ _ | apply List.Sublist.cons_cons | apply List.Sublist.cons))) ?_
  rintro _ _ ⟨rfl, hLL⟩
  obtain rfl := hLL.symm
  refine vh_take 4 rfl (by kernel_rfl) (by kernel_rfl) (by kernel_rfl) (det_assign rfl) rfl ?_
  refine vh_done [(3, _)] ⟨rfl, trivial⟩ (by kernel_rfl) ?_
  refine then_next ?_
  refine vc_ret ?_
  refine ret_wk (L' := .blk g 22 [.slice A q.length c] :: F) (.skip (.refl _)) ?_
  refine ret1 rfl rfl ?_
  exact ⟨rfl, rfl⟩
theorem idxn_d {S : List Qt} {vs : List Value} {q : List StepC} (hb : Bor B w0 F 1 (.slice A2 S.length c2) S.length vs) (hv : NVs B w0 F S vs) (hS : ∀ t ∈ S, t.isN ∧ t.wf) (hz : ∀ t ∈ S, t.st.length ≤ 1000000) (hq : Bor B w0 F 5 (.slice A q.length c) q.length (stepsV q)) (hl : S.length ≤ 1000000000) :
    Does Try.prog B w0 113 [.slice A2 S.length c2, .func (.func 111) #[] #[.pointer (some ⟨g, 0, none⟩)]] (.blk g 22 [.slice A q.length c] :: F) (fun r L => (∃ k : Int, r = .int .i64 k ∧ (0 ≤ k ↔ S.any (fun z => decide (z.st = q)) = true)) ∧ L = .blk g 22 [.slice A q.length c] :: F) := by
  refine fn_walk Try.func113 19 rfl rfl rfl [(0, .slice A2 S.length c2), (1, .func (.func 111) #[] #[.pointer (some ⟨g, 0, none⟩)])] ⟨⟨rfl, rfl⟩, ⟨rfl, rfl⟩, trivial⟩ ?_
  refine vc_seq ?_
  refine vc_region ?_
  refine vl_det (det_assign rfl) rfl ?_
  refine vl_end [(0, _), (1, _)] ⟨rfl, rfl, trivial⟩ ?_
  refine then_next ?_
  refine vc_seq ?_
  refine vc_seq ?_
  refine vc_region ?_
  refine vl_det (det_move rfl) rfl ?_
  refine vl_det (det_len_sl Try.underlying65 rfl) rfl ?_
  refine vl_det (det_move rfl) rfl ?_
  refine vl_end [(0, _), (1, _), (7, _), (8, _)] ⟨rfl, rfl, rfl, rfl, trivial⟩ ?_
  refine then_next ?_
  refine vc_block ?_
  refine vc_loopJ (fun zf zL zm => ∃ (k : Nat), (k ≤ S.length ∧ (S.take k).any (fun z => decide (z.st = q)) = false) ∧ S.length - k = zm ∧ Sub zf [(0, .slice A2 S.length c2), (1, .func (.func 111) #[] #[.pointer (some ⟨g, 0, none⟩)]), (7, .int .i64 S.length), (8, .int .i64 k)] ∧ Wk zL (.blk g 22 [.slice A q.length c] :: F)) _ ⟨0, ⟨Nat.zero_le _, rfl⟩, rfl, ⟨(by first | rfl | exact int_to (by omega) | exact sl_to (by omega)), (by first | rfl | exact int_to (by omega) | exact sl_to (by omega)), (by first | rfl | exact int_to (by omega) | exact sl_to (by omega)), (by first | rfl | exact int_to (by omega) | exact sl_to (by omega)), trivial⟩, .refl _⟩ ?_
  rintro _ _ _ ⟨k, ⟨hk, ha⟩, rfl, hs, hp⟩
  refine vc_weaken _ hs (vc_wk hp ?_)
  clear hs hp
  refine vc_seq ?_
  refine vc_region ?_
  refine vl_det (det_lss rfl rfl) rfl ?_
  refine vl_end [(0, _), (1, _), (7, _), (8, _), (9, _)] ⟨rfl, rfl, rfl, rfl, rfl, trivial⟩ ?_
  refine then_next ?_
  refine vc_seq ?_
  refine vc_decideU rfl (fun h9 => ?_) (fun h9 => ?_)
  · skip
    obtain ⟨u, hu, hku⟩ := hv.get (k := k) (by omega)
    have hmem := getD_mem (show k < S.length by omega) Qt.nil
    have hzk := hz _ hmem
    have hsk := hS _ hmem
    have htk := take_getD (show k < S.length by omega) Qt.nil
    have hany : (S.getD k .nil).st = q → S.any (fun z => decide (z.st = q)) = true := fun h => List.any_eq_true.2 ⟨_, hmem, decide_eq_true h⟩
    obtain ⟨z, hzz⟩ : ∃ z, z = S.getD k .nil := ⟨_, rfl⟩
    rw [← hzz] at hku hzk hsk htk hany
    have hu1 : vs[k * 1]? = some u := by rw [Nat.mul_one]; exact hu
    refine vc_skip ?_
    refine then_next ?_
    refine vc_seq ?_
    refine vc_block ?_
    refine vc_seq ?_
    refine vc_region ?_
    refine vl_det (det_move rfl) rfl ?_
    refine vl_det (det_assign rfl) rfl ?_
    refine vl_end [(0, _), (1, _), (5, _), (7, _), (8, _)] ⟨rfl, rfl, rfl, rfl, rfl, trivial⟩ ?_
    refine then_next ?_
    refine vc_seq ?_
    refine vc_region ?_
    refine vl_det (det_move rfl) rfl ?_
    refine vl_det (det_move rfl) rfl ?_
    refine vl_det (det_move rfl) rfl ?_
    refine vl_det (det_indexAddr (size := 1) Try.underlying65 (by kernel_rfl) rfl rfl rfl (by omega) (by first | (exact Bor.own (by repeat (first | exact List.Mem.head _ | apply List.Mem.tail))) | (repeat (first | assumption | apply Bor.cons)))) rfl ?_
    refine vl_det (det_load_row (by kernel_rfl) rfl (by first | (exact Bor.own (by repeat (first | exact List.Mem.head _ | apply List.Mem.tail))) | (repeat (first | assumption | apply Bor.cons))) (by omega) hu1) rfl ?_
    refine vl_callv (callable Try.func111 rfl rfl) rfl rfl (add1_d hku hsk.1 hsk.2 hzk hq) rfl ?_
    rintro _ _ ⟨rfl, hLL⟩
    obtain rfl := hLL.symm
    refine vl_end [(0, _), (1, _), (5, _), (7, _), (8, _), (16, _)] ⟨rfl, rfl, rfl, rfl, rfl, rfl, trivial⟩ ?_
    refine then_next ?_
    refine vc_decideU rfl (fun h16 => ?_) (fun h16 => ?_)
    · skip
      refine vc_seq ?_
      refine vc_region ?_
      refine vl_det (det_move rfl) rfl ?_
      refine vl_det (det_assign rfl) rfl ?_
      refine vl_end [(4, _)] ⟨rfl, trivial⟩ ?_
      refine then_next ?_
      refine vc_ret ?_
      refine in_ret ?_
      refine then_ret ?_
      refine loop_ret ?_
      refine in_ret ?_
      refine then_ret ?_
      refine ret1 rfl rfl ?_
      exact ⟨⟨k, rfl, by rw [hany h16]; simp⟩, rfl⟩
    · skip
      refine vc_skip ?_
      refine in_normal ?_
      refine then_next ?_
      refine vc_region ?_
      refine vl_det (det_add rfl rfl (w_i64 (by omega) (by omega))) rfl ?_
      refine vl_det (det_move rfl) rfl ?_
      refine vl_end [(0, _), (1, _), (7, _), (8, _)] ⟨rfl, rfl, rfl, rfl, trivial⟩ ?_
      refine in_loop_ ⟨_, by omega, k + 1, ⟨by omega, by rw [htk, List.any_append, ha]; simp [h16]⟩, rfl, ⟨(by first | rfl | exact int_to (by omega) | exact sl_to (by omega)), (by first | rfl | exact int_to (by omega) | exact sl_to (by omega)), (by first | rfl | exact int_to (by omega) | exact sl_to (by omega)), (by first | rfl | exact int_to (by omega) | exact sl_to (by omega)), trivial⟩, .refl _⟩
  · skip
    refine vc_exit ?_
    refine then_exit ?_
    refine loop_exit ?_
    refine in_eq ?_
    refine then_next ?_
    refine vc_seq ?_
    refine vc_region ?_
    refine vl_det (det_assign rfl) rfl ?_
    refine vl_end [(4, _)] ⟨rfl, trivial⟩ ?_
    refine then_next ?_
    refine vc_ret ?_
    refine ret1 rfl rfl ?_
    have e : S.any (fun z => decide (z.st = q)) = false := by
      have := ha
      rwa [List.take_of_length_le (by omega)] at this
    exact ⟨⟨-1, rfl, by rw [e]; simp⟩, rfl⟩
theorem hasn_d {S : List Qt} {vs : List Value} {q : List StepC} (hb : Bor B w0 F 1 (.slice A2 S.length c2) S.length vs) (hv : NVs B w0 F S vs) (hS : ∀ t ∈ S, t.isN ∧ t.wf) (hz : ∀ t ∈ S, t.st.length ≤ 1000000) (hq : Bor B w0 F 5 (.slice A q.length c) q.length (stepsV q)) (hl : S.length ≤ 1000000000) :
    Does Try.prog B w0 110 [.slice A2 S.length c2, .func (.func 111) #[] #[.pointer (some ⟨g, 0, none⟩)]] (.blk g 22 [.slice A q.length c] :: F) (fun r L => r = .bool (decide (S.any (fun z => decide (z.st = q)) = true)) ∧ L = .blk g 22 [.slice A q.length c] :: F) := by
  refine fn_walk Try.func110 9 rfl rfl rfl [(0, .slice A2 S.length c2), (1, .func (.func 111) #[] #[.pointer (some ⟨g, 0, none⟩)])] ⟨⟨rfl, rfl⟩, ⟨rfl, rfl⟩, trivial⟩ ?_
  refine vc_seq ?_
  refine vc_region ?_
  refine vl_det (det_assign rfl) rfl ?_
  refine vl_end [(0, _), (1, _)] ⟨rfl, rfl, trivial⟩ ?_
  refine then_next ?_
  refine vc_seq ?_
  refine vc_region ?_
  refine vl_det (det_move rfl) rfl ?_
  refine vl_det (det_move rfl) rfl ?_
  refine vl_call co113 rfl (idxn_d hb hv hS hz hq hl) rfl ?_
  rintro _ _ ⟨⟨k7, rfl, hk7⟩, hLL⟩
  obtain rfl := hLL.symm
  refine vl_det (det_geq rfl rfl) rfl ?_
  refine vl_det (det_assign rfl) rfl ?_
  refine vl_end [(4, _)] ⟨rfl, trivial⟩ ?_
  refine then_next ?_
  refine vc_ret ?_
  refine ret1 rfl rfl ?_
  exact ⟨by rw [decide_eq_decide.2 hk7], rfl⟩
theorem add_d {op : Int} {S : List Qt} {vs : List Value} {t : Qt} {u : Value} (hv : NVs B w0 F S vs) (hu : NV B w0 F t [u]) (hS : ∀ t ∈ S, t.isN ∧ t.wf) (hn : t.isN) (hw : t.wf) (hz : szL S ≤ 1000000) (ht : t.st.length ≤ 1000000) :
    Does Try.prog B w0 109 [.pointer (some ⟨g, 0, none⟩), u] (.blk g 67 [.int .i64 op, .slice A S.length c] :: .own 58 1 A S.length c vs :: F) (fun r L => ∃ A' c' vs', r = .tuple #[] ∧ L = .blk g 67 [.int .i64 op, .slice A' (addQ S t).length c'] :: .own 58 1 A' (addQ S t).length c' vs' :: F ∧ ∀ L0, NVs B w0 L0 S vs → NV B w0 L0 t [u] → NVs B w0 L0 (addQ S t) vs') := by
  have hSl := flat_len hS
  have hSz : ∀ t ∈ S, t.st.length ≤ 1000000 := fun t ht => Nat.le_trans (mem_flat_len ht) hz
  unfold szL at hz
  obtain ⟨uy, uv, rfl⟩ := nv_iface hu hn
  refine fn_walk Try.func109 24 rfl rfl rfl [(0, .pointer (some ⟨g, 0, none⟩)), (1, .iface uy uv)] ⟨⟨rfl, rfl⟩, ⟨rfl, rfl⟩, trivial⟩ ?_
  refine vc_seq ?_
  refine vc_region ?_
  refine vl_det (det_move rfl) rfl ?_
  refine vl_invoke (by kernel_rfl) rfl rfl (steps_m hn hw ht _ _ hu.cons_.cons_) rfl ?_
  rintro _ _ ⟨A6, c6, rfl, hLL⟩
  obtain rfl := hLL.symm
  refine vl_eff (eff_alloc_z (zv := (.slice none 0 0)) (by kernel_rfl) rfl) rfl ?_
  rintro _ _ ⟨g4, rfl, rfl⟩
  refine vl_eff0 (eff_store (by kernel_rfl) rfl rfl rfl (by repeat (first | exact .hd | apply Sel.tl)) (by simp)) ?_
  rintro _ _ rfl
  refine vl_end [(0, _), (1, _), (4, _)] ⟨rfl, rfl, rfl, trivial⟩ ?_
  refine then_next ?_
  refine vc_seq ?_
  refine vc_region ?_
  refine vl_det (det_move rfl) rfl ?_
  refine vl_det (det_nilCheck rfl) rfl ?_
  refine vl_det (det_fieldAddr_ Try.underlying67 rfl (by kernel_rfl) rfl rfl) rfl ?_
  refine vl_det (det_load_blk (by kernel_rfl) rfl (by repeat (first | exact .hd | apply Sel.tl)) rfl) rfl ?_
  refine vl_det (det_makeFunc rfl rfl) rfl ?_
  refine vl_call co110 rfl (hasn_d (by first | (exact Bor.own (by repeat (first | exact List.Mem.head _ | apply List.Mem.tail))) | (repeat (first | assumption | apply Bor.cons))) hv.cons_.cons_.cons_ hS hSz (by first | (exact Bor.own (by repeat (first | exact List.Mem.head _ | apply List.Mem.tail))) | (repeat (first | assumption | apply Bor.cons))) (by omega)) rfl ?_
  rintro _ _ ⟨rfl, hLL⟩
  obtain rfl := hLL.symm
  refine vl_det (det_notd rfl) rfl ?_
  refine vl_end [(0, _), (1, _), (13, _)] ⟨rfl, rfl, rfl, trivial⟩ ?_
  refine then_next ?_
  refine vc_decideU rfl (fun h13 => ?_) (fun h13 => ?_)
  · skip
    have e : addQ S t = S ++ [t] := if_neg h13
    have hel : (S ++ [t]).length = S.length + 1 := by simp
    rw [e, hel]
    refine vc_region ?_
    refine vl_det (det_move rfl) rfl ?_
    refine vl_det (det_move rfl) rfl ?_
    refine vl_det (det_nilCheck rfl) rfl ?_
    refine vl_det (det_fieldAddr_ Try.underlying67 rfl (by kernel_rfl) rfl rfl) rfl ?_
    refine vl_det (det_load_blk (by kernel_rfl) rfl (by repeat (first | exact .hd | apply Sel.tl)) rfl) rfl ?_
    refine vl_det (det_move rfl) rfl ?_
    refine vl_push slT65 rfl rfl rfl rfl rfl (fun _ => rfl) (by repeat (first | exact .hd | apply Sel.tl)) (by omega) (by omega) ?_
    intro _ A21 c21
    refine vl_det (det_nilCheck rfl) rfl ?_
    refine vl_det (det_fieldAddr_ Try.underlying67 rfl (by kernel_rfl) rfl rfl) rfl ?_
    refine vl_eff0 (eff_store (by kernel_rfl) rfl rfl rfl (by repeat (first | exact .hd | apply Sel.tl)) (by simp)) ?_
    rintro _ _ rfl
    refine vl_end [] trivial ?_
    refine ret_n ?_
    refine ret_wk (L' := .blk g 67 [.int .i64 op, .slice A21 (S.length + 1) c21] :: .own 58 1 A21 (S.length + 1) c21 (vs ++ [.iface uy uv]) :: F) (.skip (.skip (.refl _))) ?_
    refine ret0 rfl ?_
    exact ⟨A21, c21, _, rfl, rfl, fun L0 h1 h2 => NVs.append (S := S) h1 (NVs.sing h2)⟩
  · skip
    have e : addQ S t = S := if_pos (Classical.not_not.1 h13)
    rw [e]
    refine vc_skip ?_
    refine ret_n ?_
    refine ret_wk (L' := .blk g 67 [.int .i64 op, .slice A S.length c] :: .own 58 1 A S.length c vs :: F) (.skip (.skip (.refl _))) ?_
    refine ret0 rfl ?_
    exact ⟨A, c, vs, rfl, rfl, fun L0 h1 _ => h1⟩
/-! flat -/
def FlQ (B : Nat) (w0 : World) (t : Qt) : Prop := t.st.length ≤ 1000000 → ∀ (X L : List Ch) (u : Value), NV B w0 L t [u] → DoesM Try.prog B w0 u nmFlat [] (X ++ L) (fun r L' => ∃ M, L' = M ++ (X ++ L) ∧ NV B w0 (M ++ L) (flatT t) [r])
theorem flat_leaf (s : StepC) : Does Try.prog B w0 114 [.agg (StepC.cells s).toArray] F (fun r L => L = F ∧ r = .iface 88 (.agg (StepC.cells s).toArray)) := by
  refine fn_walk Try.func114 5 rfl rfl rfl [(0, .agg (StepC.cells s).toArray)] ⟨⟨rfl, rfl⟩, trivial⟩ ?_
  refine vc_seq ?_
  refine vc_region ?_
  refine vl_eff (eff_box rfl rfl) rfl ?_
  rintro _ _ ⟨g1, rfl, rfl⟩
  refine vl_det (det_assign rfl) rfl ?_
  refine vl_end [(1, _)] ⟨rfl, trivial⟩ ?_
  refine then_next ?_
  refine vc_seq ?_
  refine vc_region ?_
  refine vl_det (det_load_whole 5 (by kernel_rfl) rfl (by repeat (first | exact .hd | apply Sel.tl)) rfl) rfl ?_
  refine vl_det (det_makeIface (by kernel_rfl) rfl) rfl ?_
  refine vl_det (det_assign rfl) rfl ?_
  refine vl_end [(2, _)] ⟨rfl, trivial⟩ ?_
  refine then_next ?_
  refine vc_ret ?_
  refine ret_wk (L' := F) (.skip (.refl _)) ?_
  refine ret1 rfl rfl ?_
  exact ⟨rfl, rfl⟩
theorem wk_keep {M N : List Ch} (h : Wk M N) : ∀ R : List Ch, Wk (R ++ M) (R ++ N)
  | [] => h
  | _ :: R => .cons (wk_keep h R)
theorem flat_not {X : List Ch} {k : Qt} {u : Value} (hk : NV B w0 F k [u]) (hn : k.isN) (hw : k.wf) (hl : k.st.length ≤ 1000000) (ih : FlQ B w0 k) : Does Try.prog B w0 103 [.agg #[u]] (X ++ F) (fun r L => ∃ M, L = M ++ (X ++ F) ∧ NV B w0 (M ++ F) (notT (flatT k)) [r]) := by
  obtain ⟨ky, kv, rfl⟩ := nv_iface hk hn
  have hf := (flatT_ok k hw).1 hn
  refine fn_walk Try.func103 16 rfl rfl rfl [(0, .agg #[.iface ky kv])] ⟨⟨rfl, rfl⟩, trivial⟩ ?_
  refine vc_seq ?_
  refine vc_region ?_
  refine vl_eff (eff_box rfl rfl) rfl ?_
  rintro _ _ ⟨g1, rfl, rfl⟩
  refine vl_det (det_assign rfl) rfl ?_
  refine vl_end [(1, _)] ⟨rfl, trivial⟩ ?_
  refine then_next ?_
  refine vc_seq ?_
  refine vc_region ?_
  refine vl_det (det_fieldAddr_ Try.underlying64 rfl (by kernel_rfl) rfl rfl) rfl ?_
  refine vl_det (det_load_blk (by kernel_rfl) rfl (by repeat (first | exact .hd | apply Sel.tl)) rfl) rfl ?_
  refine vl_invoke (by kernel_rfl) rfl rfl (ih hl (.blk g1 64 [.iface ky kv] :: X) F _ hk) rfl ?_
  rintro _ _ ⟨M7, rfl, hx⟩
  obtain ⟨ry, rv, rw_, rfl, hA1, hA2, hA3⟩ := nv_not hx hf.1
  refine vl_end [(7, _)] ⟨rfl, trivial⟩ ?_
  refine then_next ?_
  refine vc_block ?_
  refine vc_seq ?_
  refine vc_region ?_
  refine vl_det (det_assert_to (by kernel_rfl) (by kernel_rfl) rfl hA2 hA1) rfl ?_
  refine vl_det (det_extract rfl rfl) rfl ?_
  refine vl_det (det_extract rfl rfl) rfl ?_
  refine vl_end [(7, _), (12, _), (13, _)] ⟨rfl, rfl, rfl, trivial⟩ ?_
  refine then_next ?_
  refine vc_condU rfl (fun h12 => ?_) (fun h12 => ?_)
  · skip
    have hnt : notT (flatT k) = nkid (flatT k) := if_pos h12
    have hA3 := hA3 h12
    have hB := nv_iface hA3 (by
      have := hf.2.1
      generalize flatT k = y at *
      cases y with
      | not j => exact this.1
      | _ => cases h12)
    obtain ⟨wy, wv, rfl⟩ := hB
    rw [hnt]
    refine vc_seq ?_
    refine vc_region ?_
    refine vl_eff (eff_alloc_z (zv := (.agg #[.nilIface])) (by kernel_rfl) rfl) rfl ?_
    rintro _ _ ⟨g3, rfl, rfl⟩
    refine vl_eff0 (eff_store_whole 1 (by kernel_rfl) rfl rfl (by first | exact bv_one _ | exact strs_one _ | exact ints_one _ _ | (simp; done) | (simp [Value.oneCell']; done) | assumption) (by repeat (first | exact .hd | apply Sel.tl)) (by first | rfl | (simp; omega) | (simp [*]; done)) (by first | rfl | (simp; omega) | (simp [*]; done))) ?_
    rintro _ _ rfl
    refine vl_end [(3, _)] ⟨rfl, trivial⟩ ?_
    refine then_next ?_
    refine vc_seq ?_
    refine vc_region ?_
    refine vl_det (det_fieldAddr_ Try.underlying64 rfl (by kernel_rfl) rfl rfl) rfl ?_
    refine vl_det (det_load_blk (by kernel_rfl) rfl (by repeat (first | exact .hd | apply Sel.tl)) rfl) rfl ?_
    refine vl_det (det_assign rfl) rfl ?_
    refine vl_end [(2, _)] ⟨rfl, trivial⟩ ?_
    refine then_next ?_
    refine vc_ret ?_
    refine in_ret ?_
    refine ret_wk (L' := M7 ++ (X ++ F)) (.skip (wk_keep (.skip (.refl _)) _)) ?_
    refine ret1 rfl rfl ?_
    exact ⟨M7, rfl, hA3⟩
  · skip
    have hnt : notT (flatT k) = .not (flatT k) := if_neg (by rw [h12]; decide)
    rw [hnt]
    refine vc_seq ?_
    refine vc_region ?_
    refine vl_det (det_assign rfl) rfl ?_
    refine vl_end [(4, _)] ⟨rfl, trivial⟩ ?_
    refine then_next ?_
    refine vc_seq ?_
    refine vc_region ?_
    refine vl_det (det_move rfl) rfl ?_
    refine vl_det (det_build [(0, _)] [_] rfl rfl (by kernel_rfl)) rfl ?_
    refine vl_det (det_makeIface (by kernel_rfl) rfl) rfl ?_
    refine vl_det (det_assign rfl) rfl ?_
    refine vl_end [(2, _)] ⟨rfl, trivial⟩ ?_
    refine then_next ?_
    refine vc_ret ?_
    refine in_ret ?_
    refine ret_wk (L' := M7 ++ (X ++ F)) (wk_keep (.skip (.refl _)) _) ?_
    refine ret1 rfl rfl ?_
    exact ⟨M7, rfl, ⟨_, rfl, hx⟩⟩
theorem front3 {a b c : Ch} {R : List Ch} (X : List Ch) : (X ++ a :: b :: c :: R).Perm (a :: b :: c :: (X ++ R)) :=
  List.perm_middle.trans ((List.perm_middle.trans (List.perm_middle.cons b)).cons a)
theorem flat_group {X : List Ch} {op : Int} {l : List Qt} {vs0 : List Value} (h67 : op = 6 ∨ op = 7) (hb : Bor B w0 F 1 (.slice A l.length c) l.length vs0) (hv0 : NVs B w0 F l vs0) (hl : ∀ t ∈ l, t.isN ∧ t.wf) (hsz : szL l ≤ 1000000) (ih : ∀ t ∈ l, FlQ B w0 t) :
    Does Try.prog B w0 106 [.agg #[.int .i64 op, .slice A l.length c]] (X ++ F) (fun r L => ∃ M, L = M ++ (X ++ F) ∧ NV B w0 (M ++ F) (mkG op ((l.map flatT).foldl (gath op) [])) [r]) := by
  have hll := flat_len hl
  have hfl : ∀ t ∈ l, (flatT t).isN ∧ (flatT t).wf ∧ (flatT t).st.length ≤ t.st.length := fun t ht => by
    have := (flatT_ok t (hl t ht).2).1 (hl t ht).1
    exact ⟨this.1, this.2.1, this.2.2.1⟩
  have htk : ∀ i, i < l.length → ((l.take (i + 1)).map flatT).foldl (gath op) [] = gath op (((l.take i).map flatT).foldl (gath op) []) (flatT (l.getD i .nil)) := fun i hi => by
    rw [take_getD hi .nil, List.map_append, List.foldl_append]; rfl
  have hzz : ∀ i, szL (((l.take i).map flatT).foldl (gath op) []) ≤ szL (l.take i) := fun i => by
    have h1 := gaths_sz (op := op) ((l.take i).map flatT) [] (fun t ht => by
      obtain ⟨k, hk, rfl⟩ := List.mem_map.1 ht
      exact ⟨(hfl k (List.mem_of_mem_take hk)).1, (hfl k (List.mem_of_mem_take hk)).2.1⟩)
    have h2 : ∀ (r : List Qt), (∀ t ∈ r, t ∈ l) → szL (r.map flatT) ≤ szL r := by
      intro r
      induction r with
      | nil => intro _; exact Nat.le_refl _
      | cons k r ihr =>
        intro h
        have h4 := ihr (fun t ht => h t (by simp [ht]))
        have h5 := (hfl k (h k (by simp))).2.2
        rw [List.map_cons, szL_cons, szL_cons]; omega
    have h3 := h2 (l.take i) (fun t ht => List.mem_of_mem_take ht)
    have e0 : szL [] = 0 := rfl
    omega
  have hlz : ∀ i, szL (l.take i) ≤ szL l := fun i => by
    conv => rhs; rw [← List.take_append_drop i l, szL_app]
    omega
  have hl6 : l.length ≤ 1000000 := Nat.le_trans hll hsz
  have hww : ∀ i, ∀ t ∈ ((l.take i).map flatT).foldl (gath op) [], t.isN ∧ t.wf := fun i => gaths_wf _ _ (fun t ht => by
      obtain ⟨k, hk, rfl⟩ := List.mem_map.1 ht
      exact ⟨(hfl k (List.mem_of_mem_take hk)).1, (hfl k (List.mem_of_mem_take hk)).2.1⟩) (by simp)
  refine fn_walk Try.func106 59 rfl rfl rfl [(0, .agg #[.int .i64 op, .slice A l.length c])] ⟨⟨rfl, rfl⟩, trivial⟩ ?_
  refine vc_seq ?_
  refine vc_region ?_
  refine vl_eff (eff_box rfl rfl) rfl ?_
  rintro _ _ ⟨g1, rfl, rfl⟩
  refine vl_det (det_assign rfl) rfl ?_
  refine vl_end [(1, _)] ⟨rfl, trivial⟩ ?_
  refine then_next ?_
  refine vc_seq ?_
  refine vc_region ?_
  refine vl_det (det_fieldAddr_ Try.underlying67 rfl (by kernel_rfl) rfl rfl) rfl ?_
  refine vl_det (det_load_blk (by kernel_rfl) rfl (by repeat (first | exact .hd | apply Sel.tl)) rfl) rfl ?_
  refine vl_det (det_buildp [(0, _)] [.int .i64 0, .slice none 0 0] [0] [_, _] rfl rfl (by kernel_rfl)) rfl ?_
  refine vl_eff (eff_alloc_z (zv := (.agg #[.int .i64 0, .slice none 0 0])) (by kernel_rfl) rfl) rfl ?_
  rintro _ _ ⟨g3, rfl, rfl⟩
  refine vl_eff0 (eff_store_whole 2 (by kernel_rfl) rfl rfl (by first | exact bv_one _ | exact strs_one _ | exact ints_one _ _ | (simp; done) | (simp [Value.oneCell']; done) | assumption) (by repeat (first | exact .hd | apply Sel.tl)) (by first | rfl | (simp; omega) | (simp [*]; done)) (by first | rfl | (simp; omega) | (simp [*]; done))) ?_
  rintro _ _ rfl
  refine vl_end [(1, _), (3, _)] ⟨rfl, rfl, trivial⟩ ?_
  refine then_next ?_
  refine vc_seq ?_
  refine vc_seq ?_
  refine vc_nil_row 58 1 none ?_
  refine vc_region ?_
  refine vl_det (det_fieldAddr_ Try.underlying67 rfl (by kernel_rfl) rfl rfl) rfl ?_
  refine vl_det (det_load_blk (by kernel_rfl) rfl (by repeat (first | exact .hd | apply Sel.tl)) rfl) rfl ?_
  refine vl_det (det_len_sl Try.underlying65 rfl) rfl ?_
  refine vl_det (det_move rfl) rfl ?_
  refine vl_end [(1, _), (3, _), (15, _), (16, _), (17, _)] ⟨rfl, rfl, rfl, rfl, rfl, trivial⟩ ?_
  refine then_next ?_
  refine vc_block ?_
  refine vc_loopJ (fun zf zL zm => ∃ (i : Nat) (S : List Qt) (vs : List Value) (M : List Ch) (A3 : Option Addr) (c3 : Nat), (i ≤ l.length ∧ S = ((l.take i).map flatT).foldl (gath op) [] ∧ NVs B w0 (M ++ F) S vs) ∧ l.length - i = zm ∧ Sub zf [(1, .pointer (some ⟨g1, 0, none⟩)), (3, .pointer (some ⟨g3, 0, none⟩)), (15, .slice A l.length c), (16, .int .i64 l.length), (17, .int .i64 i)] ∧ Wk zL (.blk g3 67 [.int .i64 op, .slice A3 S.length c3] :: .own 58 1 A3 S.length c3 vs ::   .blk g1 67 [.int .i64 op, .slice A l.length c] :: (M ++ (X ++ F)))) _ ⟨0, [], [], [], none, 0, ⟨Nat.zero_le _, rfl, rfl⟩, rfl, ⟨(by first | rfl | exact int_to (by omega) | exact sl_to (by omega)), (by first | rfl | exact int_to (by omega) | exact sl_to (by omega)), (by first | rfl | exact int_to (by omega) | exact sl_to (by omega)), (by first | rfl | exact int_to (by omega) | exact sl_to (by omega)), (by first | rfl | exact int_to (by omega) | exact sl_to (by omega)), trivial⟩, (wu1 (wu0 (wu0 (.refl _))))⟩ ?_
  rintro _ _ _ ⟨i, S, vs, M, A3, c3, ⟨hi, hS, hN⟩, rfl, hs, hp⟩
  refine vc_weaken _ hs (vc_wk hp ?_)
  clear hs hp
  refine vc_seq ?_
  refine vc_region ?_
  refine vl_det (det_lss rfl rfl) rfl ?_
  refine vl_end [(1, _), (3, _), (15, _), (16, _), (17, _), (18, _)] ⟨rfl, rfl, rfl, rfl, rfl, rfl, trivial⟩ ?_
  refine then_next ?_
  refine vc_seq ?_
  refine vc_decideU rfl (fun h18 => ?_) (fun h18 => ?_)
  · skip
    obtain ⟨u, hu, hku⟩ := hv0.get (k := i) (by omega)
    have hmem := getD_mem (show i < l.length by omega) Qt.nil
    have hti := htk i (by omega)
    have hz1 := hzz i
    have hz2 := hlz (i + 1)
    have hz0 := hlz i
    have hw1 := hww i
    have hw2 := hww (i + 1)
    rw [← hS] at hti hz1 hw1
    rw [hti] at hw2
    rw [take_getD (show i < l.length by omega) .nil, szL_app, szL_one] at hz2
    have hih := ih _ hmem
    have hsk := hl _ hmem
    have hfk := hfl _ hmem
    have hlk : (l.getD i .nil).st.length ≤ szL l := mem_flat_len hmem
    obtain ⟨k, hk⟩ : ∃ k, k = l.getD i .nil := ⟨_, rfl⟩
    rw [← hk] at hku hti hz2 hw2 hih hsk hfk hlk
    have hu1 : vs0[i * 1]? = some u := by rw [Nat.mul_one]; exact hu
    have hbb : Bor B w0 (M ++ (X ++ F)) 1 (.slice A l.length c) l.length vs0 := hb.mono ((List.sublist_append_right X F).trans (List.sublist_append_right M (X ++ F)))
    refine vc_skip ?_
    refine then_next ?_
    refine vc_seq ?_
    refine vc_block ?_
    refine vc_seq ?_
    refine vc_region ?_
    refine vl_det (det_indexAddr (size := 1) Try.underlying65 (by kernel_rfl) rfl rfl rfl (by omega) (by first | (exact Bor.own (by repeat (first | exact List.Mem.head _ | apply List.Mem.tail))) | (repeat (first | assumption | apply Bor.cons)))) rfl ?_
    refine vl_det (det_load_row (by kernel_rfl) rfl (by first | (exact Bor.own (by repeat (first | exact List.Mem.head _ | apply List.Mem.tail))) | (repeat (first | assumption | apply Bor.cons))) (by omega) hu1) rfl ?_
    refine vl_det (det_assign rfl) rfl ?_
    refine vl_end [(1, _), (3, _), (5, _), (15, _), (16, _), (17, _)] ⟨rfl, rfl, rfl, rfl, rfl, rfl, trivial⟩ ?_
    refine then_next ?_
    refine vc_seq ?_
    rw [show (.blk g3 67 [.int .i64 op, .slice A3 S.length c3] :: .own 58 1 A3 S.length c3 vs :: .blk g1 67 [.int .i64 op, .slice A l.length c] :: (M ++ (X ++ F)) : List Ch) = (.blk g3 67 [.int .i64 op, .slice A3 S.length c3] :: .own 58 1 A3 S.length c3 vs :: .blk g1 67 [.int .i64 op, .slice A l.length c] :: (M ++ X)) ++ F by simp]
    refine vc_region ?_
    refine vl_det (det_move rfl) rfl ?_
    refine vl_invoke (by kernel_rfl) rfl rfl (hih (by omega) _ F u hku) rfl ?_
    rintro _ _ ⟨M22, rfl, hx⟩
    obtain ⟨ry, rv, A22, c22, ws, rfl, hA1, hA2, hA3, hA4⟩ := nv_grp hx hfk.1 hfk.2.1
    refine vl_det (det_assign rfl) rfl ?_
    refine vl_end [(1, _), (3, _), (6, _), (15, _), (16, _), (17, _)] ⟨rfl, rfl, rfl, rfl, rfl, rfl, trivial⟩ ?_
    refine then_next ?_
    refine vc_seq ?_
    refine vc_seq ?_
    rw [show M22 ++ ((.blk g3 67 [.int .i64 op, .slice A3 S.length c3] :: .own 58 1 A3 S.length c3 vs :: .blk g1 67 [.int .i64 op, .slice A l.length c] :: (M ++ X)) ++ F) = M22 ++ (.blk g3 67 [.int .i64 op, .slice A3 S.length c3] :: .own 58 1 A3 S.length c3 vs :: .blk g1 67 [.int .i64 op, .slice A l.length c] :: (M ++ (X ++ F))) by simp]
    refine vc_perm (front3 M22) ?_
    have hxx : NV B w0 (M22 ++ M ++ F) (flatT k) [.iface ry rv] := hx.mono (by rw [List.append_assoc]; exact (List.Sublist.refl M22).append (List.sublist_append_right M F))
    have hkk : NVs B w0 (M22 ++ M ++ F) (gks (flatT k)) ws := hA4.mono (by rw [List.append_assoc]; exact (List.Sublist.refl M22).append (List.sublist_append_right M F))
    have hNN : NVs B w0 (M22 ++ M ++ F) S vs := hN.mono (by rw [List.append_assoc]; exact List.sublist_append_right M22 (M ++ F))
    have hsub : (M22 ++ M ++ F).Sublist (M22 ++ (M ++ (X ++ F))) := by rw [List.append_assoc]; exact (List.Sublist.refl M22).append ((List.Sublist.refl M).append (List.sublist_append_right X F))
    have hbk : Bor B w0 (M22 ++ (M ++ (X ++ F))) 1 (.slice A22 (gks (flatT k)).length c22) (gks (flatT k)).length ws := hA3.mono ((List.Sublist.refl M22).append ((List.sublist_append_right X F).trans (List.sublist_append_right M (X ++ F))))
    refine vc_region ?_
    refine vl_det (det_move rfl) rfl ?_
    refine vl_det (det_assert_to (by kernel_rfl) (by kernel_rfl) rfl hA2 hA1) rfl ?_
    refine vl_det (det_move rfl) rfl ?_
    refine vl_det (det_extract rfl rfl) rfl ?_
    refine vl_det (det_extract rfl rfl) rfl ?_
    refine vl_eff (eff_alloc_z (zv := (.agg #[.int .i64 0, .slice none 0 0])) (by kernel_rfl) rfl) rfl ?_
    rintro _ _ ⟨g7, rfl, rfl⟩
    refine vl_eff0 (eff_store_whole 2 (by kernel_rfl) rfl rfl (by first | exact bv_one _ | exact strs_one _ | exact ints_one _ _ | (simp; done) | (simp [Value.oneCell']; done) | assumption) (by repeat (first | exact .hd | apply Sel.tl)) (by first | rfl | (simp; omega) | (simp [*]; done)) (by first | rfl | (simp; omega) | (simp [*]; done))) ?_
    rintro _ _ rfl
    refine vl_det (det_assign rfl) rfl ?_
    refine vl_end [(1, _), (3, _), (6, _), (7, _), (8, _), (15, _), (16, _), (17, _)] ⟨rfl, rfl, rfl, rfl, rfl, rfl, rfl, rfl, trivial⟩ ?_
    refine then_next ?_
    refine vc_seq ?_
    refine vc_region ?_
    refine vl_cut 8 35 [(1, _), (3, _), (6, _), (7, _), (15, _), (16, _), (17, _)] (isG (flatT k) = true ∧ gop (flatT k) = op) ⟨rfl, rfl, rfl, rfl, rfl, rfl, rfl, trivial⟩ ?_ ?_
    · skip
      refine vl_det (det_move rfl) rfl ?_
      refine vl_det (det_move rfl) rfl ?_
      refine vl_guard rfl rfl rfl (fun h29 => ?_) (fun h29 => ?_)
      · skip
        refine vl_det (det_fieldAddr_ Try.underlying67 rfl (by kernel_rfl) rfl rfl) rfl ?_
        refine vl_guard_t rfl rfl ?_
        refine vl_det (det_load_blk (by kernel_rfl) rfl (by repeat (first | exact .hd | apply Sel.tl)) rfl) rfl ?_
        refine vl_guard_t rfl rfl ?_
        refine vl_det (det_fieldAddr_ Try.underlying67 rfl (by kernel_rfl) rfl rfl) rfl ?_
        refine vl_guard_t rfl rfl ?_
        refine vl_det (det_load_blk (by kernel_rfl) rfl (by repeat (first | exact .hd | apply Sel.tl)) rfl) rfl ?_
        refine vl_guard_t rfl rfl ?_
        refine vl_det (det_eql rfl rfl) rfl ?_
        refine vl_det (det_pick_t rfl rfl) rfl ?_
        exact vl_cut_end ⟨rfl, rfl, rfl, rfl, rfl, rfl, rfl, trivial⟩ (by first | rfl | exact bool_to_t (by first | omega | simp_all) | exact bool_to_f (by first | omega | simp_all) | exact bool_to (by first | omega | simp_all) | exact bool_to_b (by first | omega | simp_all))
      · skip
        refine vl_guard_f rfl rfl rfl rfl ?_
        refine vl_guard_f rfl rfl rfl rfl ?_
        refine vl_guard_f rfl rfl rfl rfl ?_
        refine vl_guard_f rfl rfl rfl rfl ?_
        refine vl_det (det_pick_f rfl rfl) rfl ?_
        exact vl_cut_end ⟨rfl, rfl, rfl, rfl, rfl, rfl, rfl, trivial⟩ (by first | rfl | exact bool_to_t (by first | omega | simp_all) | exact bool_to_f (by first | omega | simp_all) | exact bool_to (by first | omega | simp_all) | exact bool_to_b (by first | omega | simp_all))
    · skip
      refine vl_end [(1, _), (3, _), (6, _), (7, _), (15, _), (16, _), (17, _), (35, _)] ⟨rfl, rfl, rfl, rfl, rfl, rfl, rfl, rfl, trivial⟩ ?_
      refine then_next ?_
      refine vc_decideU rfl (fun h35 => ?_) (fun h35 => ?_)
      · skip
        have hga : gath op S (flatT k) = (gks (flatT k)).foldl addQ S := if_pos h35
        have hgl := flat_len (gks_wf hfk.2.1)
        have hgz := szL_gks hfk.2.1 hfk.1
        have hgw := gks_wf hfk.2.1
        unfold szL at hgz
        refine vc_seq ?_
        refine vc_seq ?_
        refine vc_region ?_
        refine vl_det (det_fieldAddr_ Try.underlying67 rfl (by kernel_rfl) rfl rfl) rfl ?_
        refine vl_det (det_load_blk (by kernel_rfl) rfl (by repeat (first | exact .hd | apply Sel.tl)) rfl) rfl ?_
        refine vl_det (det_len_sl Try.underlying65 rfl) rfl ?_
        refine vl_det (det_move rfl) rfl ?_
        refine vl_end [(1, _), (3, _), (15, _), (16, _), (17, _), (37, _), (38, _), (39, _)] ⟨rfl, rfl, rfl, rfl, rfl, rfl, rfl, rfl, trivial⟩ ?_
        refine then_next ?_
        refine vc_block ?_
        refine vc_loopJ (fun zf zL zm => ∃ (j : Nat) (S2 : List Qt) (vs2 : List Value) (A4 : Option Addr) (c4 : Nat), (j ≤ (gks (flatT k)).length ∧ S2 = ((gks (flatT k)).take j).foldl addQ S ∧ NVs B w0 (M22 ++ M ++ F) S2 vs2) ∧ (gks (flatT k)).length - j = zm ∧ Sub zf [(1, .pointer (some ⟨g1, 0, none⟩)), (3, .pointer (some ⟨g3, 0, none⟩)), (15, .slice A l.length c), (16, .int .i64 l.length), (17, .int .i64 i), (37, .slice A22 (gks (flatT k)).length c22), (38, .int .i64 (gks (flatT k)).length), (39, .int .i64 j)] ∧ Wk zL (.blk g3 67 [.int .i64 op, .slice A4 S2.length c4] :: .own 58 1 A4 S2.length c4 vs2 :: .blk g1 67 [.int .i64 op, .slice A l.length c] :: (M22 ++ (M ++ (X ++ F))))) _ ⟨0, S, vs, A3, c3, ⟨Nat.zero_le _, rfl, hNN⟩, rfl, ⟨(by first | rfl | exact int_to (by omega) | exact sl_to (by omega)), (by first | rfl | exact int_to (by omega) | exact sl_to (by omega)), (by first | rfl | exact int_to (by omega) | exact sl_to (by omega)), (by first | rfl | exact int_to (by omega) | exact sl_to (by omega)), (by first | rfl | exact int_to (by omega) | exact sl_to (by omega)), (by first | rfl | exact int_to (by omega) | exact sl_to (by omega)), (by first | rfl | exact int_to (by omega) | exact sl_to (by omega)), (by first | rfl | exact int_to (by omega) | exact sl_to (by omega)), trivial⟩, .skip (.refl _)⟩ ?_
        rintro _ _ _ ⟨j, S2, vs2, A4, c4, ⟨hj, hS2, hN2⟩, rfl, hs, hp⟩
        refine vc_weaken _ hs (vc_wk hp ?_)
        clear hs hp
        refine vc_seq ?_
        refine vc_region ?_
        refine vl_det (det_lss rfl rfl) rfl ?_
        refine vl_end [(1, _), (3, _), (15, _), (16, _), (17, _), (37, _), (38, _), (39, _), (40, _)] ⟨rfl, rfl, rfl, rfl, rfl, rfl, rfl, rfl, rfl, trivial⟩ ?_
        refine then_next ?_
        refine vc_seq ?_
        refine vc_decideU rfl (fun h40 => ?_) (fun h40 => ?_)
        · skip
          obtain ⟨y, hy, hyv⟩ := hkk.get (k := j) (by omega)
          have hym := getD_mem (show j < (gks (flatT k)).length by omega) Qt.nil
          have hyw := hgw _ hym
          have hyz : ((gks (flatT k)).getD j .nil).st.length ≤ szL (gks (flatT k)) := mem_flat_len hym
          unfold szL at hyz
          have hs2 : ((gks (flatT k)).take (j + 1)).foldl addQ S = addQ S2 ((gks (flatT k)).getD j .nil) := by rw [take_getD (by omega) Qt.nil, List.foldl_append, ← hS2]; rfl
          have hz3 : szL S2 ≤ 1000000 := by
            have h1 := fold_sz ((gks (flatT k)).take j) S
            have h2 : szL ((gks (flatT k)).take j) ≤ szL (gks (flatT k)) := by
              conv => rhs; rw [← List.take_append_drop j (gks (flatT k)), szL_app]
              omega
            rw [← hS2] at h1
            unfold szL at *
            omega
          have hw3 : ∀ t ∈ S2, t.isN ∧ t.wf := fun t ht => by
            rw [hS2] at ht
            rcases fold_mem ht with h | h
            · exact hw1 t h
            · exact hgw t (List.mem_of_mem_take h)
          have hy1 : ws[j * 1]? = some y := by rw [Nat.mul_one]; exact hy
          refine vc_skip ?_
          refine then_next ?_
          refine vc_seq ?_
          refine vc_block ?_
          refine vc_seq ?_
          refine vc_region ?_
          refine vl_det (det_indexAddr (size := 1) Try.underlying65 (by kernel_rfl) rfl rfl rfl (by omega) (by first | (exact Bor.own (by repeat (first | exact List.Mem.head _ | apply List.Mem.tail))) | (repeat (first | assumption | apply Bor.cons)))) rfl ?_
          refine vl_det (det_load_row (by kernel_rfl) rfl (by first | (exact Bor.own (by repeat (first | exact List.Mem.head _ | apply List.Mem.tail))) | (repeat (first | assumption | apply Bor.cons))) (by omega) hy1) rfl ?_
          refine vl_det (det_assign rfl) rfl ?_
          refine vl_end [(1, _), (3, _), (10, _), (15, _), (16, _), (17, _), (37, _), (38, _), (39, _)] ⟨rfl, rfl, rfl, rfl, rfl, rfl, rfl, rfl, rfl, trivial⟩ ?_
          refine then_next ?_
          refine vc_region ?_
          refine vl_det (det_move rfl) rfl ?_
          refine vl_call co109 rfl (add_d (hN2.mono (.cons _ hsub)) (hyv.mono (.cons _ hsub)) hw3 hyw.1 hyw.2 hz3 (by omega)) rfl ?_
          rintro _ _ ⟨A44, c44, vs44, rfl, hLL, hN44⟩
          obtain rfl := hLL.symm
          refine vl_end [(1, _), (3, _), (15, _), (16, _), (17, _), (37, _), (38, _), (39, _)] ⟨rfl, rfl, rfl, rfl, rfl, rfl, rfl, rfl, trivial⟩ ?_
          refine in_normal ?_
          refine then_next ?_
          refine vc_region ?_
          refine vl_det (det_add rfl rfl (w_i64 (by omega) (by omega))) rfl ?_
          refine vl_det (det_move rfl) rfl ?_
          refine vl_end [(1, _), (3, _), (15, _), (16, _), (17, _), (37, _), (38, _), (39, _)] ⟨rfl, rfl, rfl, rfl, rfl, rfl, rfl, rfl, trivial⟩ ?_
          refine in_loop_ ⟨_, by omega, j + 1, addQ S2 ((gks (flatT k)).getD j .nil), vs44, A44, c44, ⟨by omega, hs2.symm, hN44 _ hN2 hyv⟩, rfl, ⟨(by first | rfl | exact int_to (by omega) | exact sl_to (by omega)), (by first | rfl | exact int_to (by omega) | exact sl_to (by omega)), (by first | rfl | exact int_to (by omega) | exact sl_to (by omega)), (by first | rfl | exact int_to (by omega) | exact sl_to (by omega)), (by first | rfl | exact int_to (by omega) | exact sl_to (by omega)), (by first | rfl | exact int_to (by omega) | exact sl_to (by omega)), (by first | rfl | exact int_to (by omega) | exact sl_to (by omega)), (by first | rfl | exact int_to (by omega) | exact sl_to (by omega)), trivial⟩, .refl _⟩
        · skip
          refine vc_exit ?_
          refine then_exit ?_
          refine loop_exit ?_
          refine in_eq ?_
          refine then_next ?_
          refine vc_exit ?_
          refine then_exit ?_
          refine in_eq ?_
          refine then_next ?_
          refine vc_region ?_
          refine vl_det (det_add rfl rfl (w_i64 (by omega) (by omega))) rfl ?_
          refine vl_det (det_move rfl) rfl ?_
          refine vl_end [(1, _), (3, _), (15, _), (16, _), (17, _)] ⟨rfl, rfl, rfl, rfl, rfl, trivial⟩ ?_
          have hjj : j = (gks (flatT k)).length := by omega
          rw [hjj, List.take_length, ← hga, ← hti] at hS2
          refine in_loop_ ⟨_, by omega, i + 1, S2, vs2, M22 ++ M, A4, c4, ⟨by omega, hS2, hN2⟩, rfl, ⟨(by first | rfl | exact int_to (by omega) | exact sl_to (by omega)), (by first | rfl | exact int_to (by omega) | exact sl_to (by omega)), (by first | rfl | exact int_to (by omega) | exact sl_to (by omega)), (by first | rfl | exact int_to (by omega) | exact sl_to (by omega)), (by first | rfl | exact int_to (by omega) | exact sl_to (by omega)), trivial⟩, by rw [List.append_assoc]; exact .refl _⟩
      · skip
        have hga : gath op S (flatT k) = addQ S (flatT k) := if_neg h35
        refine vc_skip ?_
        refine then_next ?_
        refine vc_region ?_
        refine vl_det (det_move rfl) rfl ?_
        refine vl_call co109 rfl ((add_d (hNN.mono (.cons _ (.cons _ hsub))) (hxx.mono (.cons _ (.cons _ hsub))) hw1 hfk.1 hfk.2.1 (by omega) (by omega)).perm ((pu1 (pu1 (pu0 (pu0 (.refl _))))))) rfl ?_
        rintro _ _ ⟨A47, c47, vs47, rfl, hLL, hN47⟩
        obtain rfl := hLL.symm
        refine vl_end [(1, _), (3, _), (15, _), (16, _), (17, _)] ⟨rfl, rfl, rfl, rfl, rfl, trivial⟩ ?_
        refine in_normal ?_
        refine then_next ?_
        refine vc_region ?_
        refine vl_det (det_add rfl rfl (w_i64 (by omega) (by omega))) rfl ?_
        refine vl_det (det_move rfl) rfl ?_
        refine vl_end [(1, _), (3, _), (15, _), (16, _), (17, _)] ⟨rfl, rfl, rfl, rfl, rfl, trivial⟩ ?_
        refine in_loop_ ⟨_, by omega, i + 1, addQ S (flatT k), vs47, M22 ++ M, A47, c47, ⟨by omega, by rw [hti, hga], hN47 _ hNN hxx⟩, rfl, ⟨(by first | rfl | exact int_to (by omega) | exact sl_to (by omega)), (by first | rfl | exact int_to (by omega) | exact sl_to (by omega)), (by first | rfl | exact int_to (by omega) | exact sl_to (by omega)), (by first | rfl | exact int_to (by omega) | exact sl_to (by omega)), (by first | rfl | exact int_to (by omega) | exact sl_to (by omega)), trivial⟩, by rw [List.append_assoc]; exact .cons (.cons (.skip (.refl _)))⟩
  · skip
    obtain rfl : i = l.length := by omega
    rw [List.take_length] at hS
    refine vc_exit ?_
    refine then_exit ?_
    refine loop_exit ?_
    refine in_eq ?_
    refine then_next ?_
    refine vc_seq ?_
    refine vc_seq ?_
    refine vc_region ?_
    refine vl_det (det_fieldAddr_ Try.underlying67 rfl (by kernel_rfl) rfl rfl) rfl ?_
    refine vl_det (det_load_blk (by kernel_rfl) rfl (by repeat (first | exact .hd | apply Sel.tl)) rfl) rfl ?_
    refine vl_det (det_len_sl Try.underlying65 rfl) rfl ?_
    refine vl_det (det_eql rfl rfl) rfl ?_
    refine vl_end [(3, _), (52, _)] ⟨rfl, rfl, trivial⟩ ?_
    refine then_next ?_
    refine vc_decideU rfl (fun h52 => ?_) (fun h52 => ?_)
    · skip
      have hmk : mkG op ((l.map flatT).foldl (gath op) []) = S.getD 0 .nil := by rw [← hS]; exact if_pos (by omega)
      obtain ⟨u, hu, hku⟩ := hN.get (k := 0) (by omega)
      rw [hmk]
      refine vc_seq ?_
      refine vc_region ?_
      refine vl_det (det_fieldAddr_ Try.underlying67 rfl (by kernel_rfl) rfl rfl) rfl ?_
      refine vl_det (det_load_blk (by kernel_rfl) rfl (by repeat (first | exact .hd | apply Sel.tl)) rfl) rfl ?_
      refine vl_det (det_indexAddr (i := 0) (size := 1) Try.underlying65 (by kernel_rfl) rfl rfl rfl (by omega) (by first | (exact Bor.own (by repeat (first | exact List.Mem.head _ | apply List.Mem.tail))) | (repeat (first | assumption | apply Bor.cons)))) rfl ?_
      refine vl_det (det_load_row (by kernel_rfl) rfl (by first | (exact Bor.own (by repeat (first | exact List.Mem.head _ | apply List.Mem.tail))) | (repeat (first | assumption | apply Bor.cons))) (by omega) (show vs[0 * 1]? = some u from hu)) rfl ?_
      refine vl_det (det_assign rfl) rfl ?_
      refine vl_end [(2, _)] ⟨rfl, trivial⟩ ?_
      refine then_next ?_
      refine vc_ret ?_
      refine then_ret ?_
      refine ret_wk (L' := M ++ (X ++ F)) (.skip (.skip (.skip (.refl _)))) ?_
      refine ret1 rfl rfl ?_
      exact ⟨M, rfl, hku⟩
    · skip
      have hmk : mkG op ((l.map flatT).foldl (gath op) []) = .group op (ofL S) := by rw [← hS]; exact if_neg (by omega)
      rw [hmk]
      refine vc_skip ?_
      refine then_next ?_
      refine vc_seq ?_
      refine vc_region ?_
      refine vl_det (det_load_whole 2 (by kernel_rfl) rfl (by repeat (first | exact .hd | apply Sel.tl)) (by first | rfl | (simp; omega) | (simp [*]; done))) rfl ?_
      refine vl_det (det_makeIface (by kernel_rfl) rfl) rfl ?_
      refine vl_det (det_assign rfl) rfl ?_
      refine vl_end [(2, _)] ⟨rfl, trivial⟩ ?_
      refine then_next ?_
      refine vc_ret ?_
      refine ret_wk (L' := .own 58 1 A3 S.length c3 vs :: (M ++ (X ++ F))) (.skip (.cons (.skip (.refl _)))) ?_
      refine ret1 rfl rfl ?_
      exact ⟨.own 58 1 A3 S.length c3 vs :: M, rfl, nv_group_mk (Bor.own (.head _)) hN.cons_⟩
theorem flat_m {t : Qt} (h1 : t.isN) (h2 : t.wf) : FlQ B w0 t := by
  refine (Qt.ind (P := fun t => FlQ B w0 t) (fun s h1 h2 => ?_) (fun k h1 h2 ih => ?_) (fun op l h1 h2 h3 ih => ?_) t h2).1 h1
  · intro hl X L u hu
    obtain rfl : u = _ := by simpa using (show [u] = _ from hu)
    exact ⟨_, _, _, _, rfl, fun w => by kernel_rfl, co114, (flat_leaf s).mono fun r L' ⟨e1, e2⟩ => ⟨[], e1, by rw [e2]; rfl⟩⟩
  · intro hl X L u hu
    obtain ⟨x, hx, hk⟩ := hu
    obtain rfl : u = _ := by simpa using hx
    have hl' : k.st.length ≤ 1000000 := by simp [Qt.st] at hl; omega
    exact ⟨_, _, _, _, rfl, fun w => by kernel_rfl, co103, flat_not hk h1 h2 hl' ih⟩
  · intro hl X L u hu
    obtain ⟨A, c, vs, rfl, hb, hv⟩ := nv_group hu
    have hS : (Qt.group op (ofL l)).st = l.flatMap Qt.st ++ [(op, (l.length : Int), [], 0, 0)] := by show (ofL l).st ++ _ = _; rw [ofL_st, ofL_len]
    have hl' : szL l ≤ 1000000 := by rw [hS] at hl; unfold szL; simp at hl ⊢; omega
    rw [flatT_group]
    exact ⟨_, _, _, _, rfl, fun w => by kernel_rfl, co106, flat_group h1 hb hv h3 hl' ih⟩
end Go.Proofs.Ytakokckokchacaa
namespace Go.Proofs.Ytakokckokchacaa
open Go.RowKit Go.ChangeShapes Go.WideShapes Go.ChangeAt

/-- whatever reads at type t is 'F x' for some x that is fine -/
def DecT (P : Program) (w : World) (t : TypeId) {α : Type} (F : α → List Value) (Ok : α → Prop) : Prop :=
  ∀ (H : Type) (enc : TypeId × Value → H) (n : Nat) (cs : List Value) (y : DataW H × List MemPlace),
    DataW.trod enc P w 0 (fun _ => true) true n t cs = some y → ∃ x, cs = F x ∧ Ok x

section
variable {P : Program} {w : World} {t : TypeId}
theorem dec_u8 (ht : P.underlying t = some (.int .u8)) : DecT P w t (fun b : UInt8 => [.int .u8 (b.toNat : Int)]) (fun _ => True) := by
  intro H enc n cs y h
  obtain ⟨m, rfl, _, hw⟩ := DataW.trod_int ht h
  have hb := bounds_u8 hw
  refine ⟨UInt8.ofNat m.toNat, ?_, trivial⟩
  have e : (UInt8.ofNat m.toNat).toNat = m.toNat := by simp; omega
  dsimp only; rw [e, Int.toNat_of_nonneg hb.1]
theorem dec_u64 (ht : P.underlying t = some (.int .u64)) : DecT P w t (fun x : Nat => [.int .u64 (x : Int)]) (fun x => x < 18446744073709551616) := by
  intro H enc n cs y h
  obtain ⟨m, rfl, _, hw⟩ := DataW.trod_int ht h
  have hb := bounds_u64 hw
  exact ⟨m.toNat, by dsimp only; rw [Int.toNat_of_nonneg hb.1], by omega⟩
theorem dec_int (ht : P.underlying t = some (.int .i64)) : DecT P w t (fun x : Int => [.int .i64 x]) (fun x => -9223372036854775808 ≤ x ∧ x ≤ 9223372036854775807) := by
  intro H enc n cs y h
  obtain ⟨m, rfl, _, hw⟩ := DataW.trod_int ht h
  exact ⟨m, rfl, bounds_i64 hw⟩
theorem dec_string (ht : P.underlying t = some .string) : DecT P w t (fun s : ByteArray => [.string s]) (fun s => s.size ≤ maxLen) := by
  intro H enc n cs y h
  obtain ⟨s, rfl, _, hs⟩ := DataW.trod_string ht h
  exact ⟨s, rfl, hs⟩
theorem flatMap_get {α : Type} {F : α → List Value} {size : Nat} (hF : ∀ x, (F x).length = size) : ∀ (L : List α) (i j : Nat), j < size → (L.flatMap F)[i * size + j]? = (L[i]?).bind fun x => (F x)[j]? := by
  intro L
  induction L with
  | nil => intro i j _; simp
  | cons x L ih =>
    intro i j hj
    rw [List.flatMap_cons]
    rcases i with _ | i
    · rw [List.getElem?_append_left (by rw [hF]; omega)]; simp
    · rw [List.getElem?_append_right (by rw [hF, Nat.succ_mul]; omega), hF, show (i + 1) * size + j - size = i * size + j by rw [Nat.succ_mul]; omega, ih i j hj]
      simp
/-- a slice whose elements are opened by 'he' -/
theorem dec_slice {e : TypeId} {α : Type} {F : α → List Value} {Ok : α → Prop} {size : Nat} (ht : P.underlying t = some (.slice e)) (hc : P.cellsOf e = size) (hs : 0 < size) (hF : ∀ x, (F x).length = size) (he : DecT P w e F Ok) :
    DecT P w t (fun x : Value × List α => [x.1]) (fun x => Rd w w.heap.size size x.1 x.2.length (x.2.flatMap F) ∧ (∀ y ∈ x.2, Ok y) ∧ x.2.length ≤ maxLen) := by
  intro H enc n cs y h
  rcases Deep.open_slice ht h with ⟨rfl, _⟩ | ⟨a, len, cap, m, n', D, Pl, rfl, _, hl, hm, hmm, _, hel⟩
  · exact ⟨(.slice none 0 0, []), rfl, Rd.nil_, by simp, by simp⟩
  · simp only [if_true] at hmm
    have hex : ∀ i, i < len → ∃ x, w.cells? 0 (a.add (i * P.cellsOf e)) (P.cellsOf e) = some (F x) ∧ Ok x := by
      intro i hi
      obtain ⟨cs', h1, h2⟩ := hel i (by omega)
      obtain ⟨x, rfl, ho⟩ := he H enc _ _ _ h2
      exact ⟨x, h1, ho⟩
    have hlist : ∀ k, k ≤ len → ∃ L : List α, L.length = k ∧ ∀ i x, L[i]? = some x → w.cells? 0 (a.add (i * P.cellsOf e)) (P.cellsOf e) = some (F x) ∧ Ok x := by
      intro k
      induction k with
      | zero => intro _; exact ⟨[], rfl, by simp⟩
      | succ k ih =>
        intro hk
        obtain ⟨L, hL, hLi⟩ := ih (by omega)
        obtain ⟨x, hx⟩ := hex k (by omega)
        refine ⟨L ++ [x], by simp [hL], fun i z hz => ?_⟩
        rw [List.getElem?_append] at hz
        split at hz
        · exact hLi i z hz
        · rename_i hlt
          have : i = k := by
            have := (List.getElem?_eq_some_iff.1 hz).1
            simp at this; omega
          subst this
          simp [hL] at hz; subst hz; exact hx
    obtain ⟨L, hL, hLi⟩ := hlist len (Nat.le_refl _)
    refine ⟨(.slice (some a) len cap, L), rfl, ⟨some a, cap, by rw [hL], by rw [hL]; exact hl, ?_, fun hn => ⟨a, rfl, ?_, ?_⟩⟩, ?_, by show L.length ≤ maxLen; omega⟩
    · show (L.flatMap F).length = L.length * size
      clear hL hLi
      induction L with
      | nil => simp
      | cons x L ih => simp [ih, hF, Nat.succ_mul, Nat.add_comm]
    · obtain ⟨x, hx⟩ : ∃ x, L[0]? = some x := by
        rcases L with _ | ⟨x, L⟩
        · simp at hn
        · exact ⟨x, rfl⟩
      have := (hLi 0 x hx).1
      rw [hc] at this
      have := (World.cells?_some this).2.2 0 hs
      simp [Addr.add] at this
      rcases Nat.lt_or_ge a.block w.heap.size with hlt | hge
      · exact hlt
      · rw [World.cell?, Array.getElem?_eq_none hge] at this
        have h0 := hF x
        have : (F x)[0]? = none := by simpa using this.symm
        have := List.getElem?_eq_none_iff.1 this
        omega
    · intro j u hu
      have hj : j = j / size * size + j % size := by have := Nat.div_add_mod j size; rw [Nat.mul_comm] at this; omega
      rw [hj, flatMap_get hF L _ _ (Nat.mod_lt _ hs)] at hu
      obtain ⟨x, hx, hu⟩ := Option.bind_eq_some_iff.1 hu
      have hcx := (hLi _ x hx).1
      rw [hc] at hcx
      have := (World.cells?_some hcx).2.2 (j % size) (Nat.mod_lt _ hs)
      rw [add_of_add, ← hj] at this
      rw [this, hu]
    · intro y hy
      obtain ⟨i, hi⟩ := List.getElem?_of_mem hy
      exact (hLi i y hi).2
end

section
variable {P : Program} {w : World} {t : TypeId}
/-- an argument that is opened -/
theorem DecT.arg {α : Type} {F : α → List Value} {Ok : α → Prop} (hd : DecT P w t F Ok) {H : Type} {enc : TypeId × Value → H} {v : Value} {d : DataW H} {ps : List MemPlace}
    (h : DataW.Trod enc P w 0 (fun _ => true) true t v d ps) : ∃ x, v.cells.toList = F x ∧ Ok x := by
  obtain ⟨n, h⟩ := h
  exact hd H enc n _ _ h
theorem cells_slice {v : Value} {x : Value} (a : Option Addr) (n c : Nat) (hv : v = .slice a n c) (h : v.cells.toList = [x]) : x = v := by
  subst hv; simp [Value.cells] at h; exact h.symm
end

section
variable {P : Program} {w : World} {t : TypeId}
/-- a struct of four fields of one cell each -/
theorem dec_struct4 {α β γ δ : Type} {f0 f1 f2 f3 : Field} {F0 : α → Value} {F1 : β → Value} {F2 : γ → Value} {F3 : δ → Value} {O0 : α → Prop} {O1 : β → Prop} {O2 : γ → Prop} {O3 : δ → Prop}
    (ht : P.underlying t = some (.struct #[f0, f1, f2, f3])) (hc : P.cellsOf t = 4) (h0 : f0.offset = 0 ∧ P.cellsOf f0.type = 1) (h1 : f1.offset = 1 ∧ P.cellsOf f1.type = 1) (h2 : f2.offset = 2 ∧ P.cellsOf f2.type = 1) (h3 : f3.offset = 3 ∧ P.cellsOf f3.type = 1)
    (d0 : DecT P w f0.type (fun x => [F0 x]) O0) (d1 : DecT P w f1.type (fun x => [F1 x]) O1) (d2 : DecT P w f2.type (fun x => [F2 x]) O2) (d3 : DecT P w f3.type (fun x => [F3 x]) O3) :
    DecT P w t (fun x : α × β × γ × δ => [F0 x.1, F1 x.2.1, F2 x.2.2.1, F3 x.2.2.2]) (fun x => O0 x.1 ∧ O1 x.2.1 ∧ O2 x.2.2.1 ∧ O3 x.2.2.2) := by
  intro H enc n cs y h
  obtain ⟨xs, n', _, _, hl, hx, hf⟩ := DataW.trod_struct ht h
  rw [hc] at hl
  obtain ⟨c0, c1, c2, c3, rfl⟩ : ∃ c0 c1 c2 c3, cs = [c0, c1, c2, c3] := by
    match cs, hl with
    | [c0, c1, c2, c3], _ => exact ⟨c0, c1, c2, c3, rfl⟩
  obtain ⟨y0, y1, y2, y3, rfl⟩ : ∃ y0 y1 y2 y3, xs = [y0, y1, y2, y3] := by
    match xs, hx with
    | [y0, y1, y2, y3], _ => exact ⟨y0, y1, y2, y3, rfl⟩
  have g0 := hf 0 f0 rfl
  have g1 := hf 1 f1 rfl
  have g2 := hf 2 f2 rfl
  have g3 := hf 3 f3 rfl
  rw [h0.1, h0.2] at g0
  rw [h1.1, h1.2] at g1
  rw [h2.1, h2.2] at g2
  rw [h3.1, h3.2] at g3
  obtain ⟨a, ea, oa⟩ := d0 H enc _ _ _ g0
  obtain ⟨b, eb, ob⟩ := d1 H enc _ _ _ g1
  obtain ⟨c, ec, oc⟩ := d2 H enc _ _ _ g2
  obtain ⟨d, ed, od⟩ := d3 H enc _ _ _ g3
  simp at ea eb ec ed
  exact ⟨(a, b, c, d), by simp [ea, eb, ec, ed], oa, ob, oc, od⟩
end
end Go.Proofs.Ytakokckokchacaa
namespace Go.Proofs.Ytakokckokchacaa
open Go.RowKit
set_option linter.unusedVariables false
/-- a record: its time, its level, its source, its text -/
abbrev RecC := Nat × UInt8 × List UInt8 × List UInt8
def RecC.cells (x : RecC) : List Value := [.int .u64 x.1, .int .u8 (x.2.1.toNat : Int), .string ⟨x.2.2.1.toArray⟩, .string ⟨x.2.2.2.toArray⟩]
def RecC.ok (x : RecC) : Prop := x.1 < 18446744073709551616 ∧ True ∧ x.2.2.1.length ≤ maxLen ∧ x.2.2.2.length ≤ maxLen
theorem dec_strL {P : Program} {w : World} {t : TypeId} (ht : P.underlying t = some .string) : DecT P w t (fun s : List UInt8 => [.string ⟨s.toArray⟩]) (fun s => s.length ≤ maxLen) := by
  intro H enc n cs y h
  obtain ⟨s, h1, h2⟩ := dec_string ht H enc n cs y h
  refine ⟨s.data.toList, ?_, ?_⟩
  · rw [h1]
  · have e : s.data.toList.length = s.size := by rw [Array.length_toList]; rfl
    show s.data.toList.length ≤ maxLen
    rw [e]; exact h2
theorem dec_rec (w : World) : DecT Try.prog w 45 RecC.cells RecC.ok :=
  dec_struct4 Try.underlying45 (by kernel_rfl) ⟨rfl, by kernel_rfl⟩ ⟨rfl, by kernel_rfl⟩ ⟨rfl, by kernel_rfl⟩ ⟨rfl, by kernel_rfl⟩ (dec_u64 Try.underlying36) (dec_u8 Try.underlying5) (dec_strL Try.underlying9) (dec_strL Try.underlying9)
def recs (L : List RecC) : List Value := L.flatMap RecC.cells
def recAt (L : List RecC) (k : Nat) : RecC := L.getD k (0, 0, [], [])
end Go.Proofs.Ytakokckokchacaa
namespace Go.Proofs.Ytakokckokchacaa
open Go.RowKit
set_option linter.unusedVariables false
variable {B : Nat} {w0 : World} {F : List Ch}
/-- the document's place: what was found, and whether a letter stands before -/
def RefAt (l : List UInt8) (i : Nat) (OUT : List (List UInt8)) (prev : Bool) : Prop :=
  OUT ++ refW prev (l.drop i) = refW false l ∧ (i = 0 → prev = false) ∧ (∀ c, 0 < i → l[i - 1]? = some c → prev = decide (small c ≠ 0)) ∧ OUT.length ≤ i
theorem RefAt.skip {l : List UInt8} {i : Nat} {OUT : List (List UInt8)} {prev : Bool} {c : UInt8} (h : RefAt l i OUT prev) (hc : l[i]? = some c) (hs : small c = 0 ∨ prev = true) : RefAt l (i + 1) OUT (decide (small c ≠ 0)) := by
  obtain ⟨hlt, rfl⟩ := List.getElem?_eq_some_iff.1 hc
  refine ⟨?_, fun h => by omega, fun c' _ hc' => ?_, by have := h.2.2.2; omega⟩
  · have := h.1
    rw [List.drop_eq_getElem_cons hlt, refW, if_pos hs] at this
    exact this
  · rw [Nat.add_sub_cancel, hc] at hc'
    injection hc' with hc'
    rw [hc']
theorem RefAt.put {l : List UInt8} {i : Nat} {OUT : List (List UInt8)} {prev : Bool} {c : UInt8} (h : RefAt l i OUT prev) (hc : l[i]? = some c) (hs : small c ≠ 0) (hp : prev = false) : RefAt l (i + 1) (OUT ++ [wordAt (l.drop i)]) (decide (small c ≠ 0)) := by
  obtain ⟨hlt, rfl⟩ := List.getElem?_eq_some_iff.1 hc
  refine ⟨?_, fun h => by omega, fun c' _ hc' => ?_, by have := h.2.2.2; simp; omega⟩
  · have := h.1
    rw [List.drop_eq_getElem_cons hlt, refW, if_neg (by simp [hs, hp])] at this
    rw [← this, List.append_assoc, decide_eq_true hs, List.drop_eq_getElem_cons hlt]
    rfl
  · rw [Nat.add_sub_cancel, hc] at hc'
    injection hc' with hc'
    rw [hc']
theorem RefAt.done {l : List UInt8} {OUT : List (List UInt8)} {prev : Bool} (h : RefAt l l.length OUT prev) : OUT = wordsL l := by
  have := h.1
  rw [List.drop_length] at this
  rw [words_ref, ← this]
  simp [refW]
/-- inside: the letters taken from place i on -/
def TakenAt (l : List UInt8) (i m : Nat) (R : List UInt8) : Prop := R = ((l.drop i).take m).map small ∧ ∀ x ∈ (l.drop i).take m, small x ≠ 0
theorem TakenAt.more {l : List UInt8} {i m : Nat} {R : List UInt8} {c : UInt8} (h : TakenAt l i m R) (hc : l[i + m]? = some c) (hs : small c ≠ 0) : TakenAt l i (m + 1) (R ++ [small c]) := by
  have e : (l.drop i).take (m + 1) = (l.drop i).take m ++ [c] := by
    rw [List.take_add_one, List.getElem?_drop, hc]; rfl
  refine ⟨by rw [e, List.map_append, ← h.1]; rfl, fun x hx => ?_⟩
  rw [e] at hx
  rcases List.mem_append.1 hx with hx | hx
  · exact h.2 x hx
  · simp at hx; subst hx; exact hs
theorem TakenAt.len {l : List UInt8} {i m : Nat} {R : List UInt8} (h : TakenAt l i m R) (hm : i + m ≤ l.length) : R.length = m := by
  rw [h.1]; simp; omega
theorem RefAt.test {l : List UInt8} {k : Nat} {OUT : List (List UInt8)} {prev : Bool} (h : RefAt l k OUT prev) (hk : k ≤ l.length) : prev = decide (0 < k ∧ small (l.getD (k - 1) 0) ≠ 0) := by
  rcases Nat.eq_zero_or_pos k with h0 | h0
  · rw [h.2.1 h0, decide_eq_false (by omega)]
  · have hlt : k - 1 < l.length := by omega
    rw [h.2.2.1 (l.getD (k - 1) 0) h0 (by rw [List.getElem?_eq_getElem hlt]; simp [List.getD, List.getElem?_eq_getElem hlt])]
    simp [h0]
end Go.Proofs.Ytakokckokchacaa
namespace Go.Proofs.Ytakokckokchacaa
set_option linter.unusedVariables false
def RowOk (t : List UInt8) : Prop := ∀ c ∈ t, small c ≠ 0 ∧ small c = c
def WordOk (t : List UInt8) : Prop := 1 ≤ t.length ∧ t.length ≤ 24 ∧ RowOk t
end Go.Proofs.Ytakokckokchacaa

/-
  The groups of a log, by frames. Condition: the log's weight is below 10^11.
-/
import Derived.Test.YtlbdhdocagahpaaRecA
namespace Go.Proofs.Ytlbdhdocagahpaa
open Go.RowKit
set_option linter.unusedVariables false
set_option maxRecDepth 20000
variable {B : Nat} {w0 : World} {F : List Ch} {A : Option Addr} {n c : Nat}
def natv (l : List Nat) : List Value := l.map fun (n : Nat) => Value.int .i64 (n : Int)
@[simp] theorem natv_append (l k : List Nat) : natv (l ++ k) = natv l ++ natv k := by simp [natv]
@[simp] theorem natv_length (l : List Nat) : (natv l).length = l.length := by simp [natv]
theorem natv_one (l : List Nat) : ∀ u ∈ natv l, u.oneCell' = true := by
  intro u hu; obtain ⟨b, _, rfl⟩ := List.mem_map.1 hu; rfl
/-- groups of parts of such sizes, cnt parts of hv bytes together at hand -/
def grpS (S : Nat) : Nat → Nat → List Nat → List Nat
  | cnt, _, [] => [cnt]
  | cnt, hv, n :: l => if hv + n ≤ S then grpS S (cnt + 1) (hv + n) l else cnt :: grpS S 1 n l
def groups (S : Nat) : List Nat → List Nat
  | [] => []
  | n :: l => grpS S 1 n l
def lens (b : Bool) (L : List RecC) : List Nat := L.map fun x => (recB b x).length
theorem lens_length (b : Bool) (L : List RecC) : (lens b L).length = L.length := by simp [lens]
theorem lens_drop {b : Bool} {L : List RecC} {k : Nat} (h : k < L.length) : (lens b L).drop k = (recB b (recAt L k)).length :: (lens b L).drop (k + 1) := by
  rw [drop_getD (l := lens b L) (by rw [lens_length]; exact h) 0]
  congr 1
  unfold recAt lens
  simp only [List.getD_eq_getElem?_getD, List.getElem?_map, List.getElem?_eq_getElem h]
  rfl
theorem grpS_go {S cnt hv n : Nat} {l : List Nat} (h : hv + n ≤ S) : grpS S cnt hv (n :: l) = grpS S (cnt + 1) (hv + n) l := by rw [grpS, if_pos h]
theorem grpS_new {S cnt hv n : Nat} {l : List Nat} (h : ¬ hv + n ≤ S) : grpS S cnt hv (n :: l) = cnt :: groups S (n :: l) := by rw [grpS, if_neg h]; rfl
theorem grpS_nil {S cnt hv : Nat} : grpS S cnt hv [] = cnt :: groups S [] := rfl
theorem Does.forget {P : Program} {B : Nat} {w0 : World} {f : FuncId} {args : List Value} {F : List Ch} {n : Nat} {xs : List Value} {e : TypeId} (h : Does P B w0 f args F (fun r L => ∃ A' c', r = .slice A' n c' ∧ L = .own e 1 A' n c' xs :: F)) : Does P B w0 f args F (fun r L => ∃ A' c', r = .slice A' n c' ∧ L = F) := fun w hw =>
  (h w hw).mono fun e w' ⟨v, L', he, ⟨A', c', hr, hL⟩, hs⟩ => by subst hL; exact ⟨v, F, he, ⟨A', c', hr, rfl⟩, hs.tail⟩
theorem groups_d (size : Int) (b : Bool) (L : List RecC) (hb : Bor B w0 F 4 (.slice A L.length c) L.length (recs L)) (hx : ∀ x ∈ L, x.1 < 18446744073709551616) (hw : wsum L ≤ 1000000000) (S : Nat) (hS : (S : Int) = max 1 size) (hS2 : S ≤ 9223372036854775807) :
    Does Try.prog B w0 22 [.int .i64 size, .bool b, .slice A L.length c] F (fun r K => ∃ A' c', r = .slice A' (groups S (lens b L)).length c' ∧ K = .own 3 1 A' (groups S (lens b L)).length c' (natv (groups S (lens b L))) :: F) := by
  have hlw := len_wsum L
  have hll := lens_length b L
  refine fn_walk Try.func22 49 rfl rfl rfl [(0, .int .i64 size), (1, .bool b), (2, .slice A L.length c)] ⟨⟨rfl, rfl⟩, ⟨rfl, rfl⟩, ⟨rfl, rfl⟩, trivial⟩ ?_
  refine vc_seq ?_
  refine vc_region ?_
  refine vl_det (det_assign rfl) rfl ?_
  refine vl_end [(0, _), (1, _), (2, _)] ⟨rfl, rfl, rfl, trivial⟩ ?_
  refine then_next ?_
  refine vc_seq ?_
  refine vc_nil_row 3 1 none ?_
  refine vc_region ?_
  refine vl_det (det_assign rfl) rfl ?_
  refine vl_end [(0, _), (1, _), (2, _), (7, _)] ⟨rfl, rfl, rfl, rfl, trivial⟩ ?_
  refine then_next ?_
  refine vc_seq ?_
  refine vc_region ?_
  refine vl_det (det_assign rfl) rfl ?_
  refine vl_end [(0, _), (1, _), (2, _), (7, _), (8, _)] ⟨rfl, rfl, rfl, rfl, rfl, trivial⟩ ?_
  refine then_next ?_
  refine vc_seq ?_
  refine vc_seq ?_
  refine vc_region ?_
  refine vl_det (det_move rfl) rfl ?_
  refine vl_det (det_len_sl Try.underlying22 rfl) rfl ?_
  refine vl_det (det_move rfl) rfl ?_
  refine vl_end [(0, _), (1, _), (7, _), (8, _), (12, _), (13, _), (14, _)] ⟨rfl, rfl, rfl, rfl, rfl, rfl, rfl, trivial⟩ ?_
  refine then_next ?_
  refine vc_block ?_
  refine vc_loopJ (fun zf zL zm => ∃ (k : Nat) (o : List Nat) (hv : Nat) (A7 : Option Addr) (c7 : Nat), (k ≤ L.length ∧ hv ≤ 2 * wsum (L.take k) ∧ o.length ≤ k ∧ ((k = 0 ∧ o = []) ∨ (∃ op cnt, o = op ++ [cnt] ∧ cnt ≤ k ∧ groups S (lens b L) = op ++ grpS S cnt hv ((lens b L).drop k)))) ∧ L.length - k = zm ∧ Sub zf [(0, .int .i64 size), (1, .bool b), (7, .slice A7 o.length c7), (8, .int .i64 hv), (12, .slice A L.length c), (13, .int .i64 L.length), (14, .int .i64 k)] ∧ Wk zL (.own 3 1 A7 o.length c7 (natv o) :: F)) _ ⟨0, [], 0, none, 0, ⟨Nat.zero_le _, Nat.zero_le _, Nat.le_refl _, .inl ⟨rfl, rfl⟩⟩, rfl, ⟨(by first | rfl | exact int_to (by omega) | exact sl_to (by omega)), (by first | rfl | exact int_to (by omega) | exact sl_to (by omega)), (by first | rfl | exact int_to (by omega) | exact sl_to (by omega)), (by first | rfl | exact int_to (by omega) | exact sl_to (by omega)), (by first | rfl | exact int_to (by omega) | exact sl_to (by omega)), (by first | rfl | exact int_to (by omega) | exact sl_to (by omega)), (by first | rfl | exact int_to (by omega) | exact sl_to (by omega)), trivial⟩, wk_own rfl rfl (.refl _)⟩ ?_
  rintro _ _ _ ⟨k, o, hv, A7, c7, ⟨hk, hhv, hol, hG⟩, rfl, hs, hp⟩
  refine vc_weaken _ hs (vc_wk hp ?_)
  clear hs hp
  refine vc_seq ?_
  refine vc_region ?_
  refine vl_det (det_lss rfl rfl) rfl ?_
  refine vl_end [(0, _), (1, _), (7, _), (8, _), (12, _), (13, _), (14, _), (15, _)] ⟨rfl, rfl, rfl, rfl, rfl, rfl, rfl, rfl, trivial⟩ ?_
  refine then_next ?_
  refine vc_seq ?_
  refine vc_decideU rfl (fun h15 => ?_) (fun h15 => ?_)
  · skip
    have hxk := recAt_lt hx (k := k) (by omega)
    have hwk := w_le (L := L) (k := k) (by omega)
    have hrb := recB_len (b := b) hxk (by omega)
    have hwt := wsum_take (L := L) (k := k) (by omega)
    have hwl := wsum_le L (k + 1)
    have hone := rec_one (recAt L k)
    have hld := lens_drop (b := b) (L := L) (k := k) (by omega)
    obtain ⟨q, hq⟩ : ∃ q, q = (recB b (recAt L k)).length := ⟨_, rfl⟩
    rw [← hq] at hrb hld
    refine vc_skip ?_
    refine then_next ?_
    refine vc_seq ?_
    refine vc_block ?_
    refine vc_seq ?_
    refine vc_region ?_
    refine vl_det (det_indexAddr (i := k) (size := 4) Try.underlying22 (by kernel_rfl) rfl rfl rfl (by omega) (by first | (exact Bor.own (by repeat (first | exact List.Mem.head _ | apply List.Mem.tail))) | (repeat (first | assumption | apply Bor.cons)))) rfl ?_
    refine vl_det (det_load_rowa 4 (by kernel_rfl) rfl (by first | (exact Bor.own (by repeat (first | exact List.Mem.head _ | apply List.Mem.tail))) | (repeat (first | assumption | apply Bor.cons))) (by omega) (RecC.cells (recAt L k)) (rec_cells (by omega)) rfl) rfl ?_
    refine vl_eff (eff_alloc_z (zv := (.agg #[.int .u64 0, .int .u8 0, .string ⟨#[]⟩, .string ⟨#[]⟩])) (by kernel_rfl) rfl) rfl ?_
    rintro _ _ ⟨g10, rfl, rfl⟩
    refine vl_eff0 (eff_store_whole 4 (by kernel_rfl) rfl rfl (by first | exact bv_one _ | exact strs_one _ | exact ints_one _ _ | (simp; done) | (simp [Value.oneCell']; done) | assumption) (by repeat (first | exact .hd | apply Sel.tl)) (by first | rfl | (simp; omega) | (simp [*]; done)) (by first | rfl | (simp; omega) | (simp [*]; done))) ?_
    rintro _ _ rfl
    refine vl_end [(0, _), (1, _), (7, _), (8, _), (10, _), (12, _), (13, _), (14, _)] ⟨rfl, rfl, rfl, rfl, rfl, rfl, rfl, rfl, trivial⟩ ?_
    refine then_next ?_
    refine vc_seq ?_
    refine vc_region ?_
    refine vl_det (det_move rfl) rfl ?_
    refine vl_det (det_load_whole 4 (by kernel_rfl) rfl (by repeat (first | exact .hd | apply Sel.tl)) (by first | rfl | (simp; omega) | (simp [*]; done))) rfl ?_
    refine vl_call co33 rfl ((one_d b _ hxk (by omega)).forget) rfl ?_
    rintro _ _ ⟨A20, c20, rfl, hLL⟩
    obtain rfl := hLL.symm
    refine vl_det (det_len_sl Try.underlying32 rfl) rfl ?_
    rw [← hq]
    refine vl_det (det_assign rfl) rfl ?_
    refine vl_end [(0, _), (1, _), (7, _), (8, _), (11, _), (12, _), (13, _), (14, _)] ⟨rfl, rfl, rfl, rfl, rfl, rfl, rfl, rfl, trivial⟩ ?_
    refine then_next ?_
    refine vc_seqJ (fun zf zL => ∃ (op : List Nat) (cnt hv2 : Nat) (A8 : Option Addr) (c8 : Nat), (hv2 + q ≤ 2 * wsum (L.take (k + 1)) ∧ cnt ≤ k ∧ op.length ≤ k ∧ groups S (lens b L) = op ++ grpS S (cnt + 1) (hv2 + q) ((lens b L).drop (k + 1))) ∧ Sub zf [(0, .int .i64 size), (1, .bool b), (7, .slice A8 (op.length + 1) c8), (8, .int .i64 hv2), (11, .int .i64 q), (12, .slice A L.length c), (13, .int .i64 L.length), (14, .int .i64 k)] ∧ Wk zL (.own 3 1 A8 (op.length + 1) c8 (natv op ++ [.int .i64 cnt]) :: F)) ?_ ?_
    · skip
      refine vc_seq ?_
      refine vc_region ?_
      refine vl_cut 11 32 [(0, _), (1, _), (7, _), (8, _), (11, _), (12, _), (13, _), (14, _)] ((o.length : Int) = 0 ∨ max 1 size < (hv : Int) + q) ⟨rfl, rfl, rfl, rfl, rfl, rfl, rfl, rfl, trivial⟩ ?_ ?_
      · skip
        refine vl_det (det_move rfl) rfl ?_
        refine vl_det (det_len_sl Try.underlying37 rfl) rfl ?_
        refine vl_det (det_eql rfl rfl) rfl ?_
        refine vl_det (det_move rfl) rfl ?_
        refine vl_guardn rfl rfl rfl (fun h25 => ?_) (fun h25 => ?_)
        · skip
          refine vl_det (det_move rfl) rfl ?_
          refine vl_guard_t rfl rfl ?_
          refine vl_det (det_move rfl) rfl ?_
          refine vl_guard_t rfl rfl ?_
          refine vl_det (det_add rfl rfl (w_i64 (by omega) (by omega))) rfl ?_
          refine vl_guard_t rfl rfl ?_
          refine vl_det (det_move rfl) rfl ?_
          refine vl_guard_t rfl rfl ?_
          refine vl_det (det_max rfl rfl) rfl ?_
          refine vl_guard_t rfl rfl ?_
          refine vl_det (det_gtr rfl rfl) rfl ?_
          refine vl_det (det_pick_f rfl rfl) rfl ?_
          exact vl_cut_end ⟨rfl, rfl, rfl, rfl, rfl, rfl, rfl, rfl, trivial⟩ (by first | rfl | exact bool_to_t (by first | omega | simp_all) | exact bool_to_f (by first | omega | simp_all) | exact bool_to (by first | omega | simp_all) | exact bool_to_b (by first | omega | simp_all))
        · skip
          refine vl_guard_f rfl rfl rfl rfl ?_
          refine vl_guard_f rfl rfl rfl rfl ?_
          refine vl_guard_f rfl rfl rfl rfl ?_
          refine vl_guard_f rfl rfl rfl rfl ?_
          refine vl_guard_f rfl rfl rfl rfl ?_
          refine vl_det (det_pick_t rfl rfl) rfl ?_
          exact vl_cut_end ⟨rfl, rfl, rfl, rfl, rfl, rfl, rfl, rfl, trivial⟩ (by first | rfl | exact bool_to_t (by first | omega | simp_all) | exact bool_to_f (by first | omega | simp_all) | exact bool_to (by first | omega | simp_all) | exact bool_to_b (by first | omega | simp_all))
      · skip
        refine vl_end [(0, _), (1, _), (7, _), (8, _), (11, _), (12, _), (13, _), (14, _), (32, _)] ⟨rfl, rfl, rfl, rfl, rfl, rfl, rfl, rfl, rfl, trivial⟩ ?_
        refine then_next ?_
        refine vc_decideU rfl (fun h32 => ?_) (fun h32 => ?_)
        · skip
          refine vc_seq ?_
          refine vc_region ?_
          refine vl_det (det_move rfl) rfl ?_
          refine vl_push slT37 rfl rfl rfl rfl rfl (fun _ => rfl) (by repeat (first | exact .hd | apply Sel.tl)) (by omega) (by omega) ?_
          intro _ A35 c35
          refine vl_det (det_assign rfl) rfl ?_
          refine vl_end [(0, _), (1, _), (7, _), (11, _), (12, _), (13, _), (14, _)] ⟨rfl, rfl, rfl, rfl, rfl, rfl, rfl, trivial⟩ ?_
          refine then_next ?_
          refine vc_region ?_
          refine vl_det (det_assign rfl) rfl ?_
          refine vl_end [(0, _), (1, _), (7, _), (8, _), (11, _), (12, _), (13, _), (14, _)] ⟨rfl, rfl, rfl, rfl, rfl, rfl, rfl, rfl, trivial⟩ ?_
          have hG2 : groups S (lens b L) = o ++ grpS S (0 + 1) (0 + q) ((lens b L).drop (k + 1)) := by
            rcases hG with ⟨h1, h2⟩ | ⟨op, cnt, h1, h2, h3⟩
            · subst h1; subst h2
              have : lens b L = q :: (lens b L).drop 1 := by rw [← hld]; rfl
              conv => lhs; rw [this]
              simp [groups]
            · rw [h3, hld, grpS_new (by have : o.length ≠ 0 := by simp [h1]
                                        omega), h1]
              simp [groups]
          exact in_join ⟨o, 0, 0, A35, c35, ⟨by omega, Nat.zero_le _, hol, hG2⟩, ⟨(by first | rfl | exact int_to (by omega) | exact sl_to (by omega)), (by first | rfl | exact int_to (by omega) | exact sl_to (by omega)), (by first | rfl | exact int_to (by omega) | exact sl_to (by omega)), (by first | rfl | exact int_to (by omega) | exact sl_to (by omega)), (by first | rfl | exact int_to (by omega) | exact sl_to (by omega)), (by first | rfl | exact int_to (by omega) | exact sl_to (by omega)), (by first | rfl | exact int_to (by omega) | exact sl_to (by omega)), (by first | rfl | exact int_to (by omega) | exact sl_to (by omega)), trivial⟩, .skip (.refl _)⟩
        · skip
          obtain ⟨op, cnt, ho, hcnt, hG3⟩ : ∃ op cnt, o = op ++ [cnt] ∧ cnt ≤ k ∧ groups S (lens b L) = op ++ grpS S cnt hv ((lens b L).drop k) := by
            rcases hG with ⟨h1, h2⟩ | h
            · subst h2; exact absurd (Or.inl rfl) h32
            · exact h
          rw [hld, grpS_go (by omega)] at hG3
          have holen : o.length = op.length + 1 := by rw [ho]; simp
          refine vc_skip ?_
          exact in_join ⟨op, cnt, hv, A7, c7, ⟨by omega, hcnt, by omega, hG3⟩, ⟨(by first | rfl | exact int_to (by omega) | exact sl_to (by omega)), (by first | rfl | exact int_to (by omega) | exact sl_to (by omega)), (by first | rfl | exact int_to (by omega) | exact sl_to (by omega)), (by first | rfl | exact int_to (by omega) | exact sl_to (by omega)), (by first | rfl | exact int_to (by omega) | exact sl_to (by omega)), (by first | rfl | exact int_to (by omega) | exact sl_to (by omega)), (by first | rfl | exact int_to (by omega) | exact sl_to (by omega)), (by first | rfl | exact int_to (by omega) | exact sl_to (by omega)), trivial⟩, .skip (wk_own holen (by subst ho; simp [natv]) (.refl _))⟩
    · rintro _ _ ⟨op, cnt, hv2, A8, c8, ⟨hh2, hcn, hop, hGG⟩, hs, hp⟩
      refine vc_weaken _ hs (vc_wk hp ?_)
      clear hs hp
      refine vc_seq ?_
      refine vc_region ?_
      refine vl_det (det_move rfl) rfl ?_
      refine vl_det (det_move rfl) rfl ?_
      refine vl_det (det_len_sl Try.underlying37 rfl) rfl ?_
      refine vl_det (det_sub rfl rfl (r := (op.length : Int)) ((w_i64 (by omega) (by omega)).trans (by omega))) rfl ?_
      refine vl_det (det_indexAddr (i := op.length) (size := 1) Try.underlying37 (by kernel_rfl) rfl rfl rfl (by omega) (by first | (exact Bor.own (by repeat (first | exact List.Mem.head _ | apply List.Mem.tail))) | (repeat (first | assumption | apply Bor.cons)))) rfl ?_
      refine vl_det (det_load_row (v := .int .i64 cnt) (by kernel_rfl) rfl (by first | (exact Bor.own (by repeat (first | exact List.Mem.head _ | apply List.Mem.tail))) | (repeat (first | assumption | apply Bor.cons))) (by omega) (by simp [natv])) rfl ?_
      refine vl_det (det_add rfl rfl (w_i64 (by omega) (by omega))) rfl ?_
      refine vl_det (det_indexAddr (i := op.length) (size := 1) Try.underlying37 (by kernel_rfl) rfl rfl rfl (by omega) (by first | (exact Bor.own (by repeat (first | exact List.Mem.head _ | apply List.Mem.tail))) | (repeat (first | assumption | apply Bor.cons)))) rfl ?_
      refine vl_eff0 (eff_store_row (by kernel_rfl) rfl rfl rfl (by repeat (first | exact .hd | apply Sel.tl)) (by first | omega | (simp; done) | (simp; omega))) ?_
      rintro _ _ rfl
      refine vl_end [(0, _), (1, _), (7, _), (8, _), (11, _), (12, _), (13, _), (14, _)] ⟨rfl, rfl, rfl, rfl, rfl, rfl, rfl, rfl, trivial⟩ ?_
      refine then_next ?_
      refine vc_region ?_
      refine vl_det (det_move rfl) rfl ?_
      refine vl_det (det_move rfl) rfl ?_
      refine vl_det (det_add rfl rfl (w_i64 (by omega) (by omega))) rfl ?_
      refine vl_det (det_assign rfl) rfl ?_
      refine vl_end [(0, _), (1, _), (7, _), (8, _), (12, _), (13, _), (14, _)] ⟨rfl, rfl, rfl, rfl, rfl, rfl, rfl, trivial⟩ ?_
      refine in_normal ?_
      refine then_next ?_
      refine vc_region ?_
      refine vl_det (det_add rfl rfl (w_i64 (by omega) (by omega))) rfl ?_
      refine vl_det (det_move rfl) rfl ?_
      refine vl_end [(0, _), (1, _), (7, _), (8, _), (12, _), (13, _), (14, _)] ⟨rfl, rfl, rfl, rfl, rfl, rfl, rfl, trivial⟩ ?_
      have el : op.length + 1 = (op ++ [cnt + 1]).length := by simp
      rw [el]
      refine in_loop_ ⟨_, by omega, k + 1, op ++ [cnt + 1], hv2 + q, A8, c8, ⟨by omega, by omega, by simp; omega, .inr ⟨op, cnt + 1, rfl, by omega, hGG⟩⟩, rfl, ⟨(by first | rfl | exact int_to (by omega) | exact sl_to (by omega)), (by first | rfl | exact int_to (by omega) | exact sl_to (by omega)), (by first | rfl | exact int_to (by omega) | exact sl_to (by omega)), (by first | rfl | exact int_to (by omega) | exact sl_to (by omega)), (by first | rfl | exact int_to (by omega) | exact sl_to (by omega)), (by first | rfl | exact int_to (by omega) | exact sl_to (by omega)), (by first | rfl | exact int_to (by omega) | exact sl_to (by omega)), trivial⟩, wk_own rfl (by rw [Nat.mul_one, set_mid _ _ _ _ (by simp)]; simp [natv]) (.refl _)⟩
  · skip
    refine vc_exit ?_
    refine then_exit ?_
    refine loop_exit ?_
    refine in_eq ?_
    refine then_next ?_
    refine vc_seq ?_
    refine vc_region ?_
    refine vl_det (det_move rfl) rfl ?_
    refine vl_det (det_assign rfl) rfl ?_
    refine vl_end [(6, _)] ⟨rfl, trivial⟩ ?_
    refine then_next ?_
    refine vc_ret ?_
    have hkl : k = L.length := by omega
    have hoG : o = groups S (lens b L) := by
      rcases hG with ⟨h1, h2⟩ | ⟨op, cnt, h1, h2, h3⟩
      · have : lens b L = [] := List.eq_nil_of_length_eq_zero (by omega)
        rw [this, h2]; rfl
      · rw [h3, List.drop_of_length_le (by omega), h1]; rfl
    rw [← hoG]
    refine ret1 rfl rfl ?_
    exact ⟨A7, c7, rfl, rfl⟩
theorem rgroups_d (size : Int) (b : Bool) (L : List RecC) (hb : Bor B w0 F 4 (.slice A L.length c) L.length (recs L)) (hx : ∀ x ∈ L, x.1 < 18446744073709551616) (hw : wsum L ≤ 1000000000) (S : Nat) (hS : (S : Int) = max 1 size) (hS2 : S ≤ 9223372036854775807) :
    Does Try.prog B w0 23 [.int .i64 size, .bool b, .slice A L.length c] F (fun r K => ∃ A' c', r = .slice A' (groups S (lens b L)).length c' ∧ K = .own 3 1 A' (groups S (lens b L)).length c' (natv (groups S (lens b L))) :: F) := by
  have hlw := len_wsum L
  have hll := lens_length b L
  refine fn_walk Try.func23 66 rfl rfl rfl [(0, .int .i64 size), (1, .bool b), (2, .slice A L.length c)] ⟨⟨rfl, rfl⟩, ⟨rfl, rfl⟩, ⟨rfl, rfl⟩, trivial⟩ ?_
  refine vc_seq ?_
  refine vc_region ?_
  refine vl_det (det_assign rfl) rfl ?_
  refine vl_end [(0, _), (1, _), (2, _)] ⟨rfl, rfl, rfl, trivial⟩ ?_
  refine then_next ?_
  refine vc_seqJ (fun zf zL => Sub zf [(0, .int .i64 S), (1, .bool b), (2, .slice A L.length c)] ∧ Wk zL (F)) ?_ ?_
  · skip
    refine vc_seq ?_
    refine vc_region ?_
    refine vl_det (det_move rfl) rfl ?_
    refine vl_det (det_lss rfl rfl) rfl ?_
    refine vl_end [(0, _), (1, _), (2, _), (12, _)] ⟨rfl, rfl, rfl, rfl, trivial⟩ ?_
    refine then_next ?_
    refine vc_decideU rfl (fun h12 => ?_) (fun h12 => ?_)
    · skip
      refine vc_region ?_
      refine vl_det (det_assign rfl) rfl ?_
      refine vl_end [(0, _), (1, _), (2, _)] ⟨rfl, rfl, rfl, trivial⟩ ?_
      exact in_join ⟨⟨(by first | rfl | exact int_to (by omega) | exact sl_to (by omega)), (by first | rfl | exact int_to (by omega) | exact sl_to (by omega)), (by first | rfl | exact int_to (by omega) | exact sl_to (by omega)), trivial⟩, .refl _⟩
    · skip
      refine vc_skip ?_
      exact in_join ⟨⟨(by first | rfl | exact int_to (by omega) | exact sl_to (by omega)), (by first | rfl | exact int_to (by omega) | exact sl_to (by omega)), (by first | rfl | exact int_to (by omega) | exact sl_to (by omega)), trivial⟩, .refl _⟩
  · rintro _ _ ⟨hs, hp⟩
    refine vc_weaken _ hs (vc_wk hp ?_)
    clear hs hp
    refine vc_seq ?_
    refine vc_nil_row 3 1 none ?_
    refine vc_region ?_
    refine vl_det (det_assign rfl) rfl ?_
    refine vl_end [(0, _), (1, _), (2, _), (7, _)] ⟨rfl, rfl, rfl, rfl, trivial⟩ ?_
    refine then_next ?_
    refine vc_seq ?_
    refine vc_region ?_
    refine vl_det (det_assign rfl) rfl ?_
    refine vl_end [(0, _), (1, _), (2, _), (7, _), (8, _)] ⟨rfl, rfl, rfl, rfl, rfl, trivial⟩ ?_
    refine then_next ?_
    refine vc_seq ?_
    refine vc_block ?_
    refine vc_loopJ (fun zf zL zm => ∃ (i : Nat) (o : List Nat) (A7 : Option Addr) (c7 : Nat), (i ≤ L.length ∧ o.length ≤ i ∧ groups S (lens b L) = o ++ groups S ((lens b L).drop i)) ∧ L.length - i = zm ∧ Sub zf [(0, .int .i64 S), (1, .bool b), (2, .slice A L.length c), (7, .slice A7 o.length c7), (8, .int .i64 i)] ∧ Wk zL (.own 3 1 A7 o.length c7 (natv o) :: F)) _ ⟨0, [], none, 0, ⟨Nat.zero_le _, Nat.le_refl _, rfl⟩, rfl, ⟨(by first | rfl | exact int_to (by omega) | exact sl_to (by omega)), (by first | rfl | exact int_to (by omega) | exact sl_to (by omega)), (by first | rfl | exact int_to (by omega) | exact sl_to (by omega)), (by first | rfl | exact int_to (by omega) | exact sl_to (by omega)), (by first | rfl | exact int_to (by omega) | exact sl_to (by omega)), trivial⟩, wk_own rfl rfl (.refl _)⟩ ?_
    rintro _ _ _ ⟨i, o, A7, c7, ⟨hi, hol, hG⟩, rfl, hs, hp⟩
    refine vc_weaken _ hs (vc_wk hp ?_)
    clear hs hp
    refine vc_seq ?_
    refine vc_seq ?_
    refine vc_region ?_
    refine vl_det (det_move rfl) rfl ?_
    refine vl_det (det_move rfl) rfl ?_
    refine vl_det (det_len_sl Try.underlying22 rfl) rfl ?_
    refine vl_det (det_lss rfl rfl) rfl ?_
    refine vl_end [(0, _), (1, _), (2, _), (7, _), (8, _), (16, _)] ⟨rfl, rfl, rfl, rfl, rfl, rfl, trivial⟩ ?_
    refine then_next ?_
    refine vc_decideU rfl (fun h16 => ?_) (fun h16 => ?_)
    · skip
      have hxk := recAt_lt hx (k := i) (by omega)
      have hwk := w_le (L := L) (k := i) (by omega)
      have hrb := recB_len (b := b) hxk (by omega)
      have hone := rec_one (recAt L i)
      have hld := lens_drop (b := b) (L := L) (k := i) (by omega)
      refine vc_skip ?_
      refine then_next ?_
      refine vc_block ?_
      refine vc_seq ?_
      refine vc_region ?_
      refine vl_det (det_move rfl) rfl ?_
      refine vl_det (det_move rfl) rfl ?_
      refine vl_det (det_move rfl) rfl ?_
      refine vl_det (det_indexAddr (i := i) (size := 4) Try.underlying22 (by kernel_rfl) rfl rfl rfl (by omega) (by first | (exact Bor.own (by repeat (first | exact List.Mem.head _ | apply List.Mem.tail))) | (repeat (first | assumption | apply Bor.cons)))) rfl ?_
      refine vl_det (det_load_rowa 4 (by kernel_rfl) rfl (by first | (exact Bor.own (by repeat (first | exact List.Mem.head _ | apply List.Mem.tail))) | (repeat (first | assumption | apply Bor.cons))) (by omega) (RecC.cells (recAt L i)) (rec_cells (by omega)) rfl) rfl ?_
      refine vl_call co34 rfl ((rone_d b _ hxk (by omega)).forget) rfl ?_
      rintro _ _ ⟨A22, c22, rfl, hLL⟩
      obtain rfl := hLL.symm
      refine vl_det (det_len_sl Try.underlying32 rfl) rfl ?_
      refine vl_det (det_assign rfl) rfl ?_
      refine vl_det (det_assign rfl) rfl ?_
      refine vl_end [(0, _), (1, _), (2, _), (7, _), (8, _), (9, _), (10, _)] ⟨rfl, rfl, rfl, rfl, rfl, rfl, rfl, trivial⟩ ?_
      refine then_next ?_
      refine vc_seq ?_
      refine vc_block ?_
      refine vc_loopJ (fun zf zL zm => ∃ (n sum : Nat), (1 ≤ n ∧ i + n ≤ L.length ∧ sum ≤ 2 * wsum (L.take (i + n)) ∧ groups S (lens b L) = o ++ grpS S n sum ((lens b L).drop (i + n))) ∧ L.length - n = zm ∧ Sub zf [(0, .int .i64 S), (1, .bool b), (2, .slice A L.length c), (7, .slice A7 o.length c7), (8, .int .i64 i), (9, .int .i64 n), (10, .int .i64 sum)] ∧ Wk zL (.own 3 1 A7 o.length c7 (natv o) :: F)) _ ⟨1, (recB b (recAt L i)).length, ⟨Nat.le_refl _, by omega, by have := wsum_take (L := L) (k := i) (by omega); omega, by rw [hG, hld]; rfl⟩, rfl, ⟨(by first | rfl | exact int_to (by omega) | exact sl_to (by omega)), (by first | rfl | exact int_to (by omega) | exact sl_to (by omega)), (by first | rfl | exact int_to (by omega) | exact sl_to (by omega)), (by first | rfl | exact int_to (by omega) | exact sl_to (by omega)), (by first | rfl | exact int_to (by omega) | exact sl_to (by omega)), (by first | rfl | exact int_to (by omega) | exact sl_to (by omega)), (by first | rfl | exact int_to (by omega) | exact sl_to (by omega)), trivial⟩, .refl _⟩ ?_
      rintro _ _ _ ⟨n, sum, ⟨hn1, hin, hsum, hGn⟩, rfl, hs, hp⟩
      refine vc_weaken _ hs (vc_wk hp ?_)
      clear hs hp
      have hwl := wsum_le L (i + n)
      have hxn := fun (h : i + n < L.length) => recAt_lt hx (k := i + n) h
      have hwn := fun (h : i + n < L.length) => w_le (L := L) (k := i + n) h
      have hrn := fun (h : i + n < L.length) => recB_len (b := b) (hxn h) (Nat.le_trans (hwn h) (by omega))
      have hldn := fun (h : i + n < L.length) => lens_drop (b := b) (L := L) (k := i + n) h
      have hwtn := fun (h : i + n < L.length) => wsum_take (L := L) (k := i + n) h
      have honen := rec_one (recAt L (i + n))
      refine vc_seq ?_
      refine vc_seq ?_
      refine vc_region ?_
      refine vl_cut 21 44 [(0, _), (1, _), (2, _), (7, _), (8, _), (9, _), (10, _)] ((i : Int) + n < L.length ∧ (sum : Int) + (recB b (recAt L (i + n))).length ≤ S) ⟨rfl, rfl, rfl, rfl, rfl, rfl, rfl, trivial⟩ ?_ ?_
      · skip
        refine vl_det (det_move rfl) rfl ?_
        refine vl_det (det_move rfl) rfl ?_
        refine vl_det (det_add rfl rfl (w_i64 (by omega) (by omega))) rfl ?_
        refine vl_det (det_move rfl) rfl ?_
        refine vl_det (det_len_sl Try.underlying22 rfl) rfl ?_
        refine vl_det (det_lss rfl rfl) rfl ?_
        refine vl_det (det_move rfl) rfl ?_
        refine vl_guardp rfl rfl rfl (fun h30 => ?_) (fun h30 => ?_)
        · skip
          have hrn' := hrn (by omega)
          have hwn' := hwn (by omega)
          refine vl_det (det_move rfl) rfl ?_
          refine vl_guard_t rfl rfl ?_
          refine vl_det (det_move rfl) rfl ?_
          refine vl_guard_t rfl rfl ?_
          refine vl_det (det_move rfl) rfl ?_
          refine vl_guard_t rfl rfl ?_
          refine vl_det (det_move rfl) rfl ?_
          refine vl_guard_t rfl rfl ?_
          refine vl_det (det_move rfl) rfl ?_
          refine vl_guard_t rfl rfl ?_
          refine vl_det (det_add rfl rfl (w_i64 (by omega) (by omega))) rfl ?_
          refine vl_guard_t rfl rfl ?_
          refine vl_det (det_indexAddr (i := i + n) (size := 4) Try.underlying22 (by kernel_rfl) rfl rfl rfl (by omega) (by first | (exact Bor.own (by repeat (first | exact List.Mem.head _ | apply List.Mem.tail))) | (repeat (first | assumption | apply Bor.cons)))) rfl ?_
          refine vl_guard_t rfl rfl ?_
          refine vl_det (det_load_rowa 4 (by kernel_rfl) rfl (by first | (exact Bor.own (by repeat (first | exact List.Mem.head _ | apply List.Mem.tail))) | (repeat (first | assumption | apply Bor.cons))) (by omega) (RecC.cells (recAt L (i + n))) (rec_cells (by omega)) rfl) rfl ?_
          refine vl_guard_t rfl rfl ?_
          refine vl_call co34 rfl ((rone_d b _ (hxn (by omega)) (by have := hwn (by omega); omega)).forget) rfl ?_
          rintro _ _ ⟨A39, c39, rfl, hLL⟩
          obtain rfl := hLL.symm
          refine vl_guard_t rfl rfl ?_
          refine vl_det (det_len_sl Try.underlying32 rfl) rfl ?_
          refine vl_guard_t rfl rfl ?_
          refine vl_det (det_add rfl rfl (w_i64 (by omega) (by omega))) rfl ?_
          refine vl_guard_t rfl rfl ?_
          refine vl_det (det_move rfl) rfl ?_
          refine vl_guard_t rfl rfl ?_
          refine vl_det (det_leq rfl rfl) rfl ?_
          refine vl_det (det_pick_t rfl rfl) rfl ?_
          exact vl_cut_end ⟨rfl, rfl, rfl, rfl, rfl, rfl, rfl, trivial⟩ (by first | rfl | exact bool_to_t (by first | omega | simp_all) | exact bool_to_f (by first | omega | simp_all) | exact bool_to (by first | omega | simp_all) | exact bool_to_b (by first | omega | simp_all))
        · skip
          refine vl_guard_f rfl rfl rfl rfl ?_
          refine vl_guard_f rfl rfl rfl rfl ?_
          refine vl_guard_f rfl rfl rfl rfl ?_
          refine vl_guard_f rfl rfl rfl rfl ?_
          refine vl_guard_f rfl rfl rfl rfl ?_
          refine vl_guard_f rfl rfl rfl rfl ?_
          refine vl_guard_f rfl rfl rfl rfl ?_
          refine vl_guard_f rfl rfl rfl rfl ?_
          refine vl_guard_f rfl rfl rfl rfl ?_
          refine vl_guard_f rfl rfl rfl rfl ?_
          refine vl_guard_f rfl rfl rfl rfl ?_
          refine vl_guard_f rfl rfl rfl rfl ?_
          refine vl_det (det_pick_f rfl rfl) rfl ?_
          exact vl_cut_end ⟨rfl, rfl, rfl, rfl, rfl, rfl, rfl, trivial⟩ (by first | rfl | exact bool_to_t (by first | omega | simp_all) | exact bool_to_f (by first | omega | simp_all) | exact bool_to (by first | omega | simp_all) | exact bool_to_b (by first | omega | simp_all))
      · skip
        refine vl_end [(0, _), (1, _), (2, _), (7, _), (8, _), (9, _), (10, _), (44, _)] ⟨rfl, rfl, rfl, rfl, rfl, rfl, rfl, rfl, trivial⟩ ?_
        refine then_next ?_
        refine vc_decideU rfl (fun h44 => ?_) (fun h44 => ?_)
        · skip
          have hld' := hldn (by omega)
          have hwt' := hwtn (by omega)
          have hrn' := hrn (by omega)
          have hwn' := hwn (by omega)
          have hwl' := wsum_le L (i + n + 1)
          rw [hld', grpS_go (by omega)] at hGn
          refine vc_skip ?_
          refine then_next ?_
          refine vc_block ?_
          refine vc_seq ?_
          refine vc_region ?_
          refine vl_det (det_move rfl) rfl ?_
          refine vl_det (det_move rfl) rfl ?_
          refine vl_det (det_move rfl) rfl ?_
          refine vl_det (det_move rfl) rfl ?_
          refine vl_det (det_move rfl) rfl ?_
          refine vl_det (det_add rfl rfl (w_i64 (by omega) (by omega))) rfl ?_
          refine vl_det (det_indexAddr (i := i + n) (size := 4) Try.underlying22 (by kernel_rfl) rfl rfl rfl (by omega) (by first | (exact Bor.own (by repeat (first | exact List.Mem.head _ | apply List.Mem.tail))) | (repeat (first | assumption | apply Bor.cons)))) rfl ?_
          refine vl_det (det_load_rowa 4 (by kernel_rfl) rfl (by first | (exact Bor.own (by repeat (first | exact List.Mem.head _ | apply List.Mem.tail))) | (repeat (first | assumption | apply Bor.cons))) (by omega) (RecC.cells (recAt L (i + n))) (rec_cells (by omega)) rfl) rfl ?_
          refine vl_call co34 rfl ((rone_d b _ (hxn (by omega)) (by omega)).forget) rfl ?_
          rintro _ _ ⟨A53, c53, rfl, hLL⟩
          obtain rfl := hLL.symm
          refine vl_det (det_len_sl Try.underlying32 rfl) rfl ?_
          refine vl_det (det_add rfl rfl (w_i64 (by omega) (by omega))) rfl ?_
          refine vl_det (det_assign rfl) rfl ?_
          refine vl_end [(0, _), (1, _), (2, _), (7, _), (8, _), (9, _), (10, _)] ⟨rfl, rfl, rfl, rfl, rfl, rfl, rfl, trivial⟩ ?_
          refine then_next ?_
          refine vc_region ?_
          refine vl_det (det_move rfl) rfl ?_
          refine vl_det (det_add rfl rfl (w_i64 (by omega) (by omega))) rfl ?_
          refine vl_det (det_assign rfl) rfl ?_
          refine vl_end [(0, _), (1, _), (2, _), (7, _), (8, _), (9, _), (10, _)] ⟨rfl, rfl, rfl, rfl, rfl, rfl, rfl, trivial⟩ ?_
          refine in_normal ?_
          refine in_loop_ ⟨_, by omega, n + 1, sum + (recB b (recAt L (i + n))).length, ⟨by omega, by omega, by rw [show i + (n + 1) = i + n + 1 by omega]; omega, hGn⟩, rfl, ⟨(by first | rfl | exact int_to (by omega) | exact sl_to (by omega)), (by first | rfl | exact int_to (by omega) | exact sl_to (by omega)), (by first | rfl | exact int_to (by omega) | exact sl_to (by omega)), (by first | rfl | exact int_to (by omega) | exact sl_to (by omega)), (by first | rfl | exact int_to (by omega) | exact sl_to (by omega)), (by first | rfl | exact int_to (by omega) | exact sl_to (by omega)), (by first | rfl | exact int_to (by omega) | exact sl_to (by omega)), trivial⟩, .refl _⟩
        · skip
          have hGo : groups S (lens b L) = (o ++ [n]) ++ groups S ((lens b L).drop (i + n)) := by
            rw [hGn]
            by_cases h : i + n < L.length
            · rw [hldn h, grpS_new (by have := hrn h; omega)]; simp
            · rw [List.drop_of_length_le (by omega), grpS_nil]; simp
          refine vc_exit ?_
          refine then_exit ?_
          refine loop_exit ?_
          refine in_eq ?_
          refine then_next ?_
          refine vc_seq ?_
          refine vc_region ?_
          refine vl_det (det_move rfl) rfl ?_
          refine vl_det (det_move rfl) rfl ?_
          refine vl_push slT37 rfl rfl rfl rfl rfl (fun _ => rfl) (by repeat (first | exact .hd | apply Sel.tl)) (by omega) (by omega) ?_
          intro _ A61 c61
          refine vl_det (det_assign rfl) rfl ?_
          refine vl_end [(0, _), (1, _), (2, _), (7, _), (8, _), (9, _)] ⟨rfl, rfl, rfl, rfl, rfl, rfl, trivial⟩ ?_
          refine then_next ?_
          refine vc_region ?_
          refine vl_det (det_move rfl) rfl ?_
          refine vl_det (det_move rfl) rfl ?_
          refine vl_det (det_add rfl rfl (w_i64 (by omega) (by omega))) rfl ?_
          refine vl_det (det_assign rfl) rfl ?_
          refine vl_end [(0, _), (1, _), (2, _), (7, _), (8, _)] ⟨rfl, rfl, rfl, rfl, rfl, trivial⟩ ?_
          refine in_normal ?_
          have el : o.length + 1 = (o ++ [n]).length := by simp
          rw [el]
          refine in_loop_ ⟨_, by omega, i + n, o ++ [n], A61, c61, ⟨by omega, by simp; omega, hGo⟩, rfl, ⟨(by first | rfl | exact int_to (by omega) | exact sl_to (by omega)), (by first | rfl | exact int_to (by omega) | exact sl_to (by omega)), (by first | rfl | exact int_to (by omega) | exact sl_to (by omega)), (by first | rfl | exact int_to (by omega) | exact sl_to (by omega)), (by first | rfl | exact int_to (by omega) | exact sl_to (by omega)), trivial⟩, wk_own rfl (by simp [natv]) (.refl _)⟩
    · skip
      refine vc_exit ?_
      refine then_exit ?_
      refine loop_exit ?_
      refine in_eq ?_
      refine then_next ?_
      refine vc_seq ?_
      refine vc_region ?_
      refine vl_det (det_move rfl) rfl ?_
      refine vl_det (det_assign rfl) rfl ?_
      refine vl_end [(6, _)] ⟨rfl, trivial⟩ ?_
      refine then_next ?_
      refine vc_ret ?_
      have hoG : o = groups S (lens b L) := by rw [hG, List.drop_of_length_le (by omega)]; simp [groups]
      rw [← hoG]
      refine ret1 rfl rfl ?_
      exact ⟨A7, c7, rfl, rfl⟩
theorem same9_d {A2 : Option Addr} {c2 : Nat} {l l2 : List Nat} (h1 : Bor B w0 F 1 (.slice A l.length c) l.length (natv l)) (h2 : Bor B w0 F 1 (.slice A2 l2.length c2) l2.length (natv l2)) (hl : l.length ≤ 1000000000) :
    Does Try.prog B w0 21 [.slice A l.length c, .slice A2 l2.length c2] F (fun r L => r = .bool (decide (l = l2)) ∧ L = F) := by
  refine fn_walk Try.func21 26 rfl rfl rfl [(0, .slice A l.length c), (1, .slice A2 l2.length c2)] ⟨⟨rfl, rfl⟩, ⟨rfl, rfl⟩, trivial⟩ ?_
  refine vc_seq ?_
  refine vc_region ?_
  refine vl_det (det_assign rfl) rfl ?_
  refine vl_end [(0, _), (1, _)] ⟨rfl, rfl, trivial⟩ ?_
  refine then_next ?_
  refine vc_seq ?_
  refine vc_seq ?_
  refine vc_region ?_
  refine vl_det (det_move rfl) rfl ?_
  refine vl_det (det_len_sl Try.underlying37 rfl) rfl ?_
  refine vl_det (det_move rfl) rfl ?_
  refine vl_det (det_len_sl Try.underlying37 rfl) rfl ?_
  refine vl_det (det_neq rfl rfl) rfl ?_
  refine vl_end [(0, _), (1, _), (10, _)] ⟨rfl, rfl, rfl, trivial⟩ ?_
  refine then_next ?_
  refine vc_decideU rfl (fun h10 => ?_) (fun h10 => ?_)
  · skip
    refine vc_seq ?_
    refine vc_region ?_
    refine vl_det (det_assign rfl) rfl ?_
    refine vl_end [(4, _)] ⟨rfl, trivial⟩ ?_
    refine then_next ?_
    refine vc_ret ?_
    refine then_ret ?_
    refine ret1 rfl rfl ?_
    exact ⟨by rw [decide_eq_false (fun h => by rw [h] at h10; exact h10 rfl)], rfl⟩
  · skip
    refine vc_skip ?_
    refine then_next ?_
    refine vc_seq ?_
    refine vc_seq ?_
    refine vc_region ?_
    refine vl_det (det_assign rfl) rfl ?_
    refine vl_end [(0, _), (1, _), (5, _)] ⟨rfl, rfl, rfl, trivial⟩ ?_
    refine then_next ?_
    refine vc_block ?_
    refine vc_loopJ (fun zf zL zm => ∃ (k : Nat), (k ≤ l.length ∧ l.take k = l2.take k) ∧ l.length - k = zm ∧ Sub zf [(0, .slice A l.length c), (1, .slice A2 l2.length c2), (5, .int .i64 k)] ∧ Wk zL (F)) _ ⟨0, ⟨Nat.zero_le _, rfl⟩, rfl, ⟨(by first | rfl | exact int_to (by omega) | exact sl_to (by omega)), (by first | rfl | exact int_to (by omega) | exact sl_to (by omega)), (by first | rfl | exact int_to (by omega) | exact sl_to (by omega)), trivial⟩, .refl _⟩ ?_
    rintro _ _ _ ⟨k, ⟨hk, heq⟩, rfl, hs, hp⟩
    refine vc_weaken _ hs (vc_wk hp ?_)
    clear hs hp
    refine vc_seq ?_
    refine vc_seq ?_
    refine vc_region ?_
    refine vl_det (det_move rfl) rfl ?_
    refine vl_det (det_move rfl) rfl ?_
    refine vl_det (det_len_sl Try.underlying37 rfl) rfl ?_
    refine vl_det (det_lss rfl rfl) rfl ?_
    refine vl_end [(0, _), (1, _), (5, _), (14, _)] ⟨rfl, rfl, rfl, rfl, trivial⟩ ?_
    refine then_next ?_
    refine vc_decideU rfl (fun h14 => ?_) (fun h14 => ?_)
    · skip
      refine vc_skip ?_
      refine then_next ?_
      refine vc_seq ?_
      refine vc_block ?_
      refine vc_seq ?_
      refine vq_region (by kernel_rfl) (by kernel_rfl) ?_
      refine vq_det (det_move rfl) rfl ?_
      refine vq_det (det_move rfl) rfl ?_
      refine vq_det (det_indexAddr (size := 1) Try.underlying37 (by kernel_rfl) rfl rfl rfl (by omega) (by first | (exact Bor.own (by repeat (first | exact List.Mem.head _ | apply List.Mem.tail))) | (repeat (first | assumption | apply Bor.cons)))) rfl ?_
      refine vq_det (det_load_row (v := .int .i64 (l.getD k 0 : Nat)) (by kernel_rfl) rfl (by first | (exact Bor.own (by repeat (first | exact List.Mem.head _ | apply List.Mem.tail))) | (repeat (first | assumption | apply Bor.cons))) (by omega) (by simp [natv, List.getD, List.getElem?_eq_getElem (show k < l.length by omega)])) rfl ?_
      refine vq_det (det_move rfl) rfl ?_
      refine vq_det (det_move rfl) rfl ?_
      refine vq_det (det_indexAddr (size := 1) Try.underlying37 (by kernel_rfl) rfl rfl rfl (by omega) (by first | (exact Bor.own (by repeat (first | exact List.Mem.head _ | apply List.Mem.tail))) | (repeat (first | assumption | apply Bor.cons)))) rfl ?_
      refine vq_det (det_load_row (v := .int .i64 (l2.getD k 0 : Nat)) (by kernel_rfl) rfl (by first | (exact Bor.own (by repeat (first | exact List.Mem.head _ | apply List.Mem.tail))) | (repeat (first | assumption | apply Bor.cons))) (by omega) (by simp [natv, List.getD, List.getElem?_eq_getElem (show k < l2.length by omega)])) rfl ?_
      refine vq_det (det_neq rfl rfl) rfl ?_
      refine vq_end [(0, _), (1, _), (5, _), (25, _)] ⟨rfl, rfl, rfl, rfl, trivial⟩ ?_
      refine then_next ?_
      refine vc_decideU rfl (fun h25 => ?_) (fun h25 => ?_)
      · skip
        refine vc_seq ?_
        refine vc_region ?_
        refine vl_det (det_assign rfl) rfl ?_
        refine vl_end [(4, _)] ⟨rfl, trivial⟩ ?_
        refine then_next ?_
        refine vc_ret ?_
        refine in_ret ?_
        refine then_ret ?_
        refine loop_ret ?_
        refine in_ret ?_
        refine then_ret ?_
        refine ret1 rfl rfl ?_
        exact ⟨by rw [decide_eq_false (fun h => by rw [h] at h25; exact h25 rfl)], rfl⟩
      · skip
        refine vc_skip ?_
        refine in_normal ?_
        refine then_next ?_
        refine vc_region ?_
        refine vl_det (det_move rfl) rfl ?_
        refine vl_det (det_add rfl rfl (w_i64 (by omega) (by omega))) rfl ?_
        refine vl_det (det_assign rfl) rfl ?_
        refine vl_end [(0, _), (1, _), (5, _)] ⟨rfl, rfl, rfl, trivial⟩ ?_
        refine in_loop_ ⟨_, by omega, k + 1, ⟨by omega, by rw [take_getD (by omega) 0, take_getD (by omega) 0, heq, show l.getD k 0 = l2.getD k 0 by omega]⟩, rfl, ⟨(by first | rfl | exact int_to (by omega) | exact sl_to (by omega)), (by first | rfl | exact int_to (by omega) | exact sl_to (by omega)), (by first | rfl | exact int_to (by omega) | exact sl_to (by omega)), trivial⟩, .refl _⟩
    · skip
      refine vc_exit ?_
      refine then_exit ?_
      refine loop_exit ?_
      refine in_eq ?_
      refine then_next ?_
      refine vc_seq ?_
      refine vc_region ?_
      refine vl_det (det_assign rfl) rfl ?_
      refine vl_end [(4, _)] ⟨rfl, trivial⟩ ?_
      refine then_next ?_
      refine vc_ret ?_
      refine ret1 rfl rfl ?_
      have e : l = l2 := by
        have := heq
        rwa [List.take_of_length_le (by omega), List.take_of_length_le (by omega)] at this
      exact ⟨by rw [decide_eq_true e], rfl⟩
/-! what groups are -/
def Fit (S : Nat) : List Nat → List Nat → Prop
  | l, [] => l = []
  | l, n :: g => 1 ≤ n ∧ n ≤ l.length ∧ ((l.take n).sum ≤ S ∨ n = 1) ∧ (n < l.length → S < (l.take n).sum + l.getD n 0) ∧ Fit S (l.drop n) g
theorem fit_grpS (S : Nat) : ∀ (l p : List Nat) (hv : Nat), 1 ≤ p.length → hv = p.sum → (hv ≤ S ∨ p.length = 1) → Fit S (p ++ l) (grpS S p.length hv l)
  | [], p, hv, h1, h2, h3 => by
    rw [grpS, List.append_nil]
    exact ⟨h1, Nat.le_refl _, by rw [List.take_length, ← h2]; exact h3, fun h => absurd h (Nat.lt_irrefl _), by rw [List.drop_length]; rfl⟩
  | n :: l, p, hv, h1, h2, h3 => by
    rw [grpS]
    split
    · rename_i h
      have := fit_grpS S l (p ++ [n]) (hv + n) (by simp) (by rw [List.sum_append, h2]; simp) (.inl h)
      rw [List.length_append, List.length_singleton, List.append_assoc] at this
      exact this
    · rename_i h
      refine ⟨h1, by simp, by rw [List.take_left, ← h2]; exact h3, fun _ => ?_, ?_⟩
      · rw [List.take_left, ← h2]
        simp [List.getD]
        omega
      · rw [List.drop_left]
        exact fit_grpS S l [n] n (by simp) (by simp) (.inr rfl)
theorem fit_groups (S : Nat) : ∀ l, Fit S l (groups S l)
  | [] => rfl
  | n :: l => fit_grpS S l [n] n (by simp) (by simp) (.inr rfl)
theorem grpS_le (S : Nat) : ∀ (l : List Nat) (cnt hv : Nat), (grpS S cnt hv l).length ≤ l.length + 1
  | [], _, _ => by simp [grpS]
  | n :: l, cnt, hv => by
    rw [grpS]
    split
    · have := grpS_le S l (cnt + 1) (hv + n); simp; omega
    · have := grpS_le S l 1 n; simp; omega
theorem groups_le (S : Nat) : ∀ l, (groups S l).length ≤ l.length
  | [] => by simp [groups]
  | n :: l => by have := grpS_le S l 1 n; simp [groups]; omega
theorem recsB_lens (b : Bool) : ∀ L, (recsB b L).length = (lens b L).sum
  | [] => rfl
  | x :: L => by
    have h := recsB_lens b L
    unfold recsB lens at h ⊢
    rw [List.flatMap_cons, List.length_append, h]
    simp
theorem wsum_drop : ∀ (L : List RecC) (k : Nat), wsum (L.drop k) ≤ wsum L := fun L k => by
  have h : wsum L = wsum (L.take k) + wsum (L.drop k) := by
    rw [wsum, wsum, wsum, ← List.sum_append, ← List.map_append, List.take_append_drop]
  omega
theorem recs_take : ∀ (L : List RecC) (k : Nat), (recs L).take (k * 4) = recs (L.take k)
  | L, 0 => by simp [recs]
  | [], k + 1 => by simp [recs]
  | x :: L, k + 1 => by
    have h := recs_take L k
    rw [List.take_succ_cons]
    simp only [recs, List.flatMap_cons] at h ⊢
    rw [← h, Nat.succ_mul, Nat.add_comm (k * 4) 4, List.take_append, List.take_of_length_le (by simp [RecC.cells])]
    simp [RecC.cells]
end Go.Proofs.Ytlbdhdocagahpaa

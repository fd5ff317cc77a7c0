/-
  bits.row.add, bit and number, by frames. No condition.
-/
import Derived.Test.YtpgmokfhcdibhaaTypes
import Derived.Test.YtpgmokfhcdibhaaBitPure
namespace Go.Proofs.Ytpgmokfhcdibhaa
open Go.RowKit
set_option linter.unusedVariables false
set_option maxRecDepth 20000
variable {B : Nat} {w0 : World} {F : List Ch} {A : Option Addr} {n c g : Nat} {bt : TypeId} {f : Ch → List Ch}
theorem bv_set (l : List UInt8) (k : Nat) (u : UInt8) : (bv l).set k (.int .u8 u.toNat) = bv (l.set k u) := by simp [bv, List.map_set]
theorem bv_app (l m : List UInt8) : bv l ++ bv m = bv (l ++ m) := by simp [bv]
theorem bv_len (l : List UInt8) : (bv l).length = l.length := by simp [bv]
theorem add_d (q : List Bool) (b : Bool) (hq : q.length ≤ 8000000) :
    Does Try.prog B w0 43 [.pointer (some ⟨g, 0, none⟩), .int .u64 b.toNat] (.blk g bt [.slice A (packed q).length c, .int .i64 q.length] :: .own 5 1 A (packed q).length c (bv (packed q)) :: F)
      (fun r L => r = .tuple #[] ∧ ∃ A' c', L = .blk g bt [.slice A' (packed (q ++ [b])).length c', .int .i64 (q ++ [b]).length] :: .own 5 1 A' (packed (q ++ [b])).length c' (bv (packed (q ++ [b]))) :: F) := by
  have hpl := packed_length q
  have hrl := room_length q
  have hb2 := Bool.toNat_le b
  refine fn_walk Try.func43 48 rfl rfl rfl [(0, .pointer (some ⟨g, 0, none⟩)), (1, .int .u64 b.toNat)] ⟨⟨rfl, rfl⟩, ⟨rfl, rfl⟩, trivial⟩ ?_
  refine vc_seqJ (fun zf zL => ∃ (A' : Option Addr) (c' : Nat), Sub zf [(0, .pointer (some ⟨g, 0, none⟩)), (1, .int .u64 b.toNat)] ∧ Wk zL (.blk g bt [.slice A' (room q).length c', .int .i64 q.length] :: .own 5 1 A' (room q).length c' (bv (room q)) :: F)) ?_ ?_
  · skip
    refine vc_seq ?_
    refine vc_region ?_
    refine vl_det (det_move rfl) rfl ?_
    refine vl_det (det_nilCheck rfl) rfl ?_
    refine vl_det (det_fieldAddr_ Try.underlying54 rfl (by kernel_rfl) rfl rfl) rfl ?_
    refine vl_det (det_load_blk (by kernel_rfl) rfl (by repeat (first | exact .hd | apply Sel.tl)) rfl) rfl ?_
    refine vl_det (det_rem rfl rfl (by omega) (tmod8 _)) rfl ?_
    refine vl_det (det_eql rfl rfl) rfl ?_
    refine vl_end [(0, _), (1, _), (9, _)] ⟨rfl, rfl, rfl, trivial⟩ ?_
    refine then_next ?_
    refine vc_decideU rfl (fun h9 => ?_) (fun h9 => ?_)
    · skip
      refine vc_region ?_
      refine vl_det (det_move rfl) rfl ?_
      refine vl_det (det_move rfl) rfl ?_
      refine vl_det (det_nilCheck rfl) rfl ?_
      refine vl_det (det_fieldAddr_ Try.underlying54 rfl (by kernel_rfl) rfl rfl) rfl ?_
      refine vl_det (det_load_blk (by kernel_rfl) rfl (by repeat (first | exact .hd | apply Sel.tl)) rfl) rfl ?_
      refine vl_push slT24 rfl rfl rfl rfl rfl (fun _ => rfl) (by repeat (first | exact .hd | apply Sel.tl)) (by omega) (by omega) ?_
      intro _ A16 c16
      refine vl_det (det_nilCheck rfl) rfl ?_
      refine vl_det (det_fieldAddr_ Try.underlying54 rfl (by kernel_rfl) rfl rfl) rfl ?_
      refine vl_eff0 (eff_store (by kernel_rfl) rfl rfl rfl (by repeat (first | exact .hd | apply Sel.tl)) (by simp)) ?_
      rintro _ _ rfl
      refine vl_end [(0, _), (1, _)] ⟨rfl, rfl, trivial⟩ ?_
      exact in_join ⟨A16, c16, ⟨(by first | rfl | exact int_to (by omega) | exact sl_to (by omega)), (by first | rfl | exact int_to (by omega) | exact sl_to (by omega)), trivial⟩, wk_blk (by rw [show (packed q).length + 1 = (room q).length by omega]; rfl) (wk_own (by omega) (by rw [← room_new (by omega)]; simp [bv]) (.refl _))⟩
    · skip
      refine vc_skip ?_
      exact in_join ⟨A, c, ⟨(by first | rfl | exact int_to (by omega) | exact sl_to (by omega)), (by first | rfl | exact int_to (by omega) | exact sl_to (by omega)), trivial⟩, wk_blk (by rw [room_old (by omega)]) (wk_own (by rw [room_old (by omega)]) (by rw [room_old (by omega)]) (.refl _))⟩
  · rintro _ _ ⟨A', c', hs, hp⟩
    refine vc_weaken _ hs (vc_wk hp ?_)
    clear hs hp
    refine vc_seq ?_
    refine vc_own_some (A := A') (n := (room q).length) (xs := bv (room q)) (.tail _ (.head _)) (by omega) ?_
    intro ad hA
    subst hA
    refine vh_region (S := .blk g bt [.slice (some ad) (room q).length c', .int .i64 q.length] :: F) (by kernel_rfl) (by repeat (first | exact List.Sublist.refl _ | exact List.nil_sublist _ | apply List.Sublist.cons_cons | apply List.Sublist.cons)) ?_
    refine vh_take 0 rfl (by kernel_rfl) (by kernel_rfl) (by kernel_rfl) (det_move rfl) rfl ?_
    refine vh_take 1 rfl (by kernel_rfl) (by kernel_rfl) (by kernel_rfl) (det_nilCheck rfl) rfl ?_
    refine vh_take 2 rfl (by kernel_rfl) (by kernel_rfl) (by kernel_rfl) (det_fieldAddr_ Try.underlying54 rfl (by kernel_rfl) rfl rfl) rfl ?_
    refine vh_take 3 rfl (by kernel_rfl) (by kernel_rfl) (by kernel_rfl) (det_load_blk (by kernel_rfl) rfl (by repeat (first | exact .hd | apply Sel.tl)) rfl) rfl ?_
    refine vh_take 4 rfl (by kernel_rfl) (by kernel_rfl) (by kernel_rfl) (det_move rfl) rfl ?_
    refine vh_take 5 rfl (by kernel_rfl) (by kernel_rfl) (by kernel_rfl) (det_nilCheck rfl) rfl ?_
    refine vh_take 6 rfl (by kernel_rfl) (by kernel_rfl) (by kernel_rfl) (det_fieldAddr_ Try.underlying54 rfl (by kernel_rfl) rfl rfl) rfl ?_
    refine vh_take 7 rfl (by kernel_rfl) (by kernel_rfl) (by kernel_rfl) (det_load_blk (by kernel_rfl) rfl (by repeat (first | exact .hd | apply Sel.tl)) rfl) rfl ?_
    refine vh_take 8 rfl (by kernel_rfl) (by kernel_rfl) (by kernel_rfl) (det_quo rfl rfl (by omega) (quo8 (by omega))) rfl ?_
    refine vh_take 9 rfl (by kernel_rfl) (by kernel_rfl) (by kernel_rfl) (det_indexAddr_some (size := 1) (i := q.length / 8) Try.underlying24 (by kernel_rfl) rfl rfl rfl (by omega)) rfl ?_
    refine vh_take 11 rfl (by kernel_rfl) (by kernel_rfl) (by kernel_rfl) (det_move rfl) rfl ?_
    refine vh_take 12 rfl (by kernel_rfl) (by kernel_rfl) (by kernel_rfl) (det_conv Try.underlying47 Try.underlying5 rfl (w_u8 (by omega) (by omega))) rfl ?_
    refine vh_take 13 rfl (by kernel_rfl) (by kernel_rfl) (by kernel_rfl) (det_move rfl) rfl ?_
    refine vh_take 14 rfl (by kernel_rfl) (by kernel_rfl) (by kernel_rfl) (det_nilCheck rfl) rfl ?_
    refine vh_take 15 rfl (by kernel_rfl) (by kernel_rfl) (by kernel_rfl) (det_fieldAddr_ Try.underlying54 rfl (by kernel_rfl) rfl rfl) rfl ?_
    refine vh_take 16 rfl (by kernel_rfl) (by kernel_rfl) (by kernel_rfl) (det_load_blk (by kernel_rfl) rfl (by repeat (first | exact .hd | apply Sel.tl)) rfl) rfl ?_
    refine vh_take 17 rfl (by kernel_rfl) (by kernel_rfl) (by kernel_rfl) (det_rem rfl rfl (by omega) (tmod8 _)) rfl ?_
    refine vh_take 18 rfl (by kernel_rfl) (by kernel_rfl) (by kernel_rfl) (det_sub rfl rfl (w_i64 (by omega) (by omega))) rfl ?_
    refine vh_take 19 rfl (by kernel_rfl) (by kernel_rfl) (by kernel_rfl) (det_shl rfl rfl (by omega) (sh_u8 (by omega))) rfl ?_
    refine vh_one 10 (by kernel_rfl) ?_
    refine st_det rfl .no (det_load_u8 (by kernel_rfl) rfl (by first | (exact Bor.own (by repeat (first | exact List.Mem.head _ | apply List.Mem.tail))) | (repeat (first | assumption | apply Bor.cons))) (by omega)) rfl (by repeat (first | exact List.Sublist.refl _ | exact List.nil_sublist _ | apply List.Sublist.cons_cons | apply List.Sublist.cons)) ?_
    refine vh_take 20 rfl (by kernel_rfl) (by kernel_rfl) (by kernel_rfl) (det_or rfl rfl (or_now q b)) rfl ?_
    refine vh_take 21 rfl (by kernel_rfl) (by kernel_rfl) (by kernel_rfl) (det_indexAddr_some (size := 1) (i := q.length / 8) Try.underlying24 (by kernel_rfl) rfl rfl rfl (by omega)) rfl ?_
    refine vh_one 22 (by kernel_rfl) ?_
    refine st_eff0 rfl .no (eff_store_row (by kernel_rfl) rfl rfl rfl (by repeat (first | exact .hd | apply Sel.tl)) (by rw [bv_len]; omega)) (by rintro _ _ rfl; exact (by repeat (first | exact List.Sublist.refl _ | exact List.nil_sublist _ | apply List.Sublist.cons_cons | apply List.Sublist.cons))) ?_
    rintro _ _ rfl
    refine vh_done [(0, _)] ⟨rfl, trivial⟩ (by kernel_rfl) ?_
    refine then_next ?_
    refine vc_region ?_
    refine vl_det (det_move rfl) rfl ?_
    refine vl_det (det_nilCheck rfl) rfl ?_
    refine vl_det (det_fieldAddr_ Try.underlying54 rfl (by kernel_rfl) rfl rfl) rfl ?_
    refine vl_det (det_load_blk (by kernel_rfl) rfl (by repeat (first | exact .hd | apply Sel.tl)) rfl) rfl ?_
    refine vl_det (det_add rfl rfl (w_i64 (by omega) (by omega))) rfl ?_
    refine vl_det (det_nilCheck rfl) rfl ?_
    refine vl_det (det_fieldAddr_ Try.underlying54 rfl (by kernel_rfl) rfl rfl) rfl ?_
    refine vl_eff0 (eff_store (by kernel_rfl) rfl rfl rfl (by repeat (first | exact .hd | apply Sel.tl)) (by simp)) ?_
    rintro _ _ rfl
    refine vl_end [] trivial ?_
    refine ret_n ?_
    refine ret_wk (L' := .blk g bt [.slice (some ad) (packed (q ++ [b])).length c', .int .i64 (q ++ [b]).length] :: .own 5 1 (some ad) (packed (q ++ [b])).length c' (bv (packed (q ++ [b]))) :: F) (wk_blk (by rw [← room_set q b]; simp) (wk_own (by rw [← room_set q b]; simp) (by rw [Nat.mul_one, bv_set, room_set]) (.refl _))) ?_
    refine ret0 rfl ?_
    exact ⟨rfl, _, c', rfl⟩
theorem bit_d (q : List Bool) (i : Nat) (hi : i < q.length) (hq : q.length ≤ 8000000000) (rest : List Value) (l : List UInt8) (hl : packed q = l) (hn : n = l.length) (hs : Sel (.blk g bt (.slice A n c :: rest)) F f) (hb : Bor B w0 F 1 (.slice A n c) n (bv l)) :
    Does Try.prog B w0 59 [.pointer (some ⟨g, 0, none⟩), .int .i64 i] F
      (fun r L => r = .int .u64 (bitn q i) ∧ L = F) := by
  subst hn
  subst hl
  have hpl := packed_length q
  refine fn_walk Try.func59 19 rfl rfl rfl [(0, .pointer (some ⟨g, 0, none⟩)), (1, .int .i64 i)] ⟨⟨rfl, rfl⟩, ⟨rfl, rfl⟩, trivial⟩ ?_
  refine vc_seq ?_
  refine vc_region ?_
  refine vl_det (det_assign rfl) rfl ?_
  refine vl_end [(0, _), (1, _)] ⟨rfl, rfl, trivial⟩ ?_
  refine then_next ?_
  refine vc_seq ?_
  refine vc_region ?_
  refine vl_det (det_move rfl) rfl ?_
  refine vl_det (det_nilCheck rfl) rfl ?_
  refine vl_det (det_fieldAddr_ Try.underlying54 rfl (by kernel_rfl) rfl rfl) rfl ?_
  refine vl_det (det_load_blk (by kernel_rfl) rfl hs rfl) rfl ?_
  refine vl_det (det_move rfl) rfl ?_
  refine vl_det (det_quo rfl rfl (by omega) (quo8 (by omega))) rfl ?_
  refine vl_det (det_indexAddr (i := i / 8) Try.underlying24 (by kernel_rfl) rfl rfl rfl (by omega) (by first | (exact Bor.own (by repeat (first | exact List.Mem.head _ | apply List.Mem.tail))) | (repeat (first | assumption | apply Bor.cons)))) rfl ?_
  refine vl_det (det_load_u8 (by kernel_rfl) rfl (by first | (exact Bor.own (by repeat (first | exact List.Mem.head _ | apply List.Mem.tail))) | (repeat (first | assumption | apply Bor.cons))) (by omega)) rfl ?_
  refine vl_det (det_move rfl) rfl ?_
  refine vl_det (det_rem rfl rfl (by omega) (tmod8 _)) rfl ?_
  refine vl_det (det_sub rfl rfl (w_i64 (by omega) (by omega))) rfl ?_
  refine vl_det (det_shr rfl rfl (by omega) (shr_u8 (by omega))) rfl ?_
  refine vl_det (det_conv Try.underlying5 Try.underlying47 rfl (wrap_u64 _ (shr_lt _ _ _))) rfl ?_
  refine vl_det (det_and rfl rfl (bit_now q hi)) rfl ?_
  refine vl_det (det_assign rfl) rfl ?_
  refine vl_end [(4, _)] ⟨rfl, trivial⟩ ?_
  refine then_next ?_
  refine vc_ret ?_
  refine ret1 rfl rfl ?_
  exact ⟨rfl, rfl⟩
theorem number_d (q : List Bool) (p m : Nat) (hp : p ≤ q.length) (hm : m ≤ 64) (hq : q.length ≤ 8000000000) (rest : List Value) (l : List UInt8) (hl : packed q = l) (hn : n = l.length) (hs : Sel (.blk g bt (.slice A n c :: .int .i64 q.length :: rest)) F f) (hb : Bor B w0 F 1 (.slice A n c) n (bv l)) :
    Does Try.prog B w0 60 [.pointer (some ⟨g, 0, none⟩), .int .i64 p, .int .i64 m] F
      (fun r L => r = .int .u64 (part q p m) ∧ L = F) := by
  refine fn_walk Try.func60 31 rfl rfl rfl [(0, .pointer (some ⟨g, 0, none⟩)), (1, .int .i64 p), (2, .int .i64 m)] ⟨⟨rfl, rfl⟩, ⟨rfl, rfl⟩, ⟨rfl, rfl⟩, trivial⟩ ?_
  refine vc_seq ?_
  refine vc_region ?_
  refine vl_det (det_assign rfl) rfl ?_
  refine vl_end [(0, _), (1, _), (2, _)] ⟨rfl, rfl, rfl, trivial⟩ ?_
  refine then_next ?_
  refine vc_seq ?_
  refine vc_region ?_
  refine vl_det (det_assign rfl) rfl ?_
  refine vl_end [(0, _), (1, _), (2, _), (7, _)] ⟨rfl, rfl, rfl, rfl, trivial⟩ ?_
  refine then_next ?_
  refine vc_seq ?_
  refine vc_seq ?_
  refine vc_region ?_
  refine vl_det (det_move rfl) rfl ?_
  refine vl_det (det_assign rfl) rfl ?_
  refine vl_end [(0, _), (1, _), (2, _), (7, _), (8, _)] ⟨rfl, rfl, rfl, rfl, rfl, trivial⟩ ?_
  refine then_next ?_
  refine vc_block ?_
  refine vc_loopJ (fun zf zL zm => ∃ (k : Nat), (k ≤ m) ∧ m - k = zm ∧ Sub zf [(0, .pointer (some ⟨g, 0, none⟩)), (1, .int .i64 p), (2, .int .i64 m), (7, .int .u64 (part q p k)), (8, .int .i64 (p + k : Nat))] ∧ Wk zL (F)) _ ⟨0, Nat.zero_le _, rfl, ⟨(by first | rfl | exact int_to (by omega) | exact sl_to (by omega)), (by first | rfl | exact int_to (by omega) | exact sl_to (by omega)), (by first | rfl | exact int_to (by omega) | exact sl_to (by omega)), (by first | rfl | exact int_to (by omega) | exact sl_to (by omega)), (by first | rfl | exact int_to (by omega) | exact sl_to (by omega)), trivial⟩, .refl _⟩ ?_
  rintro _ _ _ ⟨k, hk, rfl, hs, hp⟩
  refine vc_weaken _ hs (vc_wk hp ?_)
  clear hs hp
  have hlt := part_lt q p k
  have hble := bitn_le q (p + k)
  have hps : part q p (k + 1) = 2 * part q p k + bitn q (p + k) := rfl
  refine vc_seq ?_
  refine vc_seq ?_
  refine vc_region ?_
  refine vl_det (det_move rfl) rfl ?_
  refine vl_det (det_move rfl) rfl ?_
  refine vl_det (det_move rfl) rfl ?_
  refine vl_det (det_add rfl rfl (w_i64 (by omega) (by omega))) rfl ?_
  refine vl_det (det_lss rfl rfl) rfl ?_
  refine vl_end [(0, _), (1, _), (2, _), (7, _), (8, _), (14, _)] ⟨rfl, rfl, rfl, rfl, rfl, rfl, trivial⟩ ?_
  refine then_next ?_
  refine vc_decideU rfl (fun h14 => ?_) (fun h14 => ?_)
  · skip
    refine vc_skip ?_
    refine then_next ?_
    refine vc_seq ?_
    refine vc_block ?_
    refine vc_seq ?_
    refine vc_region ?_
    refine vl_det (det_move rfl) rfl ?_
    refine vl_det (det_shl rfl rfl (by omega) (dbl_u64 hlt (by omega))) rfl ?_
    refine vl_det (det_assign rfl) rfl ?_
    refine vl_end [(0, _), (1, _), (2, _), (7, _), (8, _)] ⟨rfl, rfl, rfl, rfl, rfl, trivial⟩ ?_
    refine then_next ?_
    refine vc_seq ?_
    refine vc_region ?_
    refine vl_det (det_move rfl) rfl ?_
    refine vl_det (det_move rfl) rfl ?_
    refine vl_det (det_nilCheck rfl) rfl ?_
    refine vl_det (det_fieldAddr_ Try.underlying54 rfl (by kernel_rfl) rfl rfl) rfl ?_
    refine vl_det (det_load_blk (by kernel_rfl) rfl hs rfl) rfl ?_
    refine vl_det (det_lss (m := (p + k : Nat)) rfl rfl) rfl ?_
    refine vl_end [(0, _), (1, _), (2, _), (7, _), (8, _), (24, _)] ⟨rfl, rfl, rfl, rfl, rfl, rfl, trivial⟩ ?_
    refine then_next ?_
    refine vc_decideU rfl (fun h24 => ?_) (fun h24 => ?_)
    · skip
      refine vc_region ?_
      refine vl_det (det_move rfl) rfl ?_
      refine vl_det (det_move rfl) rfl ?_
      refine vl_det (det_move rfl) rfl ?_
      refine vl_call co59 rfl (bit_d q (p + k) (by omega) hq _ l hl hn hs hb) rfl ?_
      rintro _ _ ⟨rfl, hLL⟩
      obtain rfl := hLL.symm
      refine vl_det (det_or rfl rfl (or_bit hlt (by omega) hble)) rfl ?_
      refine vl_det (det_assign rfl) rfl ?_
      refine vl_end [(0, _), (1, _), (2, _), (7, _), (8, _)] ⟨rfl, rfl, rfl, rfl, rfl, trivial⟩ ?_
      refine in_normal ?_
      refine then_next ?_
      refine vc_region ?_
      refine vl_det (det_move rfl) rfl ?_
      refine vl_det (det_add rfl rfl (w_i64 (by omega) (by omega))) rfl ?_
      refine vl_det (det_assign rfl) rfl ?_
      refine vl_end [(0, _), (1, _), (2, _), (7, _), (8, _)] ⟨rfl, rfl, rfl, rfl, rfl, trivial⟩ ?_
      refine in_loop_ ⟨_, by omega, k + 1, by omega, rfl, ⟨(by first | rfl | exact int_to (by omega) | exact sl_to (by omega)), (by first | rfl | exact int_to (by omega) | exact sl_to (by omega)), (by first | rfl | exact int_to (by omega) | exact sl_to (by omega)), (by first | rfl | exact int_to (by omega) | exact sl_to (by omega)), (by first | rfl | exact int_to (by omega) | exact sl_to (by omega)), trivial⟩, .refl _⟩
    · skip
      have h0 := bitn_out q (i := p + k) (by omega)
      refine vc_skip ?_
      refine in_normal ?_
      refine then_next ?_
      refine vc_region ?_
      refine vl_det (det_move rfl) rfl ?_
      refine vl_det (det_add rfl rfl (w_i64 (by omega) (by omega))) rfl ?_
      refine vl_det (det_assign rfl) rfl ?_
      refine vl_end [(0, _), (1, _), (2, _), (7, _), (8, _)] ⟨rfl, rfl, rfl, rfl, rfl, trivial⟩ ?_
      refine in_loop_ ⟨_, by omega, k + 1, by omega, rfl, ⟨(by first | rfl | exact int_to (by omega) | exact sl_to (by omega)), (by first | rfl | exact int_to (by omega) | exact sl_to (by omega)), (by first | rfl | exact int_to (by omega) | exact sl_to (by omega)), (by first | rfl | exact int_to (by omega) | exact sl_to (by omega)), (by first | rfl | exact int_to (by omega) | exact sl_to (by omega)), trivial⟩, .refl _⟩
  · skip
    refine vc_exit ?_
    refine then_exit ?_
    refine loop_exit ?_
    refine in_eq ?_
    refine then_next ?_
    refine vc_seq ?_
    refine vc_region ?_
    refine vl_det (det_move rfl) rfl ?_
    refine vl_det (det_assign rfl) rfl ?_
    refine vl_end [(6, _)] ⟨rfl, trivial⟩ ?_
    refine then_next ?_
    refine vc_ret ?_
    refine ret1 rfl rfl ?_
    have hk' : k = m := by omega
    subst hk'
    exact ⟨rfl, rfl⟩
end Go.Proofs.Ytpgmokfhcdibhaa

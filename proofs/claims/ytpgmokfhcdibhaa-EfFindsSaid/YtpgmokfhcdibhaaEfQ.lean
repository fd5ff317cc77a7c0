/-
  ef.Read, by frames. Conditions: at most 10^5 bytes.
-/
import Derived.Test.YtpgmokfhcdibhaaEfN
import Derived.Test.YtpgmokfhcdibhaaCurE
namespace Go.Proofs.Ytpgmokfhcdibhaa
open Go.RowKit
set_option linter.unusedVariables false
set_option maxRecDepth 20000
variable {B : Nat} {w0 : World} {F : List Ch} {A A1 A2 : Option Addr} {n c c1 c2 g : Nat} {s : Cs}
theorem cat_d : Does Try.prog B w0 40 [.pointer (some ⟨g, 0, none⟩)] (Cv g A c s :: F) (fun r L => r = .int .i64 s.at_ ∧ L = Cv g A c s :: F) := by
  refine fn_walk Try.func40 10 rfl rfl rfl [(0, .pointer (some ⟨g, 0, none⟩))] ⟨⟨rfl, rfl⟩, trivial⟩ ?_
  refine vc_seq ?_
  refine vc_region ?_
  refine vl_det (det_assign rfl) rfl ?_
  refine vl_end [(0, _)] ⟨rfl, trivial⟩ ?_
  refine then_next ?_
  refine vc_seq ?_
  refine vc_seq ?_
  refine vc_region ?_
  refine vl_det (det_move rfl) rfl ?_
  refine vl_det (det_ptr_nil Try.underlying71 rfl rfl) rfl ?_
  refine vl_end [(0, _), (4, _)] ⟨rfl, rfl, trivial⟩ ?_
  refine then_next ?_
  refine vc_cond_f rfl ?_
  refine vc_skip ?_
  refine then_next ?_
  refine vc_seq ?_
  refine vc_region ?_
  refine vl_det (det_move rfl) rfl ?_
  refine vl_det (det_nilCheck rfl) rfl ?_
  refine vl_det (det_fieldAddr_ Try.underlying86 rfl (by kernel_rfl) rfl rfl) rfl ?_
  refine vl_det (det_fieldAddr_ Try.underlying84 rfl (by kernel_rfl) rfl rfl) rfl ?_
  refine vl_det (det_load_blk (by kernel_rfl) rfl (by repeat (first | exact .hd | apply Sel.tl)) rfl) rfl ?_
  refine vl_det (det_assign rfl) rfl ?_
  refine vl_end [(2, _)] ⟨rfl, trivial⟩ ?_
  refine then_next ?_
  refine vc_ret ?_
  refine ret1 rfl rfl ?_
  exact ⟨rfl, rfl⟩
def rdC (bound : Int) (b : List UInt8) : Cs := Cs.int' ⟨b, 0, 0⟩ bound
def rdN (bound : Int) (b : List UInt8) : Nat := Cs.int ⟨b, 0, 0⟩ bound
def rdR (bound : Int) (b : List UInt8) : List Nat × Nat × Int := efRow bound.toNat (rdN bound b) (b.drop (rdC bound b).at_)
def efRd (bound : Int) (b : List UInt8) : List Nat × Nat × Int :=
  if bound < 0 ∨ 20000 < bound then ([], 0, 13)
  else if (rdC bound b).e ≠ 0 then ([], 0, (rdC bound b).e)
  else if rdN bound b = 0 then ([], (rdC bound b).at_, 0)
  else if (rdR bound b).2.2 ≠ 0 then ([], 0, (rdR bound b).2.2)
  else ((rdR bound b).1, (rdC bound b).at_ + (rdR bound b).2.1, 0)
theorem efRd_a {bound : Int} {b : List UInt8} (h : bound < 0 ∨ 20000 < bound) : efRd bound b = ([], 0, 13) := if_pos h
theorem efRd_b {bound : Int} {b : List UInt8} (h : ¬ (bound < 0 ∨ 20000 < bound)) (h1 : (rdC bound b).e ≠ 0) : efRd bound b = ([], 0, (rdC bound b).e) := by unfold efRd; rw [if_neg h, if_pos h1]
theorem efRd_c {bound : Int} {b : List UInt8} (h : ¬ (bound < 0 ∨ 20000 < bound)) (h1 : ¬ (rdC bound b).e ≠ 0) (h2 : rdN bound b = 0) : efRd bound b = ([], (rdC bound b).at_, 0) := by unfold efRd; rw [if_neg h, if_neg h1, if_pos h2]
theorem efRd_d {bound : Int} {b : List UInt8} (h : ¬ (bound < 0 ∨ 20000 < bound)) (h1 : ¬ (rdC bound b).e ≠ 0) (h2 : ¬ rdN bound b = 0) (h3 : (rdR bound b).2.2 ≠ 0) : efRd bound b = ([], 0, (rdR bound b).2.2) := by unfold efRd; rw [if_neg h, if_neg h1, if_neg h2, if_pos h3]
theorem efRd_e {bound : Int} {b : List UInt8} (h : ¬ (bound < 0 ∨ 20000 < bound)) (h1 : ¬ (rdC bound b).e ≠ 0) (h2 : ¬ rdN bound b = 0) (h3 : ¬ (rdR bound b).2.2 ≠ 0) : efRd bound b = ((rdR bound b).1, (rdC bound b).at_ + (rdR bound b).2.1, 0) := by unfold efRd; rw [if_neg h, if_neg h1, if_neg h2, if_neg h3]
def ReadR (bound : Int) (b : List UInt8) (F : List Ch) (r : Value) (L : List Ch) : Prop :=
  ((efRd bound b).2.2 ≠ 0 ∧ r = .tuple #[.pointer none, .int .i64 0, .int .i64 (efRd bound b).2.2] ∧ L = F) ∨
  ((efRd bound b).2.2 = 0 ∧ ∃ w p g A1 c1 A2 c2, p = 2 ^ w ∧ w ≤ 14 ∧ r = .tuple #[.pointer (some ⟨g, 0, none⟩), .int .i64 (efRd bound b).2.1, .int .i64 0] ∧ L = Rl g w p A1 c1 A2 c2 (efRd bound b).1 F)
theorem efRow_len (bound m : Nat) (b : List UInt8) : (efRow bound m b).2.1 ≤ b.length := by
  unfold efRow
  split
  · exact Nat.zero_le _
  · split
    · exact Nat.zero_le _
    · split
      · exact Nat.zero_le _
      · exact Nat.sub_le ..
theorem row_d {bound m : Nat} {b : List UInt8} (hb : Bor B w0 F 1 (.slice A b.length c) b.length (bv b)) (hbl : b.length ≤ 100000) (hb2 : bound ≤ 20000) (hm : 1 ≤ m) (hmb : m ≤ bound) :
    Does Try.prog B w0 41 [.int .i64 bound, .int .i64 m, .slice A b.length c] F (RowR bound m b F) := by
  by_cases hE : (unp b).length < m * wid bound m
  · exact row_bad hb hbl hb2 hm hmb hE
  · exact row_ok hb hbl hb2 hm hmb hE
theorem efread_d {bound : Int} {b : List UInt8} (hb : Bor B w0 F 1 (.slice A b.length c) b.length (bv b)) (hbl : b.length ≤ 100000) (hbd1 : -9223372036854775808 ≤ bound) (hbd2 : bound ≤ 9223372036854775807) :
    Does Try.prog B w0 17 [.int .i64 bound, .slice A b.length c] F (ReadR bound b F) := by
  have ho0 : CsOk ⟨b, 0, 0⟩ := ⟨Nat.zero_le _, by simp only; omega⟩
  have ho1 : CsOk (rdC bound b) := ho0.int' hbd2
  have hrb : (rdC bound b).b = b := Cs.moved_b _ _ _
  have hat : (rdC bound b).at_ ≤ b.length := by have := ho1.at_; rw [hrb] at this; exact this
  have hnb : 0 ≤ bound → (rdN bound b : Int) ≤ bound := fun h => by
    unfold rdN Cs.int
    rw [if_neg (by simp)]
    by_cases he : (limS (Cs.rest ⟨b, 0, 0⟩) bound).2.2 = 0
    · exact (limS_facts _ bound hbd2).2.2.2 he
    · rw [(limS_err he).1]; exact h
  have hcut := hb.cut hat
  have hrl : (rdR bound b).2.1 ≤ b.length := by
    have := efRow_len bound.toNat (rdN bound b) (b.drop (rdC bound b).at_)
    rw [List.length_drop] at this
    unfold rdR; omega
  have ecut : (bv b).drop ((rdC bound b).at_ * 1) = bv (b.drop (rdC bound b).at_) := by rw [Nat.mul_one, bv_drop]
  rw [ecut, show b.length - (rdC bound b).at_ = (b.drop (rdC bound b).at_).length from (List.length_drop ..).symm] at hcut
  have hint : ∀ {g : Nat} {A' : Option Addr} {c' : Nat} {F' : List Ch}, Bor B w0 F' 1 (.slice A' b.length c') b.length (bv b) → Does Try.prog B w0 38 [.pointer (some ⟨g, 0, none⟩), .int .i64 bound] (Cv g A' c' ⟨b, 0, 0⟩ :: F') (fun r L => r = .int .i64 (rdN bound b) ∧ L = Cv g A' c' (rdC bound b) :: F') := fun hb' => cint_d ho0 hb' hbd1 hbd2
  by_cases hRw : (rdR bound b).2.2 = 0
  · skip
    refine fn_walk Try.func17 54 rfl rfl rfl [(0, .int .i64 bound), (1, .slice A b.length c)] ⟨⟨rfl, rfl⟩, ⟨rfl, rfl⟩, trivial⟩ ?_
    refine vc_seq ?_
    refine vc_region ?_
    refine vl_det (det_assign rfl) rfl ?_
    refine vl_det (det_assign rfl) rfl ?_
    refine vl_det (det_assign rfl) rfl ?_
    refine vl_end [(0, _), (1, _)] ⟨rfl, rfl, trivial⟩ ?_
    refine then_next ?_
    refine vc_seq ?_
    refine vc_seq ?_
    refine vc_region ?_
    refine vl_cut 6 18 [(0, _), (1, _)] (bound < 0 ∨ 20000 < bound) ⟨rfl, rfl, trivial⟩ ?_ ?_
    · skip
      refine vl_det (det_move rfl) rfl ?_
      refine vl_det (det_lss rfl rfl) rfl ?_
      refine vl_det (det_move rfl) rfl ?_
      refine vl_guardn rfl rfl rfl (fun h15 => ?_) (fun h15 => ?_)
      · skip
        refine vl_det (det_move rfl) rfl ?_
        refine vl_guard_t rfl rfl ?_
        refine vl_det (det_gtr rfl rfl) rfl ?_
        refine vl_det (det_pick_f rfl rfl) rfl ?_
        exact vl_cut_end ⟨rfl, rfl, trivial⟩ (by first | rfl | exact bool_to_t (by first | omega | simp_all) | exact bool_to_f (by first | omega | simp_all) | exact bool_to (by first | omega | simp_all) | exact bool_to_b (by first | omega | simp_all))
      · skip
        refine vl_guard_f rfl rfl rfl rfl ?_
        refine vl_det (det_pick_t rfl rfl) rfl ?_
        exact vl_cut_end ⟨rfl, rfl, trivial⟩ (by first | rfl | exact bool_to_t (by first | omega | simp_all) | exact bool_to_f (by first | omega | simp_all) | exact bool_to (by first | omega | simp_all) | exact bool_to_b (by first | omega | simp_all))
    · skip
      refine vl_end [(0, _), (1, _), (18, _)] ⟨rfl, rfl, rfl, trivial⟩ ?_
      refine then_next ?_
      refine vc_decideU rfl (fun h18 => ?_) (fun h18 => ?_)
      · skip
        refine vc_seq ?_
        refine vc_region ?_
        refine vl_det (det_assign rfl) rfl ?_
        refine vl_det (det_assign rfl) rfl ?_
        refine vl_det (det_assign rfl) rfl ?_
        refine vl_end [(4, _), (5, _), (6, _)] ⟨rfl, rfl, rfl, trivial⟩ ?_
        refine then_next ?_
        refine vc_ret ?_
        refine then_ret ?_
        refine ret3_ rfl rfl rfl rfl ?_
        exact .inl ⟨by rw [efRd_a h18]; decide, by rw [efRd_a h18], rfl⟩
      · skip
        obtain ⟨bn, rfl⟩ := Int.eq_ofNat_of_zero_le (show 0 ≤ bound by omega)
        have hnb' := hnb (by omega)
        refine vc_skip ?_
        refine then_next ?_
        refine vc_seq ?_
        refine vc_region ?_
        refine vl_det (det_move rfl) rfl ?_
        refine vl_call co37 rfl (cnew_d hb (by omega)) rfl ?_
        rintro _ _ ⟨g20, A20, c20, rfl, hLL⟩
        obtain rfl := hLL.symm
        refine vl_det (det_assign rfl) rfl ?_
        refine vl_end [(0, _), (1, _), (7, _)] ⟨rfl, rfl, rfl, trivial⟩ ?_
        refine then_next ?_
        refine vc_seq ?_
        refine vc_region ?_
        refine vl_det (det_move rfl) rfl ?_
        refine vl_det (det_move rfl) rfl ?_
        refine vl_call co38 rfl (hint (by first | (exact Bor.own (by repeat (first | exact List.Mem.head _ | apply List.Mem.tail))) | (repeat (first | assumption | apply Bor.cons)))) rfl ?_
        rintro _ _ ⟨rfl, hLL⟩
        obtain rfl := hLL.symm
        refine vl_det (det_assign rfl) rfl ?_
        refine vl_end [(0, _), (1, _), (7, _), (8, _)] ⟨rfl, rfl, rfl, rfl, trivial⟩ ?_
        refine then_next ?_
        refine vc_seq ?_
        refine vc_seq ?_
        refine vc_region ?_
        refine vl_det (det_move rfl) rfl ?_
        refine vl_call co39 rfl (cerr_d) rfl ?_
        rintro _ _ ⟨rfl, hLL⟩
        obtain rfl := hLL.symm
        refine vl_det (det_assign rfl) rfl ?_
        refine vl_end [(0, _), (1, _), (7, _), (8, _), (9, _)] ⟨rfl, rfl, rfl, rfl, rfl, trivial⟩ ?_
        refine then_next ?_
        refine vc_seq ?_
        refine vc_region ?_
        refine vl_det (det_move rfl) rfl ?_
        refine vl_det (det_neq rfl rfl) rfl ?_
        refine vl_end [(0, _), (1, _), (7, _), (8, _), (9, _), (27, _)] ⟨rfl, rfl, rfl, rfl, rfl, rfl, trivial⟩ ?_
        refine then_next ?_
        refine vc_decideU rfl (fun h27 => ?_) (fun h27 => ?_)
        · skip
          refine vc_seq ?_
          refine vc_region ?_
          refine vl_det (det_move rfl) rfl ?_
          refine vl_det (det_assign rfl) rfl ?_
          refine vl_det (det_assign rfl) rfl ?_
          refine vl_det (det_assign rfl) rfl ?_
          refine vl_end [(4, _), (5, _), (6, _)] ⟨rfl, rfl, rfl, trivial⟩ ?_
          refine then_next ?_
          refine vc_ret ?_
          refine then_ret ?_
          refine ret_wk (L' := F) (.skip (.skip (.refl _))) ?_
          refine ret3_ rfl rfl rfl rfl ?_
          exact .inl ⟨by rw [efRd_b h18 h27]; exact h27, by rw [efRd_b h18 h27], rfl⟩
        · skip
          refine vc_skip ?_
          refine then_next ?_
          refine vc_seq ?_
          refine vc_seq ?_
          refine vc_region ?_
          refine vl_det (det_move rfl) rfl ?_
          refine vl_det (det_eql rfl rfl) rfl ?_
          refine vl_end [(0, _), (1, _), (7, _), (8, _), (30, _)] ⟨rfl, rfl, rfl, rfl, rfl, trivial⟩ ?_
          refine then_next ?_
          refine vc_decideU rfl (fun h30 => ?_) (fun h30 => ?_)
          · skip
            refine vc_seq ?_
            refine vc_nil_row 57 1 none ?_
            refine vc_nil_row 3 1 none ?_
            refine vc_perm ((pu2 (pu2 (pu0 (pu0 (.refl _)))))) ?_
            refine vc_region ?_
            refine vl_det (det_build0 [.int .i64 0, .slice none 0 0, .slice none 0 0] (by kernel_rfl)) rfl ?_
            refine vl_eff (eff_box rfl rfl) rfl ?_
            rintro _ _ ⟨g32, rfl, rfl⟩
            refine vl_det (det_move rfl) rfl ?_
            refine vl_call co40 rfl ((cat_d).reperm ((pu1 (pu0 (.refl _))))) rfl ?_
            rintro _ _ ⟨rfl, hLL⟩
            obtain rfl := hLL.symm
            refine vl_det (det_assign rfl) rfl ?_
            refine vl_det (det_assign rfl) rfl ?_
            refine vl_det (det_assign rfl) rfl ?_
            refine vl_end [(4, _), (5, _), (6, _)] ⟨rfl, rfl, rfl, trivial⟩ ?_
            refine then_next ?_
            refine vc_ret ?_
            refine then_ret ?_
            have hz := efRd_c (b := b) h18 h27 (show rdN bn b = 0 by omega)
            refine ret_wk (L' := Rl g32 0 1 none 0 none 0 [] F) ((wu0 (wu2 (wu2 (.skip (.skip (.refl _))))))) ?_
            refine ret3_ rfl rfl rfl rfl ?_
            exact .inr ⟨by rw [hz], 0, 1, g32, none, 0, none, 0, rfl, by omega, by rw [hz], by rw [hz]⟩
          · skip
            refine vc_skip ?_
            refine then_next ?_
            refine vc_seq ?_
            refine vc_region ?_
            refine vl_det (det_move rfl) rfl ?_
            refine vl_det (det_move rfl) rfl ?_
            refine vl_det (det_move rfl) rfl ?_
            refine vl_det (det_move rfl) rfl ?_
            refine vl_call co40 rfl (cat_d) rfl ?_
            rintro _ _ ⟨rfl, hLL⟩
            obtain rfl := hLL.symm
            refine vl_det (det_slice_lo (i := (rdC bn b).at_) (size := 1) Try.underlying24 (by kernel_rfl) rfl rfl rfl hat) rfl ?_
            rw [show b.length - (rdC bn b).at_ = (b.drop (rdC bn b).at_).length from (List.length_drop ..).symm]
            refine vl_call co41 rfl ((row_d (bound := bn) (m := rdN bn b) (b := b.drop (rdC bn b).at_) (.cons (.cons hcut)) (by rw [List.length_drop]; omega) (by omega) (by omega) (by omega)).mono (R' := fun r L => ∃ g A1 c1 A2 c2, r = .tuple #[.pointer (some ⟨g, 0, none⟩), .int .i64 (rdR bn b).2.1, .int .i64 0] ∧ L = Rl g (wid bn (rdN bn b)) (2 ^ wid bn (rdN bn b)) A1 c1 A2 c2 (rdR bn b).1 (Cv g20 A20 c20 (rdC bn b) :: .own 5 1 A20 b.length c20 (bv b) :: F)) (fun r L h => by rcases h with ⟨h1, _⟩ | ⟨_, h⟩; exact absurd hRw h1; exact h)) rfl ?_
            rintro _ _ ⟨g42, P42, p42, Q42, q42, rfl, hLL⟩
            obtain rfl := hLL.symm
            refine vl_det (det_move rfl) rfl ?_
            refine vl_det (det_extract rfl rfl) rfl ?_
            refine vl_det (det_extract rfl rfl) rfl ?_
            refine vl_det (det_extract rfl rfl) rfl ?_
            refine vl_det (det_assign rfl) rfl ?_
            refine vl_det (det_assign rfl) rfl ?_
            refine vl_det (det_assign rfl) rfl ?_
            refine vl_end [(7, _), (10, _), (11, _), (12, _)] ⟨rfl, rfl, rfl, rfl, trivial⟩ ?_
            refine then_next ?_
            refine vc_seq ?_
            refine vc_seq ?_
            refine vc_region ?_
            refine vl_det (det_move rfl) rfl ?_
            refine vl_det (det_neq rfl rfl) rfl ?_
            refine vl_end [(7, _), (10, _), (11, _), (12, _), (47, _)] ⟨rfl, rfl, rfl, rfl, rfl, trivial⟩ ?_
            refine then_next ?_
            refine vc_decideU rfl (fun h47 => ?_) (fun h47 => ?_)
            · skip
              exfalso; exact h47 rfl
            · skip
              refine vc_skip ?_
              refine then_next ?_
              refine vc_seq ?_
              refine vc_region ?_
              refine vl_det (det_move rfl) rfl ?_
              refine vl_det (det_move rfl) rfl ?_
              refine vl_call co40 rfl ((cat_d).reperm ((pu3 (pu0 (pu0 (pu0 (.refl _))))))) rfl ?_
              rintro _ _ ⟨rfl, hLL⟩
              obtain rfl := hLL.symm
              refine vl_det (det_move rfl) rfl ?_
              refine vl_det (det_add rfl rfl (r := (((rdC bn b).at_ + (rdR bn b).2.1 : Nat) : Int)) ((w_i64 (by omega) (by omega)).trans (by omega))) rfl ?_
              refine vl_det (det_assign rfl) rfl ?_
              refine vl_det (det_assign rfl) rfl ?_
              refine vl_det (det_assign rfl) rfl ?_
              refine vl_end [(4, _), (5, _), (6, _)] ⟨rfl, rfl, rfl, trivial⟩ ?_
              refine then_next ?_
              refine vc_ret ?_
              have hz := efRd_e (b := b) h18 h27 (show ¬ rdN bn b = 0 by omega) (by simpa using hRw)
              refine ret_wk (L' := Rl g42 (wid bn (rdN bn b)) (2 ^ wid bn (rdN bn b)) P42 p42 Q42 q42 (rdR bn b).1 F) ((wu0 (wu0 (wu0 (.skip (.skip (.refl _))))))) ?_
              refine ret3_ rfl rfl rfl rfl ?_
              exact .inr ⟨by rw [hz], wid bn (rdN bn b), _, g42, P42, p42, Q42, q42, rfl, wid_le (by omega), by rw [hz], by rw [hz]⟩
  · skip
    refine fn_walk Try.func17 54 rfl rfl rfl [(0, .int .i64 bound), (1, .slice A b.length c)] ⟨⟨rfl, rfl⟩, ⟨rfl, rfl⟩, trivial⟩ ?_
    refine vc_seq ?_
    refine vc_region ?_
    refine vl_det (det_assign rfl) rfl ?_
    refine vl_det (det_assign rfl) rfl ?_
    refine vl_det (det_assign rfl) rfl ?_
    refine vl_end [(0, _), (1, _)] ⟨rfl, rfl, trivial⟩ ?_
    refine then_next ?_
    refine vc_seq ?_
    refine vc_seq ?_
    refine vc_region ?_
    refine vl_cut 6 18 [(0, _), (1, _)] (bound < 0 ∨ 20000 < bound) ⟨rfl, rfl, trivial⟩ ?_ ?_
    · skip
      refine vl_det (det_move rfl) rfl ?_
      refine vl_det (det_lss rfl rfl) rfl ?_
      refine vl_det (det_move rfl) rfl ?_
      refine vl_guardn rfl rfl rfl (fun h15 => ?_) (fun h15 => ?_)
      · skip
        refine vl_det (det_move rfl) rfl ?_
        refine vl_guard_t rfl rfl ?_
        refine vl_det (det_gtr rfl rfl) rfl ?_
        refine vl_det (det_pick_f rfl rfl) rfl ?_
        exact vl_cut_end ⟨rfl, rfl, trivial⟩ (by first | rfl | exact bool_to_t (by first | omega | simp_all) | exact bool_to_f (by first | omega | simp_all) | exact bool_to (by first | omega | simp_all) | exact bool_to_b (by first | omega | simp_all))
      · skip
        refine vl_guard_f rfl rfl rfl rfl ?_
        refine vl_det (det_pick_t rfl rfl) rfl ?_
        exact vl_cut_end ⟨rfl, rfl, trivial⟩ (by first | rfl | exact bool_to_t (by first | omega | simp_all) | exact bool_to_f (by first | omega | simp_all) | exact bool_to (by first | omega | simp_all) | exact bool_to_b (by first | omega | simp_all))
    · skip
      refine vl_end [(0, _), (1, _), (18, _)] ⟨rfl, rfl, rfl, trivial⟩ ?_
      refine then_next ?_
      refine vc_decideU rfl (fun h18 => ?_) (fun h18 => ?_)
      · skip
        refine vc_seq ?_
        refine vc_region ?_
        refine vl_det (det_assign rfl) rfl ?_
        refine vl_det (det_assign rfl) rfl ?_
        refine vl_det (det_assign rfl) rfl ?_
        refine vl_end [(4, _), (5, _), (6, _)] ⟨rfl, rfl, rfl, trivial⟩ ?_
        refine then_next ?_
        refine vc_ret ?_
        refine then_ret ?_
        refine ret3_ rfl rfl rfl rfl ?_
        exact .inl ⟨by rw [efRd_a h18]; decide, by rw [efRd_a h18], rfl⟩
      · skip
        obtain ⟨bn, rfl⟩ := Int.eq_ofNat_of_zero_le (show 0 ≤ bound by omega)
        have hnb' := hnb (by omega)
        refine vc_skip ?_
        refine then_next ?_
        refine vc_seq ?_
        refine vc_region ?_
        refine vl_det (det_move rfl) rfl ?_
        refine vl_call co37 rfl (cnew_d hb (by omega)) rfl ?_
        rintro _ _ ⟨g20, A20, c20, rfl, hLL⟩
        obtain rfl := hLL.symm
        refine vl_det (det_assign rfl) rfl ?_
        refine vl_end [(0, _), (1, _), (7, _)] ⟨rfl, rfl, rfl, trivial⟩ ?_
        refine then_next ?_
        refine vc_seq ?_
        refine vc_region ?_
        refine vl_det (det_move rfl) rfl ?_
        refine vl_det (det_move rfl) rfl ?_
        refine vl_call co38 rfl (hint (by first | (exact Bor.own (by repeat (first | exact List.Mem.head _ | apply List.Mem.tail))) | (repeat (first | assumption | apply Bor.cons)))) rfl ?_
        rintro _ _ ⟨rfl, hLL⟩
        obtain rfl := hLL.symm
        refine vl_det (det_assign rfl) rfl ?_
        refine vl_end [(0, _), (1, _), (7, _), (8, _)] ⟨rfl, rfl, rfl, rfl, trivial⟩ ?_
        refine then_next ?_
        refine vc_seq ?_
        refine vc_seq ?_
        refine vc_region ?_
        refine vl_det (det_move rfl) rfl ?_
        refine vl_call co39 rfl (cerr_d) rfl ?_
        rintro _ _ ⟨rfl, hLL⟩
        obtain rfl := hLL.symm
        refine vl_det (det_assign rfl) rfl ?_
        refine vl_end [(0, _), (1, _), (7, _), (8, _), (9, _)] ⟨rfl, rfl, rfl, rfl, rfl, trivial⟩ ?_
        refine then_next ?_
        refine vc_seq ?_
        refine vc_region ?_
        refine vl_det (det_move rfl) rfl ?_
        refine vl_det (det_neq rfl rfl) rfl ?_
        refine vl_end [(0, _), (1, _), (7, _), (8, _), (9, _), (27, _)] ⟨rfl, rfl, rfl, rfl, rfl, rfl, trivial⟩ ?_
        refine then_next ?_
        refine vc_decideU rfl (fun h27 => ?_) (fun h27 => ?_)
        · skip
          refine vc_seq ?_
          refine vc_region ?_
          refine vl_det (det_move rfl) rfl ?_
          refine vl_det (det_assign rfl) rfl ?_
          refine vl_det (det_assign rfl) rfl ?_
          refine vl_det (det_assign rfl) rfl ?_
          refine vl_end [(4, _), (5, _), (6, _)] ⟨rfl, rfl, rfl, trivial⟩ ?_
          refine then_next ?_
          refine vc_ret ?_
          refine then_ret ?_
          refine ret_wk (L' := F) (.skip (.skip (.refl _))) ?_
          refine ret3_ rfl rfl rfl rfl ?_
          exact .inl ⟨by rw [efRd_b h18 h27]; exact h27, by rw [efRd_b h18 h27], rfl⟩
        · skip
          refine vc_skip ?_
          refine then_next ?_
          refine vc_seq ?_
          refine vc_seq ?_
          refine vc_region ?_
          refine vl_det (det_move rfl) rfl ?_
          refine vl_det (det_eql rfl rfl) rfl ?_
          refine vl_end [(0, _), (1, _), (7, _), (8, _), (30, _)] ⟨rfl, rfl, rfl, rfl, rfl, trivial⟩ ?_
          refine then_next ?_
          refine vc_decideU rfl (fun h30 => ?_) (fun h30 => ?_)
          · skip
            refine vc_seq ?_
            refine vc_nil_row 57 1 none ?_
            refine vc_nil_row 3 1 none ?_
            refine vc_perm ((pu2 (pu2 (pu0 (pu0 (.refl _)))))) ?_
            refine vc_region ?_
            refine vl_det (det_build0 [.int .i64 0, .slice none 0 0, .slice none 0 0] (by kernel_rfl)) rfl ?_
            refine vl_eff (eff_box rfl rfl) rfl ?_
            rintro _ _ ⟨g32, rfl, rfl⟩
            refine vl_det (det_move rfl) rfl ?_
            refine vl_call co40 rfl ((cat_d).reperm ((pu1 (pu0 (.refl _))))) rfl ?_
            rintro _ _ ⟨rfl, hLL⟩
            obtain rfl := hLL.symm
            refine vl_det (det_assign rfl) rfl ?_
            refine vl_det (det_assign rfl) rfl ?_
            refine vl_det (det_assign rfl) rfl ?_
            refine vl_end [(4, _), (5, _), (6, _)] ⟨rfl, rfl, rfl, trivial⟩ ?_
            refine then_next ?_
            refine vc_ret ?_
            refine then_ret ?_
            have hz := efRd_c (b := b) h18 h27 (show rdN bn b = 0 by omega)
            refine ret_wk (L' := Rl g32 0 1 none 0 none 0 [] F) ((wu0 (wu2 (wu2 (.skip (.skip (.refl _))))))) ?_
            refine ret3_ rfl rfl rfl rfl ?_
            exact .inr ⟨by rw [hz], 0, 1, g32, none, 0, none, 0, rfl, by omega, by rw [hz], by rw [hz]⟩
          · skip
            refine vc_skip ?_
            refine then_next ?_
            refine vc_seq ?_
            refine vc_region ?_
            refine vl_det (det_move rfl) rfl ?_
            refine vl_det (det_move rfl) rfl ?_
            refine vl_det (det_move rfl) rfl ?_
            refine vl_det (det_move rfl) rfl ?_
            refine vl_call co40 rfl (cat_d) rfl ?_
            rintro _ _ ⟨rfl, hLL⟩
            obtain rfl := hLL.symm
            refine vl_det (det_slice_lo (i := (rdC bn b).at_) (size := 1) Try.underlying24 (by kernel_rfl) rfl rfl rfl hat) rfl ?_
            rw [show b.length - (rdC bn b).at_ = (b.drop (rdC bn b).at_).length from (List.length_drop ..).symm]
            refine vl_call co41 rfl ((row_d (bound := bn) (m := rdN bn b) (b := b.drop (rdC bn b).at_) (.cons (.cons hcut)) (by rw [List.length_drop]; omega) (by omega) (by omega) (by omega)).mono (R' := fun r L => r = .tuple #[.pointer none, .int .i64 0, .int .i64 (rdR bn b).2.2] ∧ L = Cv g20 A20 c20 (rdC bn b) :: .own 5 1 A20 b.length c20 (bv b) :: F) (fun r L h => by rcases h with ⟨_, h⟩ | ⟨h1, _⟩; exact h; exact absurd h1 hRw)) rfl ?_
            rintro _ _ ⟨rfl, hLL⟩
            obtain rfl := hLL.symm
            refine vl_det (det_move rfl) rfl ?_
            refine vl_det (det_extract rfl rfl) rfl ?_
            refine vl_det (det_extract rfl rfl) rfl ?_
            refine vl_det (det_extract rfl rfl) rfl ?_
            refine vl_det (det_assign rfl) rfl ?_
            refine vl_det (det_assign rfl) rfl ?_
            refine vl_det (det_assign rfl) rfl ?_
            refine vl_end [(7, _), (10, _), (11, _), (12, _)] ⟨rfl, rfl, rfl, rfl, trivial⟩ ?_
            refine then_next ?_
            refine vc_seq ?_
            refine vc_seq ?_
            refine vc_region ?_
            refine vl_det (det_move rfl) rfl ?_
            refine vl_det (det_neq rfl rfl) rfl ?_
            refine vl_end [(7, _), (10, _), (11, _), (12, _), (47, _)] ⟨rfl, rfl, rfl, rfl, rfl, trivial⟩ ?_
            refine then_next ?_
            refine vc_decideU rfl (fun h47 => ?_) (fun h47 => ?_)
            · skip
              refine vc_seq ?_
              refine vc_region ?_
              refine vl_det (det_move rfl) rfl ?_
              refine vl_det (det_assign rfl) rfl ?_
              refine vl_det (det_assign rfl) rfl ?_
              refine vl_det (det_assign rfl) rfl ?_
              refine vl_end [(4, _), (5, _), (6, _)] ⟨rfl, rfl, rfl, trivial⟩ ?_
              refine then_next ?_
              refine vc_ret ?_
              refine then_ret ?_
              have hz := efRd_d (b := b) h18 h27 (show ¬ rdN bn b = 0 by omega) hRw
              refine ret_wk (L' := F) (.skip (.skip (.refl _))) ?_
              refine ret3_ rfl rfl rfl rfl ?_
              exact .inl ⟨by rw [hz]; exact hRw, by rw [hz], rfl⟩
            · skip
              exfalso; exact h47 hRw
end Go.Proofs.Ytpgmokfhcdibhaa

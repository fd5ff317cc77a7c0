/-
  Columns read: plain functions, and the walks. Conditions: at most 10^9 bytes.
-/
import Derived.Test.YtlbdhdocagahpaaRecP
import Derived.Test.YtlbdhdocagahpaaRep
namespace Go.Proofs.Ytlbdhdocagahpaa
open Go.RowKit
set_option linter.unusedVariables false
set_option maxRecDepth 20000
variable {B : Nat} {w0 : World} {F : List Ch} {A : Option Addr} {c g : Nat} {s : Cs}
def u64v (l : List Nat) : List Value := l.map fun (n : Nat) => Value.int .u64 (n : Int)
@[simp] theorem u64v_append (l k : List Nat) : u64v (l ++ k) = u64v l ++ u64v k := by simp [u64v]
@[simp] theorem u64v_length (l : List Nat) : (u64v l).length = l.length := by simp [u64v]
def addU (a b : Nat) : Nat := (a + b) % 18446744073709551616
theorem addU_wrap (a b : Nat) : IntKind.u64.wrap ((a : Int) + (b : Int)) = ((addU a b : Nat) : Int) := by
  show ((a : Int) + b) % 18446744073709551616 = _
  unfold addU; omega
theorem addU_lt (a b : Nat) : addU a b < 18446744073709551616 := Nat.mod_lt _ (by omega)
/-- times -/
def tmG : Nat → Nat → Cs → List Nat × Cs
  | 0, _, s => ([], s)
  | k + 1, was, s => if s.e = 0 then (addU was (zag s.num) :: (tmG k (addU was (zag s.num)) s.num').1, (tmG k (addU was (zag s.num)) s.num').2) else ([], s)
theorem tmG_bad {k was : Nat} {s : Cs} (h : ¬ s.e = 0) : tmG k was s = ([], s) := by cases k <;> simp [tmG, h]
/-- one run of levels -/
def lvX (s : Cs) : UInt8 := s.byte
def lvK (n : Nat) (s : Cs) (o : List UInt8) : Nat := s.byte'.int ((n : Int) - o.length)
def lvS (n : Nat) (s : Cs) (o : List UInt8) : Cs := s.byte'.int' ((n : Int) - o.length)
def lvBad (n : Nat) (s : Cs) (o : List UInt8) : Prop := (lvS n s o).e = 0 ∧ (lvK n s o = 0 ∨ 0 < o.length ∧ o.getD (o.length - 1) 0 = lvX s)
instance (n : Nat) (s : Cs) (o : List UInt8) : Decidable (lvBad n s o) := inferInstanceAs (Decidable (_ ∧ _))
def lvT (n : Nat) (s : Cs) (o : List UInt8) : Cs := if lvBad n s o then (lvS n s o).failed 2 else lvS n s o
def lvF : Nat → Nat → Cs → List UInt8 → List UInt8 × Cs
  | 0, _, s, o => (o, s)
  | f + 1, n, s, o => if o.length < n ∧ s.e = 0 then lvF f n (lvT n s o) (o ++ List.replicate (lvK n s o) (lvX s)) else (o, s)
theorem lvF_end {f n : Nat} {s : Cs} {o : List UInt8} (h : ¬ (o.length < n ∧ s.e = 0)) : lvF f n s o = (o, s) := by cases f <;> simp [lvF, h]
theorem lvF_go {f n : Nat} {s : Cs} {o : List UInt8} (h : o.length < n ∧ s.e = 0) : lvF (f + 1) n s o = lvF f n (lvT n s o) (o ++ List.replicate (lvK n s o) (lvX s)) := by rw [lvF, if_pos h]
theorem int'_b (s : Cs) (m : Int) : (s.int' m).b = s.b := Cs.moved_b _ _ _
theorem failed_b (s : Cs) (e : Int) : (s.failed e).b = s.b := by unfold Cs.failed; split <;> rfl
theorem lvS_b (n : Nat) (s : Cs) (o : List UInt8) : (lvS n s o).b = s.b := by simp [lvS, int'_b, byte'_b]
theorem lvT_b (n : Nat) (s : Cs) (o : List UInt8) : (lvT n s o).b = s.b := by unfold lvT; split <;> simp [failed_b, lvS_b]
theorem CsOk.lvS {n : Nat} {s : Cs} {o : List UInt8} (h : CsOk s) (hn : n ≤ 1000000000) : CsOk (lvS n s o) := h.byte'.int' (by omega)
theorem CsOk.lvT {n : Nat} {s : Cs} {o : List UInt8} (h : CsOk s) (hn : n ≤ 1000000000) : CsOk (lvT n s o) := by
  unfold Proofs.Ytlbdhdocagahpaa.lvT; split
  · exact (h.lvS hn).failed _
  · exact h.lvS hn
theorem int_le (s : Cs) (m : Int) (hm : 0 ≤ m) (hm2 : m ≤ 9223372036854775807) : (s.int m : Int) ≤ m := by
  unfold Cs.int
  split
  · exact hm
  · by_cases he : (limS s.rest m).2.2 = 0
    · exact (limS_facts s.rest m hm2).2.2.2 he
    · rw [(limS_err he).1]; exact hm
theorem lvK_le {n : Nat} {s : Cs} {o : List UInt8} (h : o.length ≤ n) (hn : n ≤ 1000000000) : o.length + lvK n s o ≤ n := by
  have := int_le s.byte' ((n : Int) - o.length) (by omega) (by omega)
  unfold lvK; omega
theorem lvT_ok {n : Nat} {s : Cs} {o : List UInt8} (h : (lvT n s o).e = 0) : ¬ lvBad n s o ∧ (lvS n s o).e = 0 ∧ lvT n s o = lvS n s o := by
  unfold lvT at h ⊢
  by_cases hb : lvBad n s o
  · rw [if_pos hb] at h
    unfold Cs.failed at h
    rw [if_pos hb.1] at h
    simp at h
  · rw [if_neg hb] at h ⊢
    exact ⟨hb, h, rfl⟩
theorem times_d (n : Nat) (ho : CsOk s) (hb : Bor B w0 F 1 (.slice A s.b.length c) s.b.length (bv s.b)) (hn : n ≤ 1000000000) :
    Does Try.prog B w0 48 [.agg #[.pointer (some ⟨g, 0, none⟩)], .int .i64 n] (Cv g A c s :: F) (fun r L => ∃ A' c', r = .slice A' (tmG n 0 s).1.length c' ∧ L = Cv g A c (tmG n 0 s).2 :: .own 42 1 A' (tmG n 0 s).1.length c' (u64v (tmG n 0 s).1) :: F) := by
  have hb1 : ∀ (s' : Cs), s'.b = s.b → Bor B w0 F 1 (.slice A s'.b.length c) s'.b.length (bv s'.b) := fun s' h => by rw [h]; exact hb
  refine fn_walk Try.func48 28 rfl rfl rfl [(0, .agg #[.pointer (some ⟨g, 0, none⟩)]), (1, .int .i64 n)] ⟨⟨rfl, rfl⟩, ⟨rfl, rfl⟩, trivial⟩ ?_
  refine vc_seq ?_
  refine vc_region ?_
  refine vl_eff (eff_box rfl rfl) rfl ?_
  rintro _ _ ⟨g2, rfl, rfl⟩
  refine vl_det (det_assign rfl) rfl ?_
  refine vl_end [(1, _), (2, _)] ⟨rfl, rfl, trivial⟩ ?_
  refine then_next ?_
  refine vc_seq ?_
  refine vc_nil_row 42 1 none ?_
  refine vc_region ?_
  refine vl_det (det_assign rfl) rfl ?_
  refine vl_end [(1, _), (2, _), (5, _)] ⟨rfl, rfl, rfl, trivial⟩ ?_
  refine then_next ?_
  refine vc_seq ?_
  refine vc_region ?_
  refine vl_det (det_assign rfl) rfl ?_
  refine vl_end [(1, _), (2, _), (5, _), (6, _)] ⟨rfl, rfl, rfl, rfl, trivial⟩ ?_
  refine then_next ?_
  refine vc_seq ?_
  refine vc_block ?_
  refine vc_loopJ (fun zf zL zm => ∃ (q was : Nat) (s' : Cs) (o : List Nat) (A5 : Option Addr) (c5 : Nat), (CsOk s' ∧ s'.b = s.b ∧ o.length + q = n ∧ tmG n 0 s = (o ++ (tmG q was s').1, (tmG q was s').2)) ∧ q = zm ∧ Sub zf [(1, .int .i64 n), (2, .pointer (some ⟨g2, 0, none⟩)), (5, .slice A5 o.length c5), (6, .int .u64 was)] ∧ Wk zL (Cv g A c s' :: .own 42 1 A5 o.length c5 (u64v o) :: .blk g2 63 [.pointer (some ⟨g, 0, none⟩)] :: F)) _ ⟨n, 0, s, [], none, 0, ⟨ho, rfl, by simp, rfl⟩, rfl, ⟨(by first | rfl | exact int_to (by omega) | exact sl_to (by omega)), (by first | rfl | exact int_to (by omega) | exact sl_to (by omega)), (by first | rfl | exact int_to (by omega) | exact sl_to (by omega)), (by first | rfl | exact int_to (by omega) | exact sl_to (by omega)), trivial⟩, .of_perm swp3⟩ ?_
  rintro _ _ _ ⟨q, was, s', o, A5, c5, ⟨ho', hsb, hq, hG⟩, rfl, hs, hp⟩
  refine vc_weaken _ hs (vc_wk hp ?_)
  clear hs hp
  refine vc_seq ?_
  refine vc_seq ?_
  refine vc_region ?_
  refine vl_cut 10 16 [(1, _), (2, _), (5, _), (6, _)] ((o.length : Int) < n ∧ s'.e = 0) ⟨rfl, rfl, rfl, rfl, trivial⟩ ?_ ?_
  · skip
    refine vl_det (det_move rfl) rfl ?_
    refine vl_det (det_len_sl Try.underlying52 rfl) rfl ?_
    refine vl_det (det_move rfl) rfl ?_
    refine vl_det (det_lss rfl rfl) rfl ?_
    refine vl_det (det_move rfl) rfl ?_
    refine vl_guardp rfl rfl rfl (fun h11 => ?_) (fun h11 => ?_)
    · skip
      refine vl_det (det_fieldAddr_ Try.underlying63 rfl (by kernel_rfl) rfl rfl) rfl ?_
      refine vl_guard_t rfl rfl ?_
      refine vl_det (det_load_blk (by kernel_rfl) rfl (by repeat (first | exact .hd | apply Sel.tl)) rfl) rfl ?_
      refine vl_guard_t rfl rfl ?_
      refine vl_call co38 rfl (cerr_d) rfl ?_
      rintro _ _ ⟨rfl, hLL⟩
      obtain rfl := hLL.symm
      refine vl_guard_t rfl rfl ?_
      refine vl_det (det_eql rfl rfl) rfl ?_
      refine vl_det (det_pick_t rfl rfl) rfl ?_
      exact vl_cut_end ⟨rfl, rfl, rfl, rfl, trivial⟩ (by first | rfl | exact bool_to_t (by first | omega | simp_all) | exact bool_to_f (by first | omega | simp_all) | exact bool_to (by first | omega | simp_all) | exact bool_to_b (by first | omega | simp_all))
    · skip
      refine vl_guard_f rfl rfl rfl rfl ?_
      refine vl_guard_f rfl rfl rfl rfl ?_
      refine vl_guard_f rfl rfl rfl rfl ?_
      refine vl_det (det_pick_f rfl rfl) rfl ?_
      exact vl_cut_end ⟨rfl, rfl, rfl, rfl, trivial⟩ (by first | rfl | exact bool_to_t (by first | omega | simp_all) | exact bool_to_f (by first | omega | simp_all) | exact bool_to (by first | omega | simp_all) | exact bool_to_b (by first | omega | simp_all))
  · skip
    refine vl_end [(1, _), (2, _), (5, _), (6, _), (16, _)] ⟨rfl, rfl, rfl, rfl, rfl, trivial⟩ ?_
    refine then_next ?_
    refine vc_decideU rfl (fun h16 => ?_) (fun h16 => ?_)
    · skip
      have hnl : s'.num < 18446744073709551616 := by
        unfold Cs.num
        split
        · omega
        · exact (scanS_facts _).1
      obtain ⟨q', rfl⟩ : ∃ q', q = q' + 1 := ⟨q - 1, by omega⟩
      refine vc_skip ?_
      refine then_next ?_
      refine vc_block ?_
      refine vc_seq ?_
      refine vc_region ?_
      refine vl_det (det_move rfl) rfl ?_
      refine vl_det (det_fieldAddr_ Try.underlying63 rfl (by kernel_rfl) rfl rfl) rfl ?_
      refine vl_det (det_load_blk (by kernel_rfl) rfl (by repeat (first | exact .hd | apply Sel.tl)) rfl) rfl ?_
      refine vl_call co59 rfl (cnum_d ho' (.cons (.cons (hb1 s' hsb)))) rfl ?_
      rintro _ _ ⟨rfl, hLL⟩
      obtain rfl := hLL.symm
      refine vl_call co64 rfl (zag_d _ hnl) rfl ?_
      rintro _ _ ⟨rfl, hLL⟩
      obtain rfl := hLL.symm
      refine vl_det (det_add rfl rfl (addU_wrap _ _)) rfl ?_
      refine vl_det (det_assign rfl) rfl ?_
      refine vl_end [(1, _), (2, _), (5, _), (6, _)] ⟨rfl, rfl, rfl, rfl, trivial⟩ ?_
      refine then_next ?_
      refine vc_region ?_
      refine vl_det (det_move rfl) rfl ?_
      refine vl_det (det_move rfl) rfl ?_
      refine vl_push slT52 rfl rfl rfl rfl rfl (fun _ => rfl) (by repeat (first | exact .hd | apply Sel.tl)) (by omega) (by omega) ?_
      intro _ A26 c26
      refine vl_det (det_assign rfl) rfl ?_
      refine vl_end [(1, _), (2, _), (5, _), (6, _)] ⟨rfl, rfl, rfl, rfl, trivial⟩ ?_
      refine in_normal ?_
      have el : o.length + 1 = (o ++ [addU was (zag s'.num)]).length := by simp
      rw [el]
      refine in_loop_ ⟨_, by omega, q', addU was (zag s'.num), s'.num', o ++ [addU was (zag s'.num)], A26, c26, ⟨ho'.num', (num'_b _).trans hsb, by simp; omega, by rw [hG, tmG, if_pos h16.2]; simp⟩, rfl, ⟨(by first | rfl | exact int_to (by omega) | exact sl_to (by omega)), (by first | rfl | exact int_to (by omega) | exact sl_to (by omega)), (by first | rfl | exact int_to (by omega) | exact sl_to (by omega)), (by first | rfl | exact int_to (by omega) | exact sl_to (by omega)), trivial⟩, .cons (wk_own rfl (by simp [u64v]) (.refl _))⟩
    · skip
      refine vc_exit ?_
      refine then_exit ?_
      refine loop_exit ?_
      refine in_eq ?_
      refine then_next ?_
      refine vc_seq ?_
      refine vc_region ?_
      refine vl_det (det_move rfl) rfl ?_
      refine vl_det (det_assign rfl) rfl ?_
      refine vl_end [(4, _)] ⟨rfl, trivial⟩ ?_
      refine then_next ?_
      refine vc_ret ?_
      have hz : tmG n 0 s = (o, s') := by
        rw [hG]
        by_cases h0 : s'.e = 0
        · have : q = 0 := by omega
          subst this; simp [tmG]
        · rw [tmG_bad h0]; simp
      rw [hz]
      refine ret_wk (L' := Cv g A c s' :: .own 42 1 A5 o.length c5 (u64v o) :: F) (.cons (.cons (.skip (.refl _)))) ?_
      refine ret1 rfl rfl ?_
      exact ⟨A5, c5, rfl, rfl⟩
theorem levels_d (n : Nat) (ho : CsOk s) (hb : Bor B w0 F 1 (.slice A s.b.length c) s.b.length (bv s.b)) (hn : n ≤ 1000000000) :
    Does Try.prog B w0 49 [.agg #[.pointer (some ⟨g, 0, none⟩)], .int .i64 n] (Cv g A c s :: F) (fun r L => ∃ A' c', r = .slice A' (lvF (n + 1) n s []).1.length c' ∧ L = Cv g A c (lvF (n + 1) n s []).2 :: .own 5 1 A' (lvF (n + 1) n s []).1.length c' (bv (lvF (n + 1) n s []).1) :: F) := by
  have hb1 : ∀ (s' : Cs), s'.b = s.b → Bor B w0 F 1 (.slice A s'.b.length c) s'.b.length (bv s'.b) := fun s' h => by rw [h]; exact hb
  refine fn_walk Try.func49 61 rfl rfl rfl [(0, .agg #[.pointer (some ⟨g, 0, none⟩)]), (1, .int .i64 n)] ⟨⟨rfl, rfl⟩, ⟨rfl, rfl⟩, trivial⟩ ?_
  refine vc_seq ?_
  refine vc_region ?_
  refine vl_eff (eff_box rfl rfl) rfl ?_
  rintro _ _ ⟨g2, rfl, rfl⟩
  refine vl_det (det_assign rfl) rfl ?_
  refine vl_end [(1, _), (2, _)] ⟨rfl, rfl, trivial⟩ ?_
  refine then_next ?_
  refine vc_seq ?_
  refine vc_nil_row 5 1 none ?_
  refine vc_region ?_
  refine vl_det (det_assign rfl) rfl ?_
  refine vl_end [(1, _), (2, _), (5, _)] ⟨rfl, rfl, rfl, trivial⟩ ?_
  refine then_next ?_
  refine vc_seq ?_
  refine vc_block ?_
  refine vc_loopJ (fun zf zL zm => ∃ (f : Nat) (s' : Cs) (o : List UInt8) (A5 : Option Addr) (c5 : Nat), (CsOk s' ∧ s'.b = s.b ∧ o.length ≤ n ∧ (s'.e = 0 → n - o.length < f) ∧ lvF f n s' o = lvF (n + 1) n s []) ∧ f = zm ∧ Sub zf [(1, .int .i64 n), (2, .pointer (some ⟨g2, 0, none⟩)), (5, .slice A5 o.length c5)] ∧ Wk zL (Cv g A c s' :: .own 5 1 A5 o.length c5 (bv o) :: .blk g2 63 [.pointer (some ⟨g, 0, none⟩)] :: F)) _ ⟨n + 1, s, [], none, 0, ⟨ho, rfl, Nat.zero_le _, fun _ => by simp, rfl⟩, rfl, ⟨(by first | rfl | exact int_to (by omega) | exact sl_to (by omega)), (by first | rfl | exact int_to (by omega) | exact sl_to (by omega)), (by first | rfl | exact int_to (by omega) | exact sl_to (by omega)), trivial⟩, .of_perm swp3⟩ ?_
  rintro _ _ _ ⟨f, s', o, A5, c5, ⟨ho', hsb, hol, hf, hG⟩, rfl, hs, hp⟩
  refine vc_weaken _ hs (vc_wk hp ?_)
  clear hs hp
  refine vc_seq ?_
  refine vc_seq ?_
  refine vc_region ?_
  refine vl_cut 10 17 [(1, _), (2, _), (5, _)] ((o.length : Int) < n ∧ s'.e = 0) ⟨rfl, rfl, rfl, trivial⟩ ?_ ?_
  · skip
    refine vl_det (det_move rfl) rfl ?_
    refine vl_det (det_len_sl Try.underlying32 rfl) rfl ?_
    refine vl_det (det_move rfl) rfl ?_
    refine vl_det (det_lss rfl rfl) rfl ?_
    refine vl_det (det_move rfl) rfl ?_
    refine vl_guardp rfl rfl rfl (fun h12 => ?_) (fun h12 => ?_)
    · skip
      refine vl_det (det_fieldAddr_ Try.underlying63 rfl (by kernel_rfl) rfl rfl) rfl ?_
      refine vl_guard_t rfl rfl ?_
      refine vl_det (det_load_blk (by kernel_rfl) rfl (by repeat (first | exact .hd | apply Sel.tl)) rfl) rfl ?_
      refine vl_guard_t rfl rfl ?_
      refine vl_call co38 rfl (cerr_d) rfl ?_
      rintro _ _ ⟨rfl, hLL⟩
      obtain rfl := hLL.symm
      refine vl_guard_t rfl rfl ?_
      refine vl_det (det_eql rfl rfl) rfl ?_
      refine vl_det (det_pick_t rfl rfl) rfl ?_
      exact vl_cut_end ⟨rfl, rfl, rfl, trivial⟩ (by first | rfl | exact bool_to_t (by first | omega | simp_all) | exact bool_to_f (by first | omega | simp_all) | exact bool_to (by first | omega | simp_all) | exact bool_to_b (by first | omega | simp_all))
    · skip
      refine vl_guard_f rfl rfl rfl rfl ?_
      refine vl_guard_f rfl rfl rfl rfl ?_
      refine vl_guard_f rfl rfl rfl rfl ?_
      refine vl_det (det_pick_f rfl rfl) rfl ?_
      exact vl_cut_end ⟨rfl, rfl, rfl, trivial⟩ (by first | rfl | exact bool_to_t (by first | omega | simp_all) | exact bool_to_f (by first | omega | simp_all) | exact bool_to (by first | omega | simp_all) | exact bool_to_b (by first | omega | simp_all))
  · skip
    refine vl_end [(1, _), (2, _), (5, _), (17, _)] ⟨rfl, rfl, rfl, rfl, trivial⟩ ?_
    refine then_next ?_
    refine vc_decideU rfl (fun h17 => ?_) (fun h17 => ?_)
    · skip
      obtain ⟨f', rfl⟩ : ∃ f', f = f' + 1 := ⟨f - 1, by have := hf h17.2; omega⟩
      have hkl := lvK_le (s := s') hol hn
      have hf' := hf h17.2
      have hLb : Bor B w0 (.own 5 1 A5 o.length c5 (bv o) :: .blk g2 63 [.pointer (some ⟨g, 0, none⟩)] :: F) 1 (.slice A s'.b.length c) s'.b.length (bv s'.b) := .cons (.cons (hb1 s' hsb))
      have hbyte : Does Try.prog B w0 60 [.pointer (some ⟨g, 0, none⟩)] _ (fun r L => r = .int .u8 ((lvX s').toNat : Int) ∧ L = _) := cbyte_d (g := g) ho' hLb
      have hint : Does Try.prog B w0 65 [.pointer (some ⟨g, 0, none⟩), .int .i64 ((n : Int) - o.length)] _ (fun r L => r = .int .i64 (lvK n s' o) ∧ L = Cv g A c (lvS n s' o) :: _) := cint_d (g := g) ho'.byte' (by rw [byte'_b]; exact hLb) (by omega) (by omega)
      refine vc_skip ?_
      refine then_next ?_
      refine vc_block ?_
      refine vc_seq ?_
      refine vc_region ?_
      refine vl_det (det_fieldAddr_ Try.underlying63 rfl (by kernel_rfl) rfl rfl) rfl ?_
      refine vl_det (det_load_blk (by kernel_rfl) rfl (by repeat (first | exact .hd | apply Sel.tl)) rfl) rfl ?_
      refine vl_call co60 rfl (hbyte) rfl ?_
      rintro _ _ ⟨rfl, hLL⟩
      obtain rfl := hLL.symm
      refine vl_det (det_assign rfl) rfl ?_
      refine vl_end [(1, _), (2, _), (5, _), (6, _)] ⟨rfl, rfl, rfl, rfl, trivial⟩ ?_
      refine then_next ?_
      refine vc_seq ?_
      refine vc_region ?_
      refine vl_det (det_fieldAddr_ Try.underlying63 rfl (by kernel_rfl) rfl rfl) rfl ?_
      refine vl_det (det_load_blk (by kernel_rfl) rfl (by repeat (first | exact .hd | apply Sel.tl)) rfl) rfl ?_
      refine vl_det (det_move rfl) rfl ?_
      refine vl_det (det_move rfl) rfl ?_
      refine vl_det (det_len_sl Try.underlying32 rfl) rfl ?_
      refine vl_det (det_sub rfl rfl (w_i64 (by omega) (by omega))) rfl ?_
      refine vl_call co65 rfl (hint) rfl ?_
      rintro _ _ ⟨rfl, hLL⟩
      obtain rfl := hLL.symm
      refine vl_det (det_assign rfl) rfl ?_
      refine vl_end [(1, _), (2, _), (5, _), (6, _), (7, _)] ⟨rfl, rfl, rfl, rfl, rfl, trivial⟩ ?_
      refine then_next ?_
      refine vc_seqJ (fun zf zL => Sub zf [(1, .int .i64 n), (2, .pointer (some ⟨g2, 0, none⟩)), (5, .slice A5 o.length c5), (6, .int .u8 (lvX s').toNat), (7, .int .i64 (lvK n s' o))] ∧ Wk zL (Cv g A c (lvT n s' o) :: .own 5 1 A5 o.length c5 (bv o) :: .blk g2 63 [.pointer (some ⟨g, 0, none⟩)] :: F)) ?_ ?_
      · skip
        refine vc_seq ?_
        refine vc_region ?_
        refine vl_cut 23 50 [(1, _), (2, _), (5, _), (6, _), (7, _)] ((lvS n s' o).e = 0 ∧ ((lvK n s' o : Int) = 0 ∨ (0 : Int) < o.length ∧ ((o.getD (o.length - 1) 0).toNat : Int) = ((lvX s').toNat : Int))) ⟨rfl, rfl, rfl, rfl, rfl, trivial⟩ ?_ ?_
        · skip
          refine vl_det (det_fieldAddr_ Try.underlying63 rfl (by kernel_rfl) rfl rfl) rfl ?_
          refine vl_det (det_load_blk (by kernel_rfl) rfl (by repeat (first | exact .hd | apply Sel.tl)) rfl) rfl ?_
          refine vl_call co38 rfl (cerr_d) rfl ?_
          rintro _ _ ⟨rfl, hLL⟩
          obtain rfl := hLL.symm
          refine vl_det (det_eql rfl rfl) rfl ?_
          refine vl_det (det_move rfl) rfl ?_
          refine vl_guardp rfl rfl rfl (fun h32 => ?_) (fun h32 => ?_)
          · skip
            refine vl_det (det_move rfl) rfl ?_
            refine vl_guard_t rfl rfl ?_
            refine vl_det (det_eql rfl rfl) rfl ?_
            refine vl_guard_t rfl rfl ?_
            refine vl_det (det_move rfl) rfl ?_
            refine vl_guardn rfl rfl rfl (fun h35 => ?_) (fun h35 => ?_)
            · skip
              refine vl_det (det_move rfl) rfl ?_
              refine vl_guard_t rfl rfl ?_
              refine vl_det (det_len_sl Try.underlying32 rfl) rfl ?_
              refine vl_guard_t rfl rfl ?_
              refine vl_det (det_gtr rfl rfl) rfl ?_
              refine vl_guard_t rfl rfl ?_
              refine vl_det (det_move rfl) rfl ?_
              refine vl_guardp rfl rfl rfl (fun h39 => ?_) (fun h39 => ?_)
              · skip
                refine vl_det (det_move rfl) rfl ?_
                refine vl_guard_t rfl rfl ?_
                refine vl_det (det_move rfl) rfl ?_
                refine vl_guard_t rfl rfl ?_
                refine vl_det (det_len_sl Try.underlying32 rfl) rfl ?_
                refine vl_guard_t rfl rfl ?_
                refine vl_det (det_sub rfl rfl (r := ((o.length - 1 : Nat) : Int)) ((w_i64 (by omega) (by omega)).trans (by omega))) rfl ?_
                refine vl_guard_t rfl rfl ?_
                refine vl_det (det_indexAddr (size := 1) Try.underlying32 (by kernel_rfl) rfl rfl rfl (by omega) (by first | (exact Bor.own (by repeat (first | exact List.Mem.head _ | apply List.Mem.tail))) | (repeat (first | assumption | apply Bor.cons)))) rfl ?_
                refine vl_guard_t rfl rfl ?_
                refine vl_det (det_load_u8 (by kernel_rfl) rfl (by first | (exact Bor.own (by repeat (first | exact List.Mem.head _ | apply List.Mem.tail))) | (repeat (first | assumption | apply Bor.cons))) (by omega)) rfl ?_
                refine vl_guard_t rfl rfl ?_
                refine vl_det (det_move rfl) rfl ?_
                refine vl_guard_t rfl rfl ?_
                refine vl_det (det_eql rfl rfl) rfl ?_
                refine vl_guard_t rfl rfl ?_
                refine vl_det (det_pick_t rfl rfl) rfl ?_
                refine vl_guard_t rfl rfl ?_
                refine vl_det (det_pick_f rfl rfl) rfl ?_
                refine vl_det (det_pick_t rfl rfl) rfl ?_
                exact vl_cut_end ⟨rfl, rfl, rfl, rfl, rfl, trivial⟩ (by first | rfl | exact bool_to_t (by first | omega | simp_all) | exact bool_to_f (by first | omega | simp_all) | exact bool_to (by first | omega | simp_all) | exact bool_to_b (by first | omega | simp_all))
              · skip
                refine vl_guard_f rfl rfl rfl rfl ?_
                refine vl_guard_f rfl rfl rfl rfl ?_
                refine vl_guard_f rfl rfl rfl rfl ?_
                refine vl_guard_f rfl rfl rfl rfl ?_
                refine vl_guard_f rfl rfl rfl rfl ?_
                refine vl_guard_f rfl rfl rfl rfl ?_
                refine vl_guard_f rfl rfl rfl rfl ?_
                refine vl_guard_t rfl rfl ?_
                refine vl_det (det_pick_f rfl rfl) rfl ?_
                refine vl_guard_t rfl rfl ?_
                refine vl_det (det_pick_f rfl rfl) rfl ?_
                refine vl_det (det_pick_t rfl rfl) rfl ?_
                exact vl_cut_end ⟨rfl, rfl, rfl, rfl, rfl, trivial⟩ (by first | rfl | exact bool_to_t (by first | omega | simp_all) | exact bool_to_f (by first | omega | simp_all) | exact bool_to (by first | omega | simp_all) | exact bool_to_b (by first | omega | simp_all))
            · skip
              refine vl_guard_f rfl rfl rfl rfl ?_
              refine vl_guard_f rfl rfl rfl rfl ?_
              refine vl_guard_f rfl rfl rfl rfl ?_
              refine vl_guard_u rfl rfl rfl ?_
              refine vl_guard_u rfl rfl rfl ?_
              refine vl_guard_u rfl rfl rfl ?_
              refine vl_guard_u rfl rfl rfl ?_
              refine vl_guard_u rfl rfl rfl ?_
              refine vl_guard_u rfl rfl rfl ?_
              refine vl_guard_u rfl rfl rfl ?_
              refine vl_guard_u rfl rfl rfl ?_
              refine vl_guard_f rfl rfl rfl rfl ?_
              refine vl_guard_t rfl rfl ?_
              refine vl_det (det_pick_t rfl rfl) rfl ?_
              refine vl_det (det_pick_t rfl rfl) rfl ?_
              exact vl_cut_end ⟨rfl, rfl, rfl, rfl, rfl, trivial⟩ (by first | rfl | exact bool_to_t (by first | omega | simp_all) | exact bool_to_f (by first | omega | simp_all) | exact bool_to (by first | omega | simp_all) | exact bool_to_b (by first | omega | simp_all))
          · skip
            refine vl_guard_f rfl rfl rfl rfl ?_
            refine vl_guard_f rfl rfl rfl rfl ?_
            refine vl_guard_u rfl rfl rfl ?_
            refine vl_guard_u rfl rfl rfl ?_
            refine vl_guard_u rfl rfl rfl ?_
            refine vl_guard_u rfl rfl rfl ?_
            refine vl_guard_u rfl rfl rfl ?_
            refine vl_guard_u rfl rfl rfl ?_
            refine vl_guard_u rfl rfl rfl ?_
            refine vl_guard_u rfl rfl rfl ?_
            refine vl_guard_u rfl rfl rfl ?_
            refine vl_guard_u rfl rfl rfl ?_
            refine vl_guard_u rfl rfl rfl ?_
            refine vl_guard_u rfl rfl rfl ?_
            refine vl_guard_u rfl rfl rfl ?_
            refine vl_guard_f rfl rfl rfl rfl ?_
            refine vl_det (det_pick_f rfl rfl) rfl ?_
            exact vl_cut_end ⟨rfl, rfl, rfl, rfl, rfl, trivial⟩ (by first | rfl | exact bool_to_t (by first | omega | simp_all) | exact bool_to_f (by first | omega | simp_all) | exact bool_to (by first | omega | simp_all) | exact bool_to_b (by first | omega | simp_all))
        · skip
          refine vl_end [(1, _), (2, _), (5, _), (6, _), (7, _), (50, _)] ⟨rfl, rfl, rfl, rfl, rfl, rfl, trivial⟩ ?_
          refine then_next ?_
          refine vc_decideU rfl (fun h50 => ?_) (fun h50 => ?_)
          · skip
            refine vc_region ?_
            refine vl_det (det_fieldAddr_ Try.underlying63 rfl (by kernel_rfl) rfl rfl) rfl ?_
            refine vl_det (det_load_blk (by kernel_rfl) rfl (by repeat (first | exact .hd | apply Sel.tl)) rfl) rfl ?_
            refine vl_call co66 rfl (cfail_d 2) rfl ?_
            rintro _ _ ⟨rfl, hLL⟩
            obtain rfl := hLL.symm
            refine vl_end [(1, _), (2, _), (5, _), (6, _), (7, _)] ⟨rfl, rfl, rfl, rfl, rfl, trivial⟩ ?_
            have hbad : lvBad n s' o := ⟨h50.1, by rcases h50.2 with h | h; exact .inl (by omega); exact .inr ⟨by omega, UInt8.toNat_inj.1 (by omega)⟩⟩
            have hT : lvT n s' o = (lvS n s' o).failed 2 := if_pos hbad
            rw [hT]
            exact in_join ⟨⟨(by first | rfl | exact int_to (by omega) | exact sl_to (by omega)), (by first | rfl | exact int_to (by omega) | exact sl_to (by omega)), (by first | rfl | exact int_to (by omega) | exact sl_to (by omega)), (by first | rfl | exact int_to (by omega) | exact sl_to (by omega)), (by first | rfl | exact int_to (by omega) | exact sl_to (by omega)), trivial⟩, .refl _⟩
          · skip
            refine vc_skip ?_
            have hbad : ¬ lvBad n s' o := fun h => h50 ⟨h.1, by rcases h.2 with h | h; exact .inl (by omega); exact .inr ⟨by omega, by rw [h.2]⟩⟩
            have hT : lvT n s' o = lvS n s' o := if_neg hbad
            rw [hT]
            exact in_join ⟨⟨(by first | rfl | exact int_to (by omega) | exact sl_to (by omega)), (by first | rfl | exact int_to (by omega) | exact sl_to (by omega)), (by first | rfl | exact int_to (by omega) | exact sl_to (by omega)), (by first | rfl | exact int_to (by omega) | exact sl_to (by omega)), (by first | rfl | exact int_to (by omega) | exact sl_to (by omega)), trivial⟩, .refl _⟩
      · rintro _ _ ⟨hs, hp⟩
        refine vc_weaken _ hs (vc_wk hp ?_)
        clear hs hp
        refine vc_region ?_
        refine vl_det (det_move rfl) rfl ?_
        refine vl_det (det_move rfl) rfl ?_
        refine vl_eff (eff_build_lit slT32 [_] rfl rfl (by first | exact bv_one _ | exact strs_one _ | exact ints_one _ _ | (simp; done) | (simp [Value.oneCell']; done) | assumption) (by omega) (by omega)) rfl ?_
        rintro _ _ ⟨A56, rfl, rfl⟩
        refine vl_det (det_move rfl) rfl ?_
        refine vl_call co67 rfl (repeat_d (lvX s') (lvK n s' o) (by first | (exact Bor.own (by repeat (first | exact List.Mem.head _ | apply List.Mem.tail))) | (repeat (first | assumption | apply Bor.cons))) (by omega)) rfl ?_
        rintro _ _ ⟨A58, c58, rfl, hLL⟩
        obtain rfl := hLL.symm
        refine vl_eff (eff_app slT32 rfl (by repeat (first | exact .hd | apply Sel.tl)) rfl (by first | (exact Bor.own (by repeat (first | exact List.Mem.head _ | apply List.Mem.tail))) | (repeat (first | assumption | apply Bor.cons))) (by first | exact bv_one _ | exact strs_one _ | exact ints_one _ _ | (simp; done) | (simp [Value.oneCell']; done) | assumption) (by omega) (by omega)) rfl ?_
        rintro _ _ ⟨A59, c59, rfl, rfl⟩
        refine vl_det (det_assign rfl) rfl ?_
        refine vl_end [(1, _), (2, _), (5, _)] ⟨rfl, rfl, rfl, trivial⟩ ?_
        refine in_normal ?_
        have el : o.length + lvK n s' o = (o ++ List.replicate (lvK n s' o) (lvX s')).length := by simp
        have hgo := lvF_go (f := f') (n := n) (s := s') (o := o) ⟨by omega, h17.2⟩
        rw [hG] at hgo
        rw [el]
        refine in_loop_ ⟨_, by omega, f', lvT n s' o, o ++ List.replicate (lvK n s' o) (lvX s'), A59, c59, ⟨ho'.lvT hn, (lvT_b _ _ _).trans hsb, by rw [← el]; exact hkl, fun h => by rw [← el]; have h1 := (lvT_ok h).1; have h2 := (lvT_ok h).2.1; have h3 : lvK n s' o ≠ 0 := fun hz => h1 ⟨h2, .inl hz⟩; omega, hgo.symm⟩, rfl, ⟨(by first | rfl | exact int_to (by omega) | exact sl_to (by omega)), (by first | rfl | exact int_to (by omega) | exact sl_to (by omega)), (by first | rfl | exact int_to (by omega) | exact sl_to (by omega)), trivial⟩, .skip (.skip (.cons (wk_own rfl (by simp) (.refl _))))⟩
    · skip
      refine vc_exit ?_
      refine then_exit ?_
      refine loop_exit ?_
      refine in_eq ?_
      refine then_next ?_
      refine vc_seq ?_
      refine vc_region ?_
      refine vl_det (det_move rfl) rfl ?_
      refine vl_det (det_assign rfl) rfl ?_
      refine vl_end [(4, _)] ⟨rfl, trivial⟩ ?_
      refine then_next ?_
      refine vc_ret ?_
      have hz : lvF (n + 1) n s [] = (o, s') := by rw [← hG, lvF_end (by omega)]
      rw [hz]
      refine ret_wk (L' := Cv g A c s' :: .own 5 1 A5 o.length c5 (bv o) :: F) (.cons (.cons (.skip (.refl _)))) ?_
      refine ret1 rfl rfl ?_
      exact ⟨A5, c5, rfl, rfl⟩
end Go.Proofs.Ytlbdhdocagahpaa

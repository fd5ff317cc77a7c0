/-
  Texts of one proof, joined: part 7. No condition.
-/
import Derived.Test.YtpamjobiohbibaaGreatGb6
namespace Go.Proofs.YtpamjobiohbibaaGreat
open Go.RowKit
set_option linter.unusedVariables false
set_option maxRecDepth 20000
variable {B : Nat} {w0 : World} {F L0 : List Ch} {A : Option Addr} {n c g h3 h5 : Nat} {s : Cs} {C0 : Ch}
structure CsOk (s : Cs) : Prop where
  at_ : s.at_ ≤ s.b.length
  len : s.b.length ≤ 1099511627776
theorem CsOk.rest {s : Cs} (h : CsOk s) : s.rest.length = s.left ∧ s.left ≤ 1099511627776 := by
  have := h.at_; have := h.len
  exact ⟨by simp [Cs.rest, Cs.left], by unfold Cs.left; omega⟩
theorem CsOk.moved {s : Cs} (h : CsOk s) {k : Nat} {e : Int} (hk : e = 0 → k ≤ s.left) : CsOk (s.moved k e) := by
  unfold Cs.moved
  split
  · exact h
  · split
    · exact ⟨h.at_, h.len⟩
    · rename_i h1
      have := hk (by simpa using h1)
      have := h.at_
      unfold Cs.left at *
      exact ⟨by simp only; omega, h.len⟩
theorem CsOk.num' {s : Cs} (h : CsOk s) : CsOk s.num' := h.moved fun _ => by have := (scanS_facts s.rest).2.1; rw [h.rest.1] at this; exact this
theorem CsOk.int' {s : Cs} (h : CsOk s) {m : Int} (hm : m ≤ 9223372036854775807) : CsOk (s.int' m) := h.moved fun _ => by have := (limS_facts s.rest m hm).2.1; rw [h.rest.1] at this; exact this
theorem takeErr_le {l : List UInt8} {n : Int} (h : takeErr l n = 0) : 0 ≤ n ∧ n.toNat ≤ l.length := by
  unfold takeErr at h
  split at h
  · cases h
  · split at h
    · cases h
    · omega
theorem CsOk.take' {s : Cs} (h : CsOk s) {n : Int} : CsOk (s.take' n) := h.moved fun he => by have := (takeErr_le he).2; rw [h.rest.1] at this; exact this
theorem textS_le (l : List UInt8) (m : Int) (h : (textS l m).2.2 = 0) : (textS l m).2.1 ≤ l.length ∨ (textS l m).2.1 = 0 := by
  unfold textS at h ⊢
  split
  · exact .inr rfl
  · split
    · exact .inr rfl
    · rename_i h1 h2
      by_cases hz : (limS l m).1 = 0
      · left
        have hk : (limS l m).2.1 ≤ l.length := by
          unfold limS
          split
          · simp
          · split
            · simp
            · exact (scanS_facts l).2.1
        simp only
        omega
      · left; simp only; omega
theorem CsOk.text' {s : Cs} (h : CsOk s) {m : Int} : CsOk (s.text' m) := h.moved fun he => by
  have := textS_le s.rest m he
  rw [h.rest.1] at this
  omega
theorem CsOk.failed {s : Cs} (h : CsOk s) (e : Int) : CsOk (s.failed e) := by
  unfold Cs.failed; split
  · exact ⟨h.at_, h.len⟩
  · exact h
theorem CsOk.byte' {s : Cs} (h : CsOk s) : CsOk s.byte' := h.take'
theorem Cs.moved_b (s : Cs) (k : Nat) (e : Int) : (s.moved k e).b = s.b := by unfold Cs.moved; split <;> first | rfl | (split <;> rfl)
/-- a cursor's block -/
abbrev Cv (g : Nat) (A : Option Addr) (c : Nat) (s : Cs) : Ch := .blk g 115 [.slice A s.b.length c, .int .i64 s.at_, .int .i64 s.e]
theorem cv_eq {T : Nat} {s s' : Cs} {a e : Int} {L : List Ch} {m : Nat} (hb : s'.b = s.b) (ha : a = s'.at_) (he : e = s'.e) {M : List Ch} (k : Wk L M) : Wk (.blk g T [.slice A s.b.length c, .int .i64 a, .int .i64 e] :: L) (.blk g T [.slice A s'.b.length c, .int .i64 s'.at_, .int .i64 s'.e] :: M) := by
  rw [hb, ← ha, ← he]; exact k.cons
theorem crest_d (ho : CsOk s) (hb : Bor B w0 F 1 (.slice A s.b.length c) s.b.length (bv s.b)) :
    Does Tryz.prog B w0 76 [.pointer (some ⟨g, 0, none⟩)] (Cv g A c s :: F) (fun r L => ∃ A' c', r = .slice A' s.left c' ∧ Bor B w0 F 1 (.slice A' s.left c') s.left (bv s.rest) ∧ L = Cv g A c s :: F) := by
  have hat := ho.at_
  have hcut := hb.cut hat
  have e : (bv s.b).drop (s.at_ * 1) = bv s.rest := by rw [Nat.mul_one, bv_drop]; rfl
  rw [e] at hcut
  refine fn_walk Tryz.func76 12 rfl rfl rfl [(0, .pointer (some ⟨g, 0, none⟩))] ⟨⟨rfl, rfl⟩, trivial⟩ ?_
  refine vc_seq ?_
  refine vc_region ?_
  refine vl_det (det_assign rfl) rfl ?_
  refine vl_end [(0, _)] ⟨rfl, trivial⟩ ?_
  refine then_next ?_
  refine vc_seq ?_
  refine vq_region (by kernel_rfl) (by kernel_rfl) ?_
  refine vq_det (det_move rfl) rfl ?_
  refine vq_det (det_nilCheck rfl) rfl ?_
  refine vq_det (det_fieldAddr_ Tryz.underlying113 rfl (by kernel_rfl) rfl rfl) rfl ?_
  refine vq_det (det_load_blk (by kernel_rfl) rfl (by repeat (first | exact .hd | apply Sel.tl)) rfl) rfl ?_
  refine vq_det (det_move rfl) rfl ?_
  refine vq_det (det_nilCheck rfl) rfl ?_
  refine vq_det (det_fieldAddr_ Tryz.underlying113 rfl (by kernel_rfl) rfl rfl) rfl ?_
  refine vq_det (det_load_blk (by kernel_rfl) rfl (by repeat (first | exact .hd | apply Sel.tl)) rfl) rfl ?_
  refine vq_det (det_slice_lo (i := s.at_) (size := 1) Tryz.underlying26 (by kernel_rfl) rfl rfl rfl (by omega)) rfl ?_
  refine vq_det (det_assign rfl) rfl ?_
  refine vq_end [(2, _)] ⟨rfl, trivial⟩ ?_
  refine then_next ?_
  refine vc_ret ?_
  refine ret1 rfl rfl ?_
  exact ⟨_, _, rfl, hcut, rfl⟩
theorem cleft_d (ho : CsOk s) (hb : Bor B w0 F 1 (.slice A s.b.length c) s.b.length (bv s.b)) :
    Does Tryz.prog B w0 80 [.pointer (some ⟨g, 0, none⟩)] (Cv g A c s :: F) (fun r L => r = .int .i64 s.left ∧ L = Cv g A c s :: F) := by
  refine fn_walk Tryz.func80 10 rfl rfl rfl [(0, .pointer (some ⟨g, 0, none⟩))] ⟨⟨rfl, rfl⟩, trivial⟩ ?_
  refine vc_seq ?_
  refine vc_region ?_
  refine vl_det (det_assign rfl) rfl ?_
  refine vl_end [(0, _)] ⟨rfl, trivial⟩ ?_
  refine then_next ?_
  refine vc_seq ?_
  refine vc_seq ?_
  refine vc_region ?_
  refine vl_det (det_move rfl) rfl ?_
  refine vl_det (det_ptr_nil Tryz.underlying83 rfl rfl) rfl ?_
  refine vl_end [(0, _), (4, _)] ⟨rfl, rfl, trivial⟩ ?_
  refine then_next ?_
  refine vc_cond_f rfl ?_
  refine vc_skip ?_
  refine then_next ?_
  refine vc_seq ?_
  refine vc_region ?_
  refine vl_det (det_move rfl) rfl ?_
  refine vl_det (det_nilCheck rfl) rfl ?_
  refine vl_det (det_fieldAddr_ Tryz.underlying115 rfl (by kernel_rfl) rfl rfl) rfl ?_
  refine vl_call co76 rfl (crest_d ho hb) rfl ?_
  rintro _ _ ⟨Ar, cr, rfl, hbr, hLL⟩
  obtain rfl := hLL.symm
  refine vl_det (det_len_sl Tryz.underlying26 rfl) rfl ?_
  refine vl_det (det_assign rfl) rfl ?_
  refine vl_end [(2, _)] ⟨rfl, trivial⟩ ?_
  refine then_next ?_
  refine vc_ret ?_
  refine ret1 rfl rfl ?_
  exact ⟨rfl, rfl⟩
theorem cerr_d : Does Tryz.prog B w0 39 [.pointer (some ⟨g, 0, none⟩)] (Cv g A c s :: F) (fun r L => r = .int .i64 s.e ∧ L = Cv g A c s :: F) := by
  refine fn_walk Tryz.func39 9 rfl rfl rfl [(0, .pointer (some ⟨g, 0, none⟩))] ⟨⟨rfl, rfl⟩, trivial⟩ ?_
  refine vc_seq ?_
  refine vc_region ?_
  refine vl_det (det_assign rfl) rfl ?_
  refine vl_end [(0, _)] ⟨rfl, trivial⟩ ?_
  refine then_next ?_
  refine vc_seq ?_
  refine vc_seq ?_
  refine vc_region ?_
  refine vl_det (det_move rfl) rfl ?_
  refine vl_det (det_ptr_nil Tryz.underlying83 rfl rfl) rfl ?_
  refine vl_end [(0, _), (4, _)] ⟨rfl, rfl, trivial⟩ ?_
  refine then_next ?_
  refine vc_cond_f rfl ?_
  refine vc_skip ?_
  refine then_next ?_
  refine vc_seq ?_
  refine vc_region ?_
  refine vl_det (det_move rfl) rfl ?_
  refine vl_det (det_nilCheck rfl) rfl ?_
  refine vl_det (det_fieldAddr_ Tryz.underlying115 rfl (by kernel_rfl) rfl rfl) rfl ?_
  refine vl_det (det_load_blk (by kernel_rfl) rfl (by repeat (first | exact .hd | apply Sel.tl)) rfl) rfl ?_
  refine vl_det (det_assign rfl) rfl ?_
  refine vl_end [(2, _)] ⟨rfl, trivial⟩ ?_
  refine then_next ?_
  refine vc_ret ?_
  refine ret1 rfl rfl ?_
  exact ⟨rfl, rfl⟩
theorem cread_bad (h : s.e ≠ 0) {fv : Value} : Does Tryz.prog B w0 62 [.pointer (some ⟨g, 0, none⟩), fv] (Cv g A c s :: F) (fun r L => r = .bool false ∧ L = Cv g A c s :: F) := by
  refine fn_walk Tryz.func62 35 rfl rfl rfl [(0, .pointer (some ⟨g, 0, none⟩)), (1, fv)] ⟨⟨rfl, rfl⟩, ⟨rfl, rfl⟩, trivial⟩ ?_
  refine vc_seq ?_
  refine vc_region ?_
  refine vl_det (det_assign rfl) rfl ?_
  refine vl_end [(0, _), (1, _)] ⟨rfl, rfl, trivial⟩ ?_
  refine then_next ?_
  refine vc_seq ?_
  refine vc_seq ?_
  refine vc_region ?_
  refine vl_det (det_move rfl) rfl ?_
  refine vl_call co39 rfl (cerr_d) rfl ?_
  rintro _ _ ⟨rfl, hLL⟩
  obtain rfl := hLL.symm
  refine vl_det (det_neq rfl rfl) rfl ?_
  refine vl_end [(0, _), (1, _), (9, _)] ⟨rfl, rfl, rfl, trivial⟩ ?_
  refine then_next ?_
  refine vc_decideU rfl (fun h9 => ?_) (fun h9 => ?_)
  · skip
    refine vc_seq ?_
    refine vc_region ?_
    refine vl_det (det_assign rfl) rfl ?_
    refine vl_end [(4, _)] ⟨rfl, trivial⟩ ?_
    refine then_next ?_
    refine vc_ret ?_
    refine then_ret ?_
    refine ret1 rfl rfl ?_
    exact ⟨rfl, rfl⟩
  · skip
    exfalso; exact h9 h
/-- what a step over the bytes that lie ahead tells, and which pieces it leaves -/
theorem cread_ok (ho : CsOk s) (hb : Bor B w0 F 1 (.slice A s.b.length c) s.b.length (bv s.b)) (h0 : s.e = 0) {ff : FuncId} {caps : List Value} {R' : List Ch → Prop} {k : Nat} {er : Int} (hcal : Callable Tryz.prog ff) (hk : k ≤ 1099511627776)
    (hstep : ∀ A' c', Bor B w0 F 1 (.slice A' s.left c') s.left (bv s.rest) → Does Tryz.prog B w0 ff (.slice A' s.left c' :: caps) (Cv g A c s :: F) (fun r L => r = .tuple #[.int .i64 k, .int .i64 er] ∧ ∃ F', R' F' ∧ L = Cv g A c s :: F')) :
    Does Tryz.prog B w0 62 [.pointer (some ⟨g, 0, none⟩), .func (.func ff) #[] caps.toArray] (Cv g A c s :: F) (fun r L => r = .bool (decide (er = 0)) ∧ ∃ F', R' F' ∧ L = Cv g A c (s.moved k er) :: F') := by
  have hat := ho.at_
  have hlen := ho.len
  refine fn_walk Tryz.func62 35 rfl rfl rfl [(0, .pointer (some ⟨g, 0, none⟩)), (1, .func (.func ff) #[] caps.toArray)] ⟨⟨rfl, rfl⟩, ⟨rfl, rfl⟩, trivial⟩ ?_
  refine vc_seq ?_
  refine vc_region ?_
  refine vl_det (det_assign rfl) rfl ?_
  refine vl_end [(0, _), (1, _)] ⟨rfl, rfl, trivial⟩ ?_
  refine then_next ?_
  refine vc_seq ?_
  refine vc_seq ?_
  refine vc_region ?_
  refine vl_det (det_move rfl) rfl ?_
  refine vl_call co39 rfl (cerr_d) rfl ?_
  rintro _ _ ⟨rfl, hLL⟩
  obtain rfl := hLL.symm
  refine vl_det (det_neq rfl rfl) rfl ?_
  refine vl_end [(0, _), (1, _), (9, _)] ⟨rfl, rfl, rfl, trivial⟩ ?_
  refine then_next ?_
  refine vc_decideU rfl (fun h9 => ?_) (fun h9 => ?_)
  · skip
    exfalso; exact h9 h0
  · skip
    refine vc_skip ?_
    refine then_next ?_
    refine vc_seq ?_
    refine vc_region ?_
    refine vl_det (det_move rfl) rfl ?_
    refine vl_det (det_move rfl) rfl ?_
    refine vl_det (det_nilCheck rfl) rfl ?_
    refine vl_det (det_fieldAddr_ Tryz.underlying115 rfl (by kernel_rfl) rfl rfl) rfl ?_
    refine vl_call co76 rfl (crest_d ho hb) rfl ?_
    rintro _ _ ⟨Ar, cr, rfl, hbr, hLL⟩
    obtain rfl := hLL.symm
    refine vl_callv hcal rfl rfl (hstep _ _ hbr) rfl ?_
    rintro _ _ ⟨rfl, F1, hF1, hLL⟩
    obtain rfl := hLL.symm
    refine vl_det (det_move rfl) rfl ?_
    refine vl_det (det_extract rfl rfl) rfl ?_
    refine vl_det (det_extract rfl rfl) rfl ?_
    refine vl_det (det_assign rfl) rfl ?_
    refine vl_det (det_assign rfl) rfl ?_
    refine vl_end [(0, _), (5, _), (6, _)] ⟨rfl, rfl, rfl, trivial⟩ ?_
    refine then_next ?_
    refine vc_seq ?_
    refine vc_seq ?_
    refine vc_region ?_
    refine vl_det (det_move rfl) rfl ?_
    refine vl_det (det_neq rfl rfl) rfl ?_
    refine vl_end [(0, _), (5, _), (6, _), (20, _)] ⟨rfl, rfl, rfl, rfl, trivial⟩ ?_
    refine then_next ?_
    refine vc_decideU rfl (fun h20 => ?_) (fun h20 => ?_)
    · skip
      refine vc_seq ?_
      refine vc_region ?_
      refine vl_det (det_move rfl) rfl ?_
      refine vl_det (det_move rfl) rfl ?_
      refine vl_det (det_nilCheck rfl) rfl ?_
      refine vl_det (det_fieldAddr_ Tryz.underlying115 rfl (by kernel_rfl) rfl rfl) rfl ?_
      refine vl_eff0 (eff_store (by kernel_rfl) rfl rfl rfl (by repeat (first | exact .hd | apply Sel.tl)) (by simp)) ?_
      rintro _ _ rfl
      refine vl_end [] trivial ?_
      refine then_next ?_
      refine vc_seq ?_
      refine vc_region ?_
      refine vl_det (det_assign rfl) rfl ?_
      refine vl_end [(4, _)] ⟨rfl, trivial⟩ ?_
      refine then_next ?_
      refine vc_ret ?_
      refine then_ret ?_
      refine ret_wk (L' := Cv g A c (s.moved k er) :: F1) (cv_eq (m := 0) (Cs.moved_b s k er) (by simp [Cs.moved, h0, h20]) (by simp [Cs.moved, h0, h20]) (.refl _)) ?_
      refine ret1 rfl rfl ?_
      exact ⟨by rw [decide_eq_false h20], F1, hF1, rfl⟩
    · skip
      refine vc_skip ?_
      refine then_next ?_
      refine vc_seq ?_
      refine vc_region ?_
      refine vl_det (det_move rfl) rfl ?_
      refine vl_det (det_nilCheck rfl) rfl ?_
      refine vl_det (det_fieldAddr_ Tryz.underlying115 rfl (by kernel_rfl) rfl rfl) rfl ?_
      refine vl_det (det_fieldAddr_ Tryz.underlying113 rfl (by kernel_rfl) rfl rfl) rfl ?_
      refine vl_det (det_load_blk (by kernel_rfl) rfl (by repeat (first | exact .hd | apply Sel.tl)) rfl) rfl ?_
      refine vl_det (det_move rfl) rfl ?_
      refine vl_det (det_add rfl rfl (w_i64 (by omega) (by omega))) rfl ?_
      refine vl_det (det_nilCheck rfl) rfl ?_
      refine vl_det (det_fieldAddr_ Tryz.underlying115 rfl (by kernel_rfl) rfl rfl) rfl ?_
      refine vl_det (det_fieldAddr_ Tryz.underlying113 rfl (by kernel_rfl) rfl rfl) rfl ?_
      refine vl_eff0 (eff_store (by kernel_rfl) rfl rfl rfl (by repeat (first | exact .hd | apply Sel.tl)) (by simp)) ?_
      rintro _ _ rfl
      refine vl_end [] trivial ?_
      refine then_next ?_
      refine vc_seq ?_
      refine vc_region ?_
      refine vl_det (det_assign rfl) rfl ?_
      refine vl_end [(4, _)] ⟨rfl, trivial⟩ ?_
      refine then_next ?_
      refine vc_ret ?_
      have h20' : er = 0 := by omega
      refine ret_wk (L' := Cv g A c (s.moved k er) :: F1) (cv_eq (m := 0) (Cs.moved_b s k er) (by simp [Cs.moved, h0, h20']) (by simp [Cs.moved, h0, h20']) (.refl _)) ?_
      refine ret1 rfl rfl ?_
      exact ⟨by rw [decide_eq_true h20'], F1, hF1, rfl⟩
theorem cfail_d (er : Int) : Does Tryz.prog B w0 79 [.pointer (some ⟨g, 0, none⟩), .int .i64 er] (Cv g A c s :: F) (fun r L => r = .tuple #[] ∧ L = Cv g A c (s.failed er) :: F) := by
  refine fn_walk Tryz.func79 17 rfl rfl rfl [(0, .pointer (some ⟨g, 0, none⟩)), (1, .int .i64 er)] ⟨⟨rfl, rfl⟩, ⟨rfl, rfl⟩, trivial⟩ ?_
  refine vc_seq ?_
  refine vc_region ?_
  refine vl_det (det_move rfl) rfl ?_
  refine vl_det (det_ptr_nnil Tryz.underlying83 rfl rfl) rfl ?_
  refine vl_det (det_move rfl) rfl ?_
  refine vl_guard_t rfl rfl ?_
  refine vl_det (det_move rfl) rfl ?_
  refine vl_guard_t rfl rfl ?_
  refine vl_det (det_nilCheck rfl) rfl ?_
  refine vl_guard_t rfl rfl ?_
  refine vl_det (det_fieldAddr_ Tryz.underlying115 rfl (by kernel_rfl) rfl rfl) rfl ?_
  refine vl_guard_t rfl rfl ?_
  refine vl_det (det_load_blk (by kernel_rfl) rfl (by repeat (first | exact .hd | apply Sel.tl)) rfl) rfl ?_
  refine vl_guard_t rfl rfl ?_
  refine vl_det (det_eql rfl rfl) rfl ?_
  refine vl_det (det_pick_t rfl rfl) rfl ?_
  refine vl_end [(0, _), (1, _), (12, _)] ⟨rfl, rfl, rfl, trivial⟩ ?_
  refine then_next ?_
  refine vc_decideU rfl (fun h12 => ?_) (fun h12 => ?_)
  · skip
    refine vc_region ?_
    refine vl_det (det_move rfl) rfl ?_
    refine vl_det (det_move rfl) rfl ?_
    refine vl_det (det_nilCheck rfl) rfl ?_
    refine vl_det (det_fieldAddr_ Tryz.underlying115 rfl (by kernel_rfl) rfl rfl) rfl ?_
    refine vl_eff0 (eff_store (by kernel_rfl) rfl rfl rfl (by repeat (first | exact .hd | apply Sel.tl)) (by simp)) ?_
    rintro _ _ rfl
    refine vl_end [] trivial ?_
    refine ret_n ?_
    refine ret_wk (L' := Cv g A c (s.failed er) :: F) (cv_eq (m := 0) (by simp [Cs.failed, h12]) (by simp [Cs.failed, h12]) (by simp [Cs.failed, h12]) (.refl _)) ?_
    refine ret0 rfl ?_
    exact ⟨rfl, rfl⟩
  · skip
    refine vc_skip ?_
    refine ret_n ?_
    refine ret_wk (L' := Cv g A c (s.failed er) :: F) (cv_eq (m := 0) (by simp [Cs.failed, h12]) (by simp [Cs.failed, h12]) (by simp [Cs.failed, h12]) (.refl _)) ?_
    refine ret0 rfl ?_
    exact ⟨rfl, rfl⟩
theorem scan_d {l : List UInt8} (hb : Bor B w0 L0 1 (.slice A n c) n (bv l)) (hn : n ≤ 1099511627776) : Does Tryz.prog B w0 77 [.slice A n c] L0 (fun r L => r = .tuple #[.int .u64 (scanS l).1, .int .i64 (scanS l).2.1, .int .i64 (scanS l).2.2] ∧ L = L0) :=
  Does.of_same fun w hw => scan_c w (hb w hw) hn
theorem limS_err {l : List UInt8} {m : Int} (h : (limS l m).2.2 ≠ 0) : (limS l m).1 = 0 ∧ (limS l m).2.1 = 0 := by
  unfold limS at h ⊢
  split
  · exact ⟨rfl, rfl⟩
  · split
    · exact ⟨rfl, rfl⟩
    · rename_i h1 h2
      rw [if_neg h1, if_neg h2] at h
      exact absurd rfl h
end Go.Proofs.YtpamjobiohbibaaGreat
namespace Go.Proofs.YtpamjobiohbibaaGreat
open Go.RowKit
set_option linter.unusedVariables false
set_option maxRecDepth 20000
variable {B : Nat} {w0 : World} {F L0 : List Ch} {A : Option Addr} {n c g h3 h5 : Nat} {s : Cs} {C0 : Ch}
theorem swp3 {a b c : Ch} {L : List Ch} : (a :: b :: c :: L).Perm (c :: a :: b :: L) := ((List.Perm.swap c b L).cons a).trans (.swap c a _)
def lim3 (x k : Nat) (er most : Int) : Nat × Nat × Int := if er ≠ 0 then (0, 0, er) else if most < 0 ∨ most < x then (0, 0, 6) else (x, k, 0)
theorem lim3_a {x k : Nat} {er most : Int} (h : ¬ er = 0) : lim3 x k er most = (0, 0, er) := if_pos h
theorem lim3_b {x k : Nat} {er most : Int} (h : ¬ ¬ er = 0) (h2 : most < 0 ∨ most < x) : lim3 x k er most = (0, 0, 6) := by unfold lim3; rw [if_neg h, if_pos h2]
theorem lim3_c {x k : Nat} {er most : Int} (h : ¬ ¬ er = 0) (h2 : ¬ (most < 0 ∨ most < x)) : lim3 x k er most = (x, k, 0) := by unfold lim3; rw [if_neg h, if_neg h2]
theorem limited_d {l : List UInt8} (hb : Bor B w0 L0 1 (.slice A n c) n (bv l)) (hn : n ≤ 1099511627776) {most : Int} (hm1 : -9223372036854775808 ≤ most) (hm2 : most ≤ 9223372036854775807) :
    Does Tryz.prog B w0 64 [.slice A n c, .int .i64 most] L0 (fun r L => r = .tuple #[.int .i64 (limS l most).1, .int .i64 (limS l most).2.1, .int .i64 (limS l most).2.2] ∧ L = L0) := by
  have e : limS l most = lim3 (scanS l).1 (scanS l).2.1 (scanS l).2.2 most := rfl
  have hs := scan_d hb hn
  have hf := (scanS_facts l).1
  rw [e]
  clear e
  generalize (scanS l).1 = x at *
  generalize (scanS l).2.1 = k at *
  generalize (scanS l).2.2 = er at *
  refine fn_walk Tryz.func64 30 rfl rfl rfl [(0, .slice A n c), (1, .int .i64 most)] ⟨⟨rfl, rfl⟩, ⟨rfl, rfl⟩, trivial⟩ ?_
  refine vc_seq ?_
  refine vc_region ?_
  refine vl_det (det_assign rfl) rfl ?_
  refine vl_det (det_assign rfl) rfl ?_
  refine vl_det (det_assign rfl) rfl ?_
  refine vl_end [(0, _), (1, _)] ⟨rfl, rfl, trivial⟩ ?_
  refine then_next ?_
  refine vc_seq ?_
  refine vc_region ?_
  refine vl_det (det_move rfl) rfl ?_
  refine vl_call co77 rfl (hs) rfl ?_
  rintro _ _ ⟨rfl, hLL⟩
  obtain rfl := hLL.symm
  refine vl_det (det_move rfl) rfl ?_
  refine vl_det (det_extract rfl rfl) rfl ?_
  refine vl_det (det_extract rfl rfl) rfl ?_
  refine vl_det (det_extract rfl rfl) rfl ?_
  refine vl_det (det_assign rfl) rfl ?_
  refine vl_det (det_assign rfl) rfl ?_
  refine vl_det (det_assign rfl) rfl ?_
  refine vl_end [(1, _), (7, _), (8, _), (9, _)] ⟨rfl, rfl, rfl, rfl, trivial⟩ ?_
  refine then_next ?_
  refine vc_seq ?_
  refine vc_seq ?_
  refine vc_region ?_
  refine vl_det (det_move rfl) rfl ?_
  refine vl_det (det_neq rfl rfl) rfl ?_
  refine vl_end [(1, _), (7, _), (8, _), (9, _), (17, _)] ⟨rfl, rfl, rfl, rfl, rfl, trivial⟩ ?_
  refine then_next ?_
  refine vc_decideU rfl (fun h17 => ?_) (fun h17 => ?_)
  · skip
    refine vc_seq ?_
    refine vc_region ?_
    refine vl_det (det_move rfl) rfl ?_
    refine vl_det (det_assign rfl) rfl ?_
    refine vl_det (det_assign rfl) rfl ?_
    refine vl_det (det_assign rfl) rfl ?_
    refine vl_end [(4, _), (5, _), (6, _)] ⟨rfl, rfl, rfl, trivial⟩ ?_
    refine then_next ?_
    refine vc_ret ?_
    refine then_ret ?_
    refine ret3_ rfl rfl rfl rfl ?_
    refine ⟨?_, rfl⟩
    rw [lim3_a h17]
    try rfl
  · skip
    refine vc_skip ?_
    refine then_next ?_
    refine vc_seq ?_
    refine vc_seq ?_
    refine vc_region ?_
    refine vl_cut 8 26 [(7, _), (8, _)] (most < 0 ∨ most < (x : Int)) ⟨rfl, rfl, trivial⟩ ?_ ?_
    · skip
      refine vl_det (det_move rfl) rfl ?_
      refine vl_det (det_lss rfl rfl) rfl ?_
      refine vl_det (det_move rfl) rfl ?_
      refine vl_guardn rfl rfl rfl (fun h21 => ?_) (fun h21 => ?_)
      · skip
        refine vl_det (det_move rfl) rfl ?_
        refine vl_guard_t rfl rfl ?_
        refine vl_det (det_move rfl) rfl ?_
        refine vl_guard_t rfl rfl ?_
        refine vl_det (det_conv Tryz.underlying3 Tryz.underlying39 rfl (w_u64 (by omega) (by omega))) rfl ?_
        refine vl_guard_t rfl rfl ?_
        refine vl_det (det_gtr rfl rfl) rfl ?_
        refine vl_det (det_pick_f rfl rfl) rfl ?_
        exact vl_cut_end ⟨rfl, rfl, trivial⟩ (by first | rfl | exact bool_to_t (by first | omega | simp_all) | exact bool_to_f (by first | omega | simp_all) | exact bool_to (by first | omega | simp_all) | exact bool_to_b (by first | omega | simp_all))
      · skip
        refine vl_guard_f rfl rfl rfl rfl ?_
        refine vl_guard_f rfl rfl rfl rfl ?_
        refine vl_guard_f rfl rfl rfl rfl ?_
        refine vl_det (det_pick_t rfl rfl) rfl ?_
        exact vl_cut_end ⟨rfl, rfl, trivial⟩ (by first | rfl | exact bool_to_t (by first | omega | simp_all) | exact bool_to_f (by first | omega | simp_all) | exact bool_to (by first | omega | simp_all) | exact bool_to_b (by first | omega | simp_all))
    · skip
      refine vl_end [(7, _), (8, _), (26, _)] ⟨rfl, rfl, rfl, trivial⟩ ?_
      refine then_next ?_
      refine vc_decideU rfl (fun h26 => ?_) (fun h26 => ?_)
      · skip
        refine vc_seq ?_
        refine vc_region ?_
        refine vl_det (det_assign rfl) rfl ?_
        refine vl_det (det_assign rfl) rfl ?_
        refine vl_det (det_assign rfl) rfl ?_
        refine vl_end [(4, _), (5, _), (6, _)] ⟨rfl, rfl, rfl, trivial⟩ ?_
        refine then_next ?_
        refine vc_ret ?_
        refine then_ret ?_
        refine ret3_ rfl rfl rfl rfl ?_
        refine ⟨?_, rfl⟩
        rw [lim3_b h17 h26]
        try rfl
      · skip
        refine vc_skip ?_
        refine then_next ?_
        refine vc_seq ?_
        refine vc_region ?_
        refine vl_det (det_move rfl) rfl ?_
        refine vl_det (det_conv Tryz.underlying39 Tryz.underlying3 rfl (w_i64 (by omega) (by omega))) rfl ?_
        refine vl_det (det_move rfl) rfl ?_
        refine vl_det (det_assign rfl) rfl ?_
        refine vl_det (det_assign rfl) rfl ?_
        refine vl_det (det_assign rfl) rfl ?_
        refine vl_end [(4, _), (5, _), (6, _)] ⟨rfl, rfl, rfl, trivial⟩ ?_
        refine then_next ?_
        refine vc_ret ?_
        refine ret3_ rfl rfl rfl rfl ?_
        refine ⟨?_, rfl⟩
        rw [lim3_c h17 h26]
        try rfl
theorem intstep_d {x0 : Value} {l : List UInt8} {most : Int} (hb : Bor B w0 (.blk h5 3 [x0] :: .blk h3 3 [.int .i64 most] :: F) 1 (.slice A n c) n (bv l)) (hn : n ≤ 1099511627776) (hm1 : -9223372036854775808 ≤ most) (hm2 : most ≤ 9223372036854775807) :
    Does Tryz.prog B w0 63 [.slice A n c, .pointer (some ⟨h3, 0, none⟩), .pointer (some ⟨h5, 0, none⟩)] (C0 :: .blk h5 3 [x0] :: .blk h3 3 [.int .i64 most] :: F) (fun r L => r = .tuple #[.int .i64 (limS l most).2.1, .int .i64 (limS l most).2.2] ∧ L = C0 :: .blk h5 3 [.int .i64 (limS l most).1] :: .blk h3 3 [.int .i64 most] :: F) := by
  refine fn_walk Tryz.func63 15 rfl rfl rfl [(0, .slice A n c), (1, .pointer (some ⟨h3, 0, none⟩)), (2, .pointer (some ⟨h5, 0, none⟩))] ⟨⟨rfl, rfl⟩, ⟨rfl, rfl⟩, ⟨rfl, rfl⟩, trivial⟩ ?_
  refine vc_seq ?_
  refine vc_region ?_
  refine vl_det (det_assign rfl) rfl ?_
  refine vl_det (det_assign rfl) rfl ?_
  refine vl_end [(0, _), (1, _), (2, _)] ⟨rfl, rfl, rfl, trivial⟩ ?_
  refine then_next ?_
  refine vc_seq ?_
  refine vc_region ?_
  refine vl_det (det_move rfl) rfl ?_
  refine vl_det (det_load_blk (by kernel_rfl) rfl (by repeat (first | exact .hd | apply Sel.tl)) rfl) rfl ?_
  refine vl_call co64 rfl (limited_d (by first | (exact Bor.own (by repeat (first | exact List.Mem.head _ | apply List.Mem.tail))) | (repeat (first | assumption | apply Bor.cons))) hn hm1 hm2) rfl ?_
  rintro _ _ ⟨rfl, hLL⟩
  obtain rfl := hLL.symm
  refine vl_det (det_move rfl) rfl ?_
  refine vl_det (det_extract rfl rfl) rfl ?_
  refine vl_det (det_extract rfl rfl) rfl ?_
  refine vl_det (det_extract rfl rfl) rfl ?_
  refine vl_eff0 (eff_store (by kernel_rfl) rfl rfl rfl (by repeat (first | exact .hd | apply Sel.tl)) (by simp)) ?_
  rintro _ _ rfl
  refine vl_det (det_assign rfl) rfl ?_
  refine vl_det (det_assign rfl) rfl ?_
  refine vl_end [(4, _), (5, _)] ⟨rfl, rfl, trivial⟩ ?_
  refine then_next ?_
  refine vc_seq ?_
  refine vc_region ?_
  refine vl_det (det_move rfl) rfl ?_
  refine vl_det (det_move rfl) rfl ?_
  refine vl_det (det_assign rfl) rfl ?_
  refine vl_det (det_assign rfl) rfl ?_
  refine vl_end [(4, _), (5, _)] ⟨rfl, rfl, trivial⟩ ?_
  refine then_next ?_
  refine vc_ret ?_
  refine ret2 rfl rfl rfl ?_
  exact ⟨rfl, rfl⟩
theorem cint_d (ho : CsOk s) (hb : Bor B w0 F 1 (.slice A s.b.length c) s.b.length (bv s.b)) {most : Int} (hm1 : -9223372036854775808 ≤ most) (hm2 : most ≤ 9223372036854775807) :
    Does Tryz.prog B w0 38 [.pointer (some ⟨g, 0, none⟩), .int .i64 most] (Cv g A c s :: F) (fun r L => r = .int .i64 (s.int most) ∧ L = Cv g A c (s.int' most) :: F) := by
  by_cases h0 : s.e = 0
  · have hkb := (limS_facts s.rest most hm2).2.1
    rw [ho.rest.1] at hkb
    have hlb := ho.rest.2
    refine fn_walk Tryz.func38 13 rfl rfl rfl [(0, .pointer (some ⟨g, 0, none⟩)), (1, .int .i64 most)] ⟨⟨rfl, rfl⟩, ⟨rfl, rfl⟩, trivial⟩ ?_
    refine vc_seq ?_
    refine vc_region ?_
    refine vl_eff (eff_box rfl rfl) rfl ?_
    rintro _ _ ⟨g3, rfl, rfl⟩
    refine vl_det (det_assign rfl) rfl ?_
    refine vl_end [(0, _), (3, _)] ⟨rfl, rfl, trivial⟩ ?_
    refine then_next ?_
    refine vc_seq ?_
    refine vc_region ?_
    refine vl_eff (eff_alloc_z (zv := (.int .i64 0)) (by kernel_rfl) rfl) rfl ?_
    rintro _ _ ⟨g5, rfl, rfl⟩
    refine vl_end [(0, _), (3, _), (5, _)] ⟨rfl, rfl, rfl, trivial⟩ ?_
    refine then_next ?_
    refine vc_seq ?_
    refine vc_region ?_
    refine vl_det (det_move rfl) rfl ?_
    refine vl_det (det_makeFunc rfl rfl) rfl ?_
    refine vl_call co62 rfl ((cread_ok (F := .blk g5 3 [.int .i64 0] :: .blk g3 3 [.int .i64 most] :: F) ho (Bor.cons (Bor.cons hb)) h0 (caps := [.pointer (some ⟨g3, 0, none⟩), .pointer (some ⟨g5, 0, none⟩)]) (R' := fun F' => F' = .blk g5 3 [.int .i64 (limS s.rest most).1] :: .blk g3 3 [.int .i64 most] :: F) (k := (limS s.rest most).2.1) (er := (limS s.rest most).2.2) co63 (by omega) (fun A' c' hbr => (intstep_d hbr (by omega) hm1 hm2).mono fun r L ⟨h1, h2⟩ => ⟨h1, _, rfl, h2⟩)).perm swp3) rfl ?_
    rintro _ _ ⟨rfl, _, hLL, rfl⟩
    obtain rfl := hLL.symm
    refine vl_det (det_assign rfl) rfl ?_
    refine vl_end [(5, _), (6, _)] ⟨rfl, rfl, trivial⟩ ?_
    refine then_next ?_
    refine vc_seq ?_
    refine vc_seq ?_
    refine vc_region ?_
    refine vl_det (det_move rfl) rfl ?_
    refine vl_det (det_notd rfl) rfl ?_
    refine vl_end [(5, _), (11, _)] ⟨rfl, rfl, trivial⟩ ?_
    refine then_next ?_
    refine vc_decideU rfl (fun h11 => ?_) (fun h11 => ?_)
    · skip
      refine vc_seq ?_
      refine vc_region ?_
      refine vl_det (det_assign rfl) rfl ?_
      refine vl_end [(4, _)] ⟨rfl, trivial⟩ ?_
      refine then_next ?_
      refine vc_ret ?_
      refine then_ret ?_
      refine ret_wk (L' := Cv g A c (s.int' most) :: F) (.cons (.skip (.skip (.refl _)))) ?_
      refine ret1 rfl rfl ?_
      exact ⟨by simp [Cs.int, h0, (limS_err (show (limS s.rest most).2.2 ≠ 0 from h11)).1], rfl⟩
    · skip
      refine vc_skip ?_
      refine then_next ?_
      refine vc_seq ?_
      refine vc_region ?_
      refine vl_det (det_load_blk (by kernel_rfl) rfl (by repeat (first | exact .hd | apply Sel.tl)) rfl) rfl ?_
      refine vl_det (det_assign rfl) rfl ?_
      refine vl_end [(4, _)] ⟨rfl, trivial⟩ ?_
      refine then_next ?_
      refine vc_ret ?_
      refine ret_wk (L' := Cv g A c (s.int' most) :: F) (.cons (.skip (.skip (.refl _)))) ?_
      refine ret1 rfl rfl ?_
      exact ⟨by simp [Cs.int, h0], rfl⟩
  · have e1 : s.int' most = s := by simp [Cs.int', Cs.moved, h0]
    have e2 : s.int most = 0 := by simp [Cs.int, h0]
    rw [e1, e2]
    refine fn_walk Tryz.func38 13 rfl rfl rfl [(0, .pointer (some ⟨g, 0, none⟩)), (1, .int .i64 most)] ⟨⟨rfl, rfl⟩, ⟨rfl, rfl⟩, trivial⟩ ?_
    refine vc_seq ?_
    refine vc_region ?_
    refine vl_eff (eff_box rfl rfl) rfl ?_
    rintro _ _ ⟨g3, rfl, rfl⟩
    refine vl_det (det_assign rfl) rfl ?_
    refine vl_end [(0, _), (3, _)] ⟨rfl, rfl, trivial⟩ ?_
    refine then_next ?_
    refine vc_seq ?_
    refine vc_region ?_
    refine vl_eff (eff_alloc_z (zv := (.int .i64 0)) (by kernel_rfl) rfl) rfl ?_
    rintro _ _ ⟨g5, rfl, rfl⟩
    refine vl_end [(0, _), (3, _), (5, _)] ⟨rfl, rfl, rfl, trivial⟩ ?_
    refine then_next ?_
    refine vc_seq ?_
    refine vc_region ?_
    refine vl_det (det_move rfl) rfl ?_
    refine vl_det (det_makeFunc rfl rfl) rfl ?_
    refine vl_call co62 rfl ((cread_bad h0).perm swp3) rfl ?_
    rintro _ _ ⟨rfl, hLL⟩
    obtain rfl := hLL.symm
    refine vl_det (det_assign rfl) rfl ?_
    refine vl_end [(5, _), (6, _)] ⟨rfl, rfl, trivial⟩ ?_
    refine then_next ?_
    refine vc_seq ?_
    refine vc_seq ?_
    refine vc_region ?_
    refine vl_det (det_move rfl) rfl ?_
    refine vl_det (det_not_f rfl) rfl ?_
    refine vl_end [(5, _), (11, _)] ⟨rfl, rfl, trivial⟩ ?_
    refine then_next ?_
    refine vc_cond_t rfl ?_
    refine vc_seq ?_
    refine vc_region ?_
    refine vl_det (det_assign rfl) rfl ?_
    refine vl_end [(4, _)] ⟨rfl, trivial⟩ ?_
    refine then_next ?_
    refine vc_ret ?_
    refine then_ret ?_
    refine ret_wk (L' := Cv g A c s :: F) (.cons (.skip (.skip (.refl _)))) ?_
    refine ret1 rfl rfl ?_
    exact ⟨rfl, rfl⟩
/-- a text at the head of bytes, of what is known of its length -/
def tex3 (l : List UInt8) (x k : Nat) (er : Int) : List UInt8 × Nat × Int := if er ≠ 0 then ([], 0, er) else if l.length - k < x then ([], 0, 1) else ((l.drop k).take x, k + x, 0)
theorem tex3_a {l : List UInt8} {x k : Nat} {er : Int} (h : ¬ er = 0) : tex3 l x k er = ([], 0, er) := if_pos h
theorem tex3_b {l : List UInt8} {x k : Nat} {er : Int} (h : ¬ ¬ er = 0) (h2 : l.length - k < x) : tex3 l x k er = ([], 0, 1) := by unfold tex3; rw [if_neg h, if_pos h2]
theorem tex3_c {l : List UInt8} {x k : Nat} {er : Int} (h : ¬ ¬ er = 0) (h2 : ¬ (l.length - k < x)) : tex3 l x k er = ((l.drop k).take x, k + x, 0) := by unfold tex3; rw [if_neg h, if_neg h2]
theorem textstep_d {l : List UInt8} {most : Int} (hb : Bor B w0 (.blk h5 9 [.string ⟨#[]⟩] :: .blk h3 3 [.int .i64 most] :: F) 1 (.slice A n c) n (bv l)) (hn : n ≤ 1099511627776) (hm1 : -9223372036854775808 ≤ most) (hm2 : most ≤ 9223372036854775807) :
    Does Tryz.prog B w0 95 [.slice A n c, .pointer (some ⟨h3, 0, none⟩), .pointer (some ⟨h5, 0, none⟩)] (C0 :: .blk h5 9 [.string ⟨#[]⟩] :: .blk h3 3 [.int .i64 most] :: F) (fun r L => r = .tuple #[.int .i64 (textS l most).2.1, .int .i64 (textS l most).2.2] ∧ L = C0 :: .blk h5 9 [.string ⟨(textS l most).1.toArray⟩] :: .blk h3 3 [.int .i64 most] :: F) := by
  refine Does.bor (L := C0 :: .blk h5 9 [.string ⟨#[]⟩] :: .blk h3 3 [.int .i64 most] :: F) (Bor.cons hb) fun hc hl => ?_
  simp at hl
  have e : textS l most = tex3 l (limS l most).1 (limS l most).2.1 (limS l most).2.2 := rfl
  have hs := limited_d (B := B) (w0 := w0) (L0 := C0 :: .blk h5 9 [.string ⟨#[]⟩] :: .blk h3 3 [.int .i64 most] :: F) (l := l) (Bor.cons hb) hn hm1 hm2
  have hf := limS_facts l most hm2
  rw [e]
  clear e
  generalize (limS l most).1 = x at *
  generalize (limS l most).2.1 = k at *
  generalize (limS l most).2.2 = er at *
  refine fn_walk Tryz.func95 37 rfl rfl rfl [(0, .slice A n c), (1, .pointer (some ⟨h3, 0, none⟩)), (2, .pointer (some ⟨h5, 0, none⟩))] ⟨⟨rfl, rfl⟩, ⟨rfl, rfl⟩, ⟨rfl, rfl⟩, trivial⟩ ?_
  refine vc_seq ?_
  refine vc_region ?_
  refine vl_det (det_assign rfl) rfl ?_
  refine vl_det (det_assign rfl) rfl ?_
  refine vl_end [(0, _), (1, _), (2, _)] ⟨rfl, rfl, rfl, trivial⟩ ?_
  refine then_next ?_
  refine vc_seq ?_
  refine vc_region ?_
  refine vl_det (det_move rfl) rfl ?_
  refine vl_det (det_load_blk (by kernel_rfl) rfl (by repeat (first | exact .hd | apply Sel.tl)) rfl) rfl ?_
  refine vl_call co64 rfl (hs) rfl ?_
  rintro _ _ ⟨rfl, hLL⟩
  obtain rfl := hLL.symm
  refine vl_det (det_move rfl) rfl ?_
  refine vl_det (det_extract rfl rfl) rfl ?_
  refine vl_det (det_extract rfl rfl) rfl ?_
  refine vl_det (det_extract rfl rfl) rfl ?_
  refine vl_det (det_assign rfl) rfl ?_
  refine vl_det (det_assign rfl) rfl ?_
  refine vl_det (det_assign rfl) rfl ?_
  refine vl_end [(0, _), (2, _), (6, _), (7, _), (8, _)] ⟨rfl, rfl, rfl, rfl, rfl, trivial⟩ ?_
  refine then_next ?_
  refine vc_seq ?_
  refine vc_block ?_
  refine vc_seq ?_
  refine vc_region ?_
  refine vl_det (det_move rfl) rfl ?_
  refine vl_det (det_neq rfl rfl) rfl ?_
  refine vl_det (det_assign rfl) rfl ?_
  refine vl_end [(0, _), (2, _), (6, _), (7, _), (8, _), (16, _)] ⟨rfl, rfl, rfl, rfl, rfl, rfl, trivial⟩ ?_
  refine then_next ?_
  refine vc_decideU rfl (fun h16 => ?_) (fun h16 => ?_)
  · skip
    refine vc_seq ?_
    refine vc_region ?_
    refine vl_det (det_move rfl) rfl ?_
    refine vl_det (det_assign rfl) rfl ?_
    refine vl_det (det_assign rfl) rfl ?_
    refine vl_end [(4, _), (5, _)] ⟨rfl, rfl, trivial⟩ ?_
    refine then_next ?_
    refine vc_ret ?_
    refine in_ret ?_
    refine then_ret ?_
    refine ret2 rfl rfl rfl ?_
    refine ⟨?_, ?_⟩
    · rw [tex3_a h16]; try rfl
    · rw [tex3_a h16]; try rfl
  · skip
    refine vc_seq ?_
    refine vc_region ?_
    refine vl_det (det_move rfl) rfl ?_
    refine vl_det (det_move rfl) rfl ?_
    refine vl_det (det_len_sl Tryz.underlying26 rfl) rfl ?_
    refine vl_det (det_move rfl) rfl ?_
    refine vl_det (det_sub rfl rfl (w_i64 (by omega) (by omega))) rfl ?_
    refine vl_det (det_gtr rfl rfl) rfl ?_
    refine vl_det (det_assign rfl) rfl ?_
    refine vl_end [(0, _), (2, _), (6, _), (7, _), (20, _)] ⟨rfl, rfl, rfl, rfl, rfl, trivial⟩ ?_
    refine then_next ?_
    refine vc_decideU rfl (fun h20 => ?_) (fun h20 => ?_)
    · skip
      refine vc_seq ?_
      refine vc_region ?_
      refine vl_det (det_assign rfl) rfl ?_
      refine vl_det (det_assign rfl) rfl ?_
      refine vl_end [(4, _), (5, _)] ⟨rfl, rfl, trivial⟩ ?_
      refine then_next ?_
      refine vc_ret ?_
      refine in_ret ?_
      refine then_ret ?_
      refine ret2 rfl rfl rfl ?_
      have h20' : l.length - k < x := by omega
      refine ⟨?_, ?_⟩
      · rw [tex3_b h16 h20']; try rfl
      · rw [tex3_b h16 h20']; try rfl
    · skip
      have hbt := (hb.head_ (k := k + x) (by omega)).cut (k := k) (by omega)
      have ebt : ((bv l).take ((k + x) * 1)).drop (k * 1) = bv ((l.drop k).take x) := by rw [Nat.mul_one, Nat.mul_one, bv_take, bv_drop, List.drop_take, Nat.add_sub_cancel_left]
      rw [ebt] at hbt
      refine vc_skip ?_
      refine in_normal ?_
      refine then_next ?_
      refine vc_seq ?_
      refine vc_region ?_
      refine vl_det (det_move rfl) rfl ?_
      refine vl_det (det_move rfl) rfl ?_
      refine vl_det (det_move rfl) rfl ?_
      refine vl_det (det_move rfl) rfl ?_
      refine vl_det (det_add rfl rfl (w_i64 (by omega) (by omega))) rfl ?_
      refine vl_det (det_slice_both (i := k) (j := k + x) (size := 1) Tryz.underlying26 (by kernel_rfl) rfl rfl rfl rfl rfl (by omega) (by omega)) rfl ?_
      refine vl_det (det_bstr Tryz.underlying26 Tryz.underlying5 Tryz.underlying9 rfl (by first | (exact Bor.own (by repeat (first | exact List.Mem.head _ | apply List.Mem.tail))) | (repeat (first | assumption | apply Bor.cons)))) rfl ?_
      refine vl_eff0 (eff_store (by kernel_rfl) rfl rfl rfl (by repeat (first | exact .hd | apply Sel.tl)) (by simp)) ?_
      rintro _ _ rfl
      refine vl_end [(6, _), (7, _)] ⟨rfl, rfl, trivial⟩ ?_
      refine then_next ?_
      refine vc_seq ?_
      refine vc_region ?_
      refine vl_det (det_move rfl) rfl ?_
      refine vl_det (det_move rfl) rfl ?_
      refine vl_det (det_add rfl rfl (w_i64 (by omega) (by omega))) rfl ?_
      refine vl_det (det_assign rfl) rfl ?_
      refine vl_det (det_assign rfl) rfl ?_
      refine vl_end [(4, _), (5, _)] ⟨rfl, rfl, trivial⟩ ?_
      refine then_next ?_
      refine vc_ret ?_
      refine ret2 rfl rfl rfl ?_
      have h20' : ¬ (l.length - k < x) := by omega
      refine ⟨?_, ?_⟩
      · rw [tex3_c h16 h20']; try rfl
      · rw [tex3_c h16 h20']; try rfl
theorem ctext_d (ho : CsOk s) (hb : Bor B w0 F 1 (.slice A s.b.length c) s.b.length (bv s.b)) {most : Int} (hm1 : -9223372036854775808 ≤ most) (hm2 : most ≤ 9223372036854775807) :
    Does Tryz.prog B w0 78 [.pointer (some ⟨g, 0, none⟩), .int .i64 most] (Cv g A c s :: F) (fun r L => r = .string ⟨(s.text most).toArray⟩ ∧ L = Cv g A c (s.text' most) :: F) := by
  by_cases h0 : s.e = 0
  · have hkb : (textS s.rest most).2.1 ≤ s.rest.length := by
      by_cases he : (textS s.rest most).2.2 = 0
      · rcases textS_le s.rest most he with h | h <;> omega
      · have : (textS s.rest most).2.1 = 0 := by
          unfold textS at he ⊢
          split
          · rfl
          · rename_i h1
            rw [if_neg h1] at he
            split
            · rfl
            · rename_i h2
              rw [if_neg h2] at he
              exact absurd rfl he
        omega
    rw [ho.rest.1] at hkb
    have hlb := ho.rest.2
    refine fn_walk Tryz.func78 10 rfl rfl rfl [(0, .pointer (some ⟨g, 0, none⟩)), (1, .int .i64 most)] ⟨⟨rfl, rfl⟩, ⟨rfl, rfl⟩, trivial⟩ ?_
    refine vc_seq ?_
    refine vc_region ?_
    refine vl_eff (eff_box rfl rfl) rfl ?_
    rintro _ _ ⟨g3, rfl, rfl⟩
    refine vl_det (det_assign rfl) rfl ?_
    refine vl_end [(0, _), (3, _)] ⟨rfl, rfl, trivial⟩ ?_
    refine then_next ?_
    refine vc_seq ?_
    refine vc_region ?_
    refine vl_eff (eff_alloc_z (zv := (.string ⟨#[]⟩)) (by kernel_rfl) rfl) rfl ?_
    rintro _ _ ⟨g5, rfl, rfl⟩
    refine vl_eff0 (eff_store (by kernel_rfl) rfl rfl rfl (by repeat (first | exact .hd | apply Sel.tl)) (by simp)) ?_
    rintro _ _ rfl
    refine vl_end [(0, _), (3, _), (5, _)] ⟨rfl, rfl, rfl, trivial⟩ ?_
    refine then_next ?_
    refine vc_seq ?_
    refine vc_region ?_
    refine vl_det (det_move rfl) rfl ?_
    refine vl_det (det_makeFunc rfl rfl) rfl ?_
    refine vl_call co62 rfl ((cread_ok (F := .blk g5 9 [.string ⟨#[]⟩] :: .blk g3 3 [.int .i64 most] :: F) ho (Bor.cons (Bor.cons hb)) h0 (caps := [.pointer (some ⟨g3, 0, none⟩), .pointer (some ⟨g5, 0, none⟩)]) (R' := fun F' => F' = .blk g5 9 [.string ⟨(textS s.rest most).1.toArray⟩] :: .blk g3 3 [.int .i64 most] :: F) (k := (textS s.rest most).2.1) (er := (textS s.rest most).2.2) co95 (by omega) (fun A' c' hbr => (textstep_d hbr (by omega) hm1 hm2).mono fun r L ⟨h1, h2⟩ => ⟨h1, _, rfl, h2⟩)).perm swp3) rfl ?_
    rintro _ _ ⟨rfl, _, hLL, rfl⟩
    obtain rfl := hLL.symm
    refine vl_end [(5, _)] ⟨rfl, trivial⟩ ?_
    refine then_next ?_
    refine vc_seq ?_
    refine vc_region ?_
    refine vl_det (det_load_blk (by kernel_rfl) rfl (by repeat (first | exact .hd | apply Sel.tl)) rfl) rfl ?_
    refine vl_det (det_assign rfl) rfl ?_
    refine vl_end [(4, _)] ⟨rfl, trivial⟩ ?_
    refine then_next ?_
    refine vc_ret ?_
    refine ret_wk (L' := Cv g A c (s.text' most) :: F) (.cons (.skip (.skip (.refl _)))) ?_
    refine ret1 rfl rfl ?_
    exact ⟨by simp [Cs.text, h0], rfl⟩
  · have e1 : s.text' most = s := by simp [Cs.text', Cs.moved, h0]
    have e2 : s.text most = [] := by simp [Cs.text, h0]
    rw [e1, e2]
    refine fn_walk Tryz.func78 10 rfl rfl rfl [(0, .pointer (some ⟨g, 0, none⟩)), (1, .int .i64 most)] ⟨⟨rfl, rfl⟩, ⟨rfl, rfl⟩, trivial⟩ ?_
    refine vc_seq ?_
    refine vc_region ?_
    refine vl_eff (eff_box rfl rfl) rfl ?_
    rintro _ _ ⟨g3, rfl, rfl⟩
    refine vl_det (det_assign rfl) rfl ?_
    refine vl_end [(0, _), (3, _)] ⟨rfl, rfl, trivial⟩ ?_
    refine then_next ?_
    refine vc_seq ?_
    refine vc_region ?_
    refine vl_eff (eff_alloc_z (zv := (.string ⟨#[]⟩)) (by kernel_rfl) rfl) rfl ?_
    rintro _ _ ⟨g5, rfl, rfl⟩
    refine vl_eff0 (eff_store (by kernel_rfl) rfl rfl rfl (by repeat (first | exact .hd | apply Sel.tl)) (by simp)) ?_
    rintro _ _ rfl
    refine vl_end [(0, _), (3, _), (5, _)] ⟨rfl, rfl, rfl, trivial⟩ ?_
    refine then_next ?_
    refine vc_seq ?_
    refine vc_region ?_
    refine vl_det (det_move rfl) rfl ?_
    refine vl_det (det_makeFunc rfl rfl) rfl ?_
    refine vl_call co62 rfl ((cread_bad h0).perm swp3) rfl ?_
    rintro _ _ ⟨rfl, hLL⟩
    obtain rfl := hLL.symm
    refine vl_end [(5, _)] ⟨rfl, trivial⟩ ?_
    refine then_next ?_
    refine vc_seq ?_
    refine vc_region ?_
    refine vl_det (det_load_blk (by kernel_rfl) rfl (by repeat (first | exact .hd | apply Sel.tl)) rfl) rfl ?_
    refine vl_det (det_assign rfl) rfl ?_
    refine vl_end [(4, _)] ⟨rfl, trivial⟩ ?_
    refine then_next ?_
    refine vc_ret ?_
    refine ret_wk (L' := Cv g A c s :: F) (.cons (.skip (.skip (.refl _)))) ?_
    refine ret1 rfl rfl ?_
    exact ⟨rfl, rfl⟩
def takeT (l : List UInt8) (n : Int) : List UInt8 := if takeErr l n ≠ 0 then [] else l.take n.toNat
def takeK (l : List UInt8) (n : Int) : Nat := if takeErr l n ≠ 0 then 0 else n.toNat
def TakeR (h3 h5 : Nat) (l : List UInt8) (m : Int) (F F' : List Ch) : Prop := ∃ A' c', F' = .own 5 1 A' (takeT l m).length c' (bv (takeT l m)) :: .blk h5 26 [.slice A' (takeT l m).length c'] :: .blk h3 3 [.int .i64 m] :: F
theorem takestep_d {l : List UInt8} {m : Int} (hb : Bor B w0 (.blk h5 26 [.slice none 0 0] :: .blk h3 3 [.int .i64 m] :: F) 1 (.slice A n c) n (bv l)) (hn : n ≤ 1099511627776) (hm1 : -9223372036854775808 ≤ m) (hm2 : m ≤ 9223372036854775807) :
    Does Tryz.prog B w0 65 [.slice A n c, .pointer (some ⟨h3, 0, none⟩), .pointer (some ⟨h5, 0, none⟩)] (C0 :: .blk h5 26 [.slice none 0 0] :: .blk h3 3 [.int .i64 m] :: F) (fun r L => r = .tuple #[.int .i64 (takeK l m), .int .i64 (takeErr l m)] ∧ ∃ F', TakeR h3 h5 l m F F' ∧ L = C0 :: F') := by
  refine Does.bor (L := C0 :: .blk h5 26 [.slice none 0 0] :: .blk h3 3 [.int .i64 m] :: F) (Bor.cons hb) fun hc hl => ?_
  simp at hl
  refine fn_walk Tryz.func65 17 rfl rfl rfl [(0, .slice A n c), (1, .pointer (some ⟨h3, 0, none⟩)), (2, .pointer (some ⟨h5, 0, none⟩))] ⟨⟨rfl, rfl⟩, ⟨rfl, rfl⟩, ⟨rfl, rfl⟩, trivial⟩ ?_
  refine vc_seq ?_
  refine vc_region ?_
  refine vl_det (det_assign rfl) rfl ?_
  refine vl_det (det_assign rfl) rfl ?_
  refine vl_end [(0, _), (1, _), (2, _)] ⟨rfl, rfl, rfl, trivial⟩ ?_
  refine then_next ?_
  refine vc_seq ?_
  refine vc_seq ?_
  refine vc_region ?_
  refine vl_det (det_load_blk (by kernel_rfl) rfl (by repeat (first | exact .hd | apply Sel.tl)) rfl) rfl ?_
  refine vl_det (det_lss rfl rfl) rfl ?_
  refine vl_end [(0, _), (1, _), (2, _), (7, _)] ⟨rfl, rfl, rfl, rfl, trivial⟩ ?_
  refine then_next ?_
  refine vc_decideU rfl (fun h7 => ?_) (fun h7 => ?_)
  · skip
    refine vc_seq ?_
    refine vc_region ?_
    refine vl_det (det_assign rfl) rfl ?_
    refine vl_det (det_assign rfl) rfl ?_
    refine vl_end [(4, _), (5, _)] ⟨rfl, rfl, trivial⟩ ?_
    refine then_next ?_
    refine vc_ret ?_
    refine then_ret ?_
    have e1 : takeErr l m = 13 := if_pos h7
    have e2 : takeT l m = [] := by simp [takeT, e1]
    have e3 : takeK l m = 0 := by simp [takeK, e1]
    refine ret_nil_row 5 1 none ?_
    refine ret_wk (L' := C0 :: .own 5 1 none 0 0 [] :: .blk h5 26 [.slice none 0 0] :: .blk h3 3 [.int .i64 m] :: F) (.swap (.refl _)) ?_
    refine ret2 rfl rfl rfl ?_
    exact ⟨by rw [e1, e3]; try rfl, _, ⟨none, 0, by rw [e2]; try rfl⟩, rfl⟩
  · skip
    obtain ⟨q, rfl⟩ := Int.eq_ofNat_of_zero_le (show 0 ≤ m by omega)
    refine vc_skip ?_
    refine then_next ?_
    refine vc_seq ?_
    refine vc_seq ?_
    refine vc_region ?_
    refine vl_det (det_load_blk (by kernel_rfl) rfl (by repeat (first | exact .hd | apply Sel.tl)) rfl) rfl ?_
    refine vl_det (det_move rfl) rfl ?_
    refine vl_det (det_len_sl Tryz.underlying26 rfl) rfl ?_
    refine vl_det (det_gtr rfl rfl) rfl ?_
    refine vl_end [(0, _), (1, _), (2, _), (11, _)] ⟨rfl, rfl, rfl, rfl, trivial⟩ ?_
    refine then_next ?_
    refine vc_decideU rfl (fun h11 => ?_) (fun h11 => ?_)
    · skip
      refine vc_seq ?_
      refine vc_region ?_
      refine vl_det (det_assign rfl) rfl ?_
      refine vl_det (det_assign rfl) rfl ?_
      refine vl_end [(4, _), (5, _)] ⟨rfl, rfl, trivial⟩ ?_
      refine then_next ?_
      refine vc_ret ?_
      refine then_ret ?_
      have e1 : takeErr l q = 1 := by unfold takeErr; rw [if_neg h7, if_pos (by omega)]
      have e2 : takeT l q = [] := by simp [takeT, e1]
      have e3 : takeK l q = 0 := by simp [takeK, e1]
      refine ret_nil_row 5 1 none ?_
      refine ret_wk (L' := C0 :: .own 5 1 none 0 0 [] :: .blk h5 26 [.slice none 0 0] :: .blk h3 3 [.int .i64 q] :: F) (.swap (.refl _)) ?_
      refine ret2 rfl rfl rfl ?_
      exact ⟨by rw [e1, e3]; try rfl, _, ⟨none, 0, by rw [e2]; try rfl⟩, rfl⟩
    · skip
      have hbt := hb.head_ (k := q) (by omega)
      have ebt : (bv l).take (q * 1) = bv (l.take q) := by rw [Nat.mul_one, bv_take]
      rw [ebt] at hbt
      refine vc_skip ?_
      refine then_next ?_
      refine vc_seq ?_
      refine vc_region ?_
      refine vl_det (det_move rfl) rfl ?_
      refine vl_det (det_load_blk (by kernel_rfl) rfl (by repeat (first | exact .hd | apply Sel.tl)) rfl) rfl ?_
      refine vl_det (det_slice_hi (i := q) (size := 1) Tryz.underlying26 (by kernel_rfl) rfl rfl rfl (by omega)) rfl ?_
      refine vl_call co60 rfl (clone_d (l.take q) (by first | (exact Bor.own (by repeat (first | exact List.Mem.head _ | apply List.Mem.tail))) | (repeat (first | assumption | apply Bor.cons))) (by omega)) rfl ?_
      rintro _ _ ⟨A15, c15, rfl, hLL⟩
      obtain rfl := hLL.symm
      refine vl_eff0 (eff_store (by kernel_rfl) rfl rfl rfl (by repeat (first | exact .hd | apply Sel.tl)) (by simp)) ?_
      rintro _ _ rfl
      refine vl_end [(1, _)] ⟨rfl, trivial⟩ ?_
      refine then_next ?_
      refine vc_seq ?_
      refine vc_region ?_
      refine vl_det (det_load_blk (by kernel_rfl) rfl (by repeat (first | exact .hd | apply Sel.tl)) rfl) rfl ?_
      refine vl_det (det_assign rfl) rfl ?_
      refine vl_det (det_assign rfl) rfl ?_
      refine vl_end [(4, _), (5, _)] ⟨rfl, rfl, trivial⟩ ?_
      refine then_next ?_
      refine vc_ret ?_
      have e1 : takeErr l q = 0 := by unfold takeErr; rw [if_neg h7, if_neg (by omega)]
      have e2 : takeT l q = l.take q := by simp [takeT, e1]
      have e3 : takeK l q = q := by simp [takeK, e1]
      have e4 : (takeT l q).length = q := by rw [e2, List.length_take]; omega
      refine ret_wk (L' := C0 :: .own 5 1 A15 (takeT l q).length c15 (bv (takeT l q)) :: .blk h5 26 [.slice A15 (takeT l q).length c15] :: .blk h3 3 [.int .i64 q] :: F) (by rw [e4, e2]; exact .swap (.refl _)) ?_
      refine ret2 rfl rfl rfl ?_
      exact ⟨by rw [e1, e3], _, ⟨A15, c15, rfl⟩, rfl⟩
theorem takeK_le (l : List UInt8) (n : Int) : takeK l n ≤ l.length := by
  unfold takeK
  split
  · omega
  · rename_i h
    exact (takeErr_le (by simpa using h)).2
theorem take_of {s : Cs} {n : Int} (h0 : s.e = 0) : s.take n = takeT s.rest n := by simp [Cs.take, takeT, h0]
theorem take'_of {s : Cs} {n : Int} : s.take' n = s.moved (takeK s.rest n) (takeErr s.rest n) := by
  unfold Cs.take' Cs.moved takeK
  split
  · rfl
  · split
    · rfl
    · rfl
theorem ctake_d (ho : CsOk s) (hb : Bor B w0 F 1 (.slice A s.b.length c) s.b.length (bv s.b)) {m : Int} (hm1 : -9223372036854775808 ≤ m) (hm2 : m ≤ 9223372036854775807) :
    Does Tryz.prog B w0 40 [.pointer (some ⟨g, 0, none⟩), .int .i64 m] (Cv g A c s :: F) (fun r L => ∃ A' c', r = .slice A' (s.take m).length c' ∧ L = Cv g A c (s.take' m) :: .own 5 1 A' (s.take m).length c' (bv (s.take m)) :: F) := by
  by_cases h0 : s.e = 0
  · have hkb := takeK_le s.rest m
    rw [ho.rest.1] at hkb
    have hlb := ho.rest.2
    rw [take_of h0, take'_of]
    refine fn_walk Tryz.func40 10 rfl rfl rfl [(0, .pointer (some ⟨g, 0, none⟩)), (1, .int .i64 m)] ⟨⟨rfl, rfl⟩, ⟨rfl, rfl⟩, trivial⟩ ?_
    refine vc_seq ?_
    refine vc_region ?_
    refine vl_eff (eff_box rfl rfl) rfl ?_
    rintro _ _ ⟨g3, rfl, rfl⟩
    refine vl_det (det_assign rfl) rfl ?_
    refine vl_end [(0, _), (3, _)] ⟨rfl, rfl, trivial⟩ ?_
    refine then_next ?_
    refine vc_seq ?_
    refine vc_region ?_
    refine vl_eff (eff_alloc_z (zv := (.slice none 0 0)) (by kernel_rfl) rfl) rfl ?_
    rintro _ _ ⟨g5, rfl, rfl⟩
    refine vl_end [(0, _), (3, _), (5, _)] ⟨rfl, rfl, rfl, trivial⟩ ?_
    refine then_next ?_
    refine vc_seq ?_
    refine vc_region ?_
    refine vl_det (det_move rfl) rfl ?_
    refine vl_det (det_makeFunc rfl rfl) rfl ?_
    refine vl_call co62 rfl ((cread_ok (F := .blk g5 26 [.slice none 0 0] :: .blk g3 3 [.int .i64 m] :: F) ho (Bor.cons (Bor.cons hb)) h0 (caps := [.pointer (some ⟨g3, 0, none⟩), .pointer (some ⟨g5, 0, none⟩)]) (R' := TakeR g3 g5 s.rest m F) (k := takeK s.rest m) (er := takeErr s.rest m) co65 (by omega) (fun A' c' hbr => takestep_d hbr (by omega) hm1 hm2)).perm swp3) rfl ?_
    rintro _ _ ⟨rfl, _, ⟨A8, c8, hLL⟩, rfl⟩
    obtain rfl := hLL.symm
    refine vl_end [(5, _)] ⟨rfl, trivial⟩ ?_
    refine then_next ?_
    refine vc_seq ?_
    refine vc_region ?_
    refine vl_det (det_load_blk (by kernel_rfl) rfl (by repeat (first | exact .hd | apply Sel.tl)) rfl) rfl ?_
    refine vl_det (det_assign rfl) rfl ?_
    refine vl_end [(4, _)] ⟨rfl, trivial⟩ ?_
    refine then_next ?_
    refine vc_ret ?_
    refine ret_wk (L' := Cv g A c (s.moved (takeK s.rest m) (takeErr s.rest m)) :: .own 5 1 A8 (takeT s.rest m).length c8 (bv (takeT s.rest m)) :: F) (.cons (.cons (.skip (.skip (.refl _))))) ?_
    refine ret1 rfl rfl ?_
    exact ⟨A8, c8, rfl, rfl⟩
  · have e1 : s.take' m = s := by simp [Cs.take', Cs.moved, h0]
    have e2 : s.take m = [] := by simp [Cs.take, h0]
    rw [e1, e2]
    refine fn_walk Tryz.func40 10 rfl rfl rfl [(0, .pointer (some ⟨g, 0, none⟩)), (1, .int .i64 m)] ⟨⟨rfl, rfl⟩, ⟨rfl, rfl⟩, trivial⟩ ?_
    refine vc_seq ?_
    refine vc_region ?_
    refine vl_eff (eff_box rfl rfl) rfl ?_
    rintro _ _ ⟨g3, rfl, rfl⟩
    refine vl_det (det_assign rfl) rfl ?_
    refine vl_end [(0, _), (3, _)] ⟨rfl, rfl, trivial⟩ ?_
    refine then_next ?_
    refine vc_seq ?_
    refine vc_region ?_
    refine vl_eff (eff_alloc_z (zv := (.slice none 0 0)) (by kernel_rfl) rfl) rfl ?_
    rintro _ _ ⟨g5, rfl, rfl⟩
    refine vl_end [(0, _), (3, _), (5, _)] ⟨rfl, rfl, rfl, trivial⟩ ?_
    refine then_next ?_
    refine vc_seq ?_
    refine vc_region ?_
    refine vl_det (det_move rfl) rfl ?_
    refine vl_det (det_makeFunc rfl rfl) rfl ?_
    refine vl_call co62 rfl ((cread_bad h0).perm swp3) rfl ?_
    rintro _ _ ⟨rfl, hLL⟩
    obtain rfl := hLL.symm
    refine vl_end [(5, _)] ⟨rfl, trivial⟩ ?_
    refine then_next ?_
    refine vc_seq ?_
    refine vc_region ?_
    refine vl_det (det_load_blk (by kernel_rfl) rfl (by repeat (first | exact .hd | apply Sel.tl)) rfl) rfl ?_
    refine vl_det (det_assign rfl) rfl ?_
    refine vl_end [(4, _)] ⟨rfl, trivial⟩ ?_
    refine then_next ?_
    refine vc_ret ?_
    refine ret_nil_row 5 1 none ?_
    refine ret_wk (L' := Cv g A c s :: .own 5 1 none 0 0 [] :: F) (.swap (.cons (.swap (.skip (.swap (.skip (.refl _))))))) ?_
    refine ret1 rfl rfl ?_
    exact ⟨none, 0, rfl, rfl⟩
theorem cnew_d {l : List UInt8} (hb : Bor B w0 F 1 (.slice A l.length c) l.length (bv l)) (hl : l.length ≤ 1099511627776) :
    Does Tryz.prog B w0 37 [.slice A l.length c] F (fun r L => ∃ g A' c', r = .pointer (some ⟨g, 0, none⟩) ∧ L = Cv g A' c' ⟨l, 0, 0⟩ :: .own 5 1 A' l.length c' (bv l) :: F) := by
  refine fn_walk Tryz.func37 8 rfl rfl rfl [(0, .slice A l.length c)] ⟨⟨rfl, rfl⟩, trivial⟩ ?_
  refine vc_seq ?_
  refine vc_region ?_
  refine vl_det (det_assign rfl) rfl ?_
  refine vl_end [(0, _)] ⟨rfl, trivial⟩ ?_
  refine then_next ?_
  refine vc_seq ?_
  refine vc_region ?_
  refine vl_det (det_move rfl) rfl ?_
  refine vl_call co60 rfl (clone_d l hb hl) rfl ?_
  rintro _ _ ⟨A4, c4, rfl, hLL⟩
  obtain rfl := hLL.symm
  refine vl_det (det_buildp [(0, _)] [.slice none 0 0, .int .i64 0] [0] [_, _] rfl rfl (by kernel_rfl)) rfl ?_
  refine vl_det (det_buildp [(0, _)] [.slice none 0 0, .int .i64 0, .int .i64 0] [0] [_, _, _] rfl rfl (by kernel_rfl)) rfl ?_
  refine vl_eff (eff_box rfl rfl) rfl ?_
  rintro _ _ ⟨g7, rfl, rfl⟩
  refine vl_det (det_assign rfl) rfl ?_
  refine vl_end [(2, _)] ⟨rfl, trivial⟩ ?_
  refine then_next ?_
  refine vc_ret ?_
  refine ret1 rfl rfl ?_
  exact ⟨g7, A4, c4, rfl, rfl⟩
end Go.Proofs.YtpamjobiohbibaaGreat
namespace Go.Proofs.YtpamjobiohbibaaGreat
open Go.RowKit
set_option linter.unusedVariables false
set_option maxRecDepth 20000
variable {B : Nat} {w0 : World} {F : List Ch} {A A1 A2 : Option Addr} {n c c1 c2 g : Nat}
theorem encL_len {n : Nat} (h : n ≤ 20000) : (encN n).length ≤ 10 := encN_len10 (by omega)
theorem efwrite_bad {bound : Int} {ids : List Int} (hb : Bor B w0 F 1 (.slice A ids.length c) ids.length (ints .i64 ids)) (hl : ids.length ≤ 9000000000000000000) (hE : bound < 0 ∨ 20000 < bound ∨ ¬ Ris bound ids) :
    Does Tryz.prog B w0 13 [.int .i64 bound, .slice A ids.length c] F (fun r L => ∃ A' c', r = .tuple #[.slice A' 0 c', .int .i64 13] ∧ L = .own 5 1 A' 0 c' [] :: F) := by
  refine fn_walk Tryz.func13 80 rfl rfl rfl [(0, .int .i64 bound), (1, .slice A ids.length c)] ⟨⟨rfl, rfl⟩, ⟨rfl, rfl⟩, trivial⟩ ?_
  refine vc_seq ?_
  refine vc_region ?_
  refine vl_det (det_assign rfl) rfl ?_
  refine vl_det (det_assign rfl) rfl ?_
  refine vl_end [(0, _), (1, _)] ⟨rfl, rfl, trivial⟩ ?_
  refine then_next ?_
  refine vc_seq ?_
  refine vc_seq ?_
  refine vc_region ?_
  refine vl_cut 12 27 [(0, _), (1, _)] (bound < 0 ∨ 20000 < bound ∨ ¬ Ris bound ids) ⟨rfl, rfl, trivial⟩ ?_ ?_
  · skip
    refine vl_det (det_move rfl) rfl ?_
    refine vl_det (det_lss rfl rfl) rfl ?_
    refine vl_det (det_move rfl) rfl ?_
    refine vl_guardn rfl rfl rfl (fun h18 => ?_) (fun h18 => ?_)
    · skip
      refine vl_det (det_move rfl) rfl ?_
      refine vl_guard_t rfl rfl ?_
      refine vl_det (det_gtr rfl rfl) rfl ?_
      refine vl_det (det_pick_f rfl rfl) rfl ?_
      refine vl_det (det_move rfl) rfl ?_
      refine vl_guardn rfl rfl rfl (fun h22 => ?_) (fun h22 => ?_)
      · skip
        refine vl_det (det_move rfl) rfl ?_
        refine vl_guard_t rfl rfl ?_
        refine vl_det (det_move rfl) rfl ?_
        refine vl_guard_t rfl rfl ?_
        refine vl_call co30 rfl (rises_d bound ids hb hl) rfl ?_
        rintro _ _ ⟨rfl, hLL⟩
        obtain rfl := hLL.symm
        refine vl_guard_t rfl rfl ?_
        refine vl_det (det_notd rfl) rfl ?_
        refine vl_det (det_pick_f rfl rfl) rfl ?_
        exact vl_cut_end ⟨rfl, rfl, trivial⟩ (by first | rfl | exact bool_to_t (by first | exact .inl (by omega) | exact .inr (.inl (by omega)) | exact ⟨fun h => .inr (.inr h), fun h => by rcases h with h | h | h <;> first | omega | exact h⟩) | exact bool_to_f (by first | exact .inl (by omega) | exact .inr (.inl (by omega)) | exact ⟨fun h => .inr (.inr h), fun h => by rcases h with h | h | h <;> first | omega | exact h⟩) | exact bool_to (by first | exact .inl (by omega) | exact .inr (.inl (by omega)) | exact ⟨fun h => .inr (.inr h), fun h => by rcases h with h | h | h <;> first | omega | exact h⟩) | exact bool_to_b (by first | exact .inl (by omega) | exact .inr (.inl (by omega)) | exact ⟨fun h => .inr (.inr h), fun h => by rcases h with h | h | h <;> first | omega | exact h⟩))
      · skip
        refine vl_guard_f rfl rfl rfl rfl ?_
        refine vl_guard_f rfl rfl rfl rfl ?_
        refine vl_guard_f rfl rfl rfl rfl ?_
        refine vl_det (det_pick_t rfl rfl) rfl ?_
        exact vl_cut_end ⟨rfl, rfl, trivial⟩ (by first | rfl | exact bool_to_t (by first | exact .inl (by omega) | exact .inr (.inl (by omega)) | exact ⟨fun h => .inr (.inr h), fun h => by rcases h with h | h | h <;> first | omega | exact h⟩) | exact bool_to_f (by first | exact .inl (by omega) | exact .inr (.inl (by omega)) | exact ⟨fun h => .inr (.inr h), fun h => by rcases h with h | h | h <;> first | omega | exact h⟩) | exact bool_to (by first | exact .inl (by omega) | exact .inr (.inl (by omega)) | exact ⟨fun h => .inr (.inr h), fun h => by rcases h with h | h | h <;> first | omega | exact h⟩) | exact bool_to_b (by first | exact .inl (by omega) | exact .inr (.inl (by omega)) | exact ⟨fun h => .inr (.inr h), fun h => by rcases h with h | h | h <;> first | omega | exact h⟩))
    · skip
      refine vl_guard_f rfl rfl rfl rfl ?_
      refine vl_det (det_pick_t rfl rfl) rfl ?_
      refine vl_det (det_move rfl) rfl ?_
      refine vl_guard_f rfl rfl rfl rfl ?_
      refine vl_guard_f rfl rfl rfl rfl ?_
      refine vl_guard_f rfl rfl rfl rfl ?_
      refine vl_guard_f rfl rfl rfl rfl ?_
      refine vl_det (det_pick_t rfl rfl) rfl ?_
      exact vl_cut_end ⟨rfl, rfl, trivial⟩ (by first | rfl | exact bool_to_t (by first | exact .inl (by omega) | exact .inr (.inl (by omega)) | exact ⟨fun h => .inr (.inr h), fun h => by rcases h with h | h | h <;> first | omega | exact h⟩) | exact bool_to_f (by first | exact .inl (by omega) | exact .inr (.inl (by omega)) | exact ⟨fun h => .inr (.inr h), fun h => by rcases h with h | h | h <;> first | omega | exact h⟩) | exact bool_to (by first | exact .inl (by omega) | exact .inr (.inl (by omega)) | exact ⟨fun h => .inr (.inr h), fun h => by rcases h with h | h | h <;> first | omega | exact h⟩) | exact bool_to_b (by first | exact .inl (by omega) | exact .inr (.inl (by omega)) | exact ⟨fun h => .inr (.inr h), fun h => by rcases h with h | h | h <;> first | omega | exact h⟩))
  · skip
    refine vl_end [(0, _), (1, _), (27, _)] ⟨rfl, rfl, rfl, trivial⟩ ?_
    refine then_next ?_
    refine vc_decideU rfl (fun h27 => ?_) (fun h27 => ?_)
    · skip
      refine vc_seq ?_
      refine vc_region ?_
      refine vl_det (det_assign rfl) rfl ?_
      refine vl_det (det_assign rfl) rfl ?_
      refine vl_end [(4, _), (5, _)] ⟨rfl, rfl, trivial⟩ ?_
      refine then_next ?_
      refine vc_ret ?_
      refine then_ret ?_
      refine ret_nil_row 5 1 none ?_
      refine ret2 rfl rfl rfl ?_
      exact ⟨none, 0, rfl, rfl⟩
    · skip
      exfalso; exact h27 hE
theorem efwrite_ok {b : Nat} {xs : List Nat} (hb : Bor B w0 F 1 (.slice A xs.length c) xs.length (natv xs)) (hb2 : b ≤ 20000) (hR : RisN b xs) :
    Does Tryz.prog B w0 13 [.int .i64 b, .slice A xs.length c] F (fun r L => ∃ A' c', r = .tuple #[.slice A' (efB b xs).length c', .int .i64 0] ∧ L = .own 5 1 A' (efB b xs).length c' (bv (efB b xs)) :: F) := by
  have hlen := hR.len
  have hi : Ris b (xs.map (fun (n : Nat) => (n : Int))) := (ris_iff b xs).2 hR
  have hr := rises_d (B := B) (w0 := w0) (F := F) (A := A) (c := c) (b : Int) (xs.map (fun (n : Nat) => (n : Int))) (by rw [ints_nat, List.length_map]; exact hb) (by rw [List.length_map]; omega)
  rw [List.length_map] at hr
  have hwl := wid_le (n := xs.length) hb2
  obtain ⟨w, hw⟩ : ∃ w, w = wid b xs.length := ⟨_, rfl⟩
  rw [← hw] at hwl
  obtain ⟨p, hp⟩ : ∃ p, p = 2 ^ w := ⟨_, rfl⟩
  have hp0 : 1 ≤ p := by rw [hp]; exact Nat.one_le_two_pow
  have hel := encL_len (n := xs.length) (by omega)
  have heB0 : xs.length = 0 → efB b xs = encN xs.length := fun h => by unfold efB; rw [if_pos h]; simp
  have heB1 : ¬ xs.length = 0 → efB b xs = encN xs.length ++ packed (loS p w xs ++ unS p 0 xs) := fun h => by unfold efB efQ; rw [if_neg h, ← hw, ← hp]
  have hql := efQ_len (p := p) (w := w) hR hb2 hwl
  unfold efQ at hql
  have hpl := packed_length (loS p w xs ++ unS p 0 xs)
  refine fn_walk Tryz.func13 80 rfl rfl rfl [(0, .int .i64 b), (1, .slice A xs.length c)] ⟨⟨rfl, rfl⟩, ⟨rfl, rfl⟩, trivial⟩ ?_
  refine vc_seq ?_
  refine vc_region ?_
  refine vl_det (det_assign rfl) rfl ?_
  refine vl_det (det_assign rfl) rfl ?_
  refine vl_end [(0, _), (1, _)] ⟨rfl, rfl, trivial⟩ ?_
  refine then_next ?_
  refine vc_seq ?_
  refine vc_seq ?_
  refine vc_region ?_
  refine vl_det (det_move rfl) rfl ?_
  refine vl_det (det_lss rfl rfl) rfl ?_
  refine vl_det (det_move rfl) rfl ?_
  refine vl_guardn rfl rfl rfl (fun h18 => ?_) (fun h18 => ?_)
  · skip
    refine vl_det (det_move rfl) rfl ?_
    refine vl_guard_t rfl rfl ?_
    refine vl_det (det_gtr rfl rfl) rfl ?_
    refine vl_det (det_pick_f rfl rfl) rfl ?_
    refine vl_det (det_move rfl) rfl ?_
    refine vl_guardn rfl rfl rfl (fun h22 => ?_) (fun h22 => ?_)
    · skip
      refine vl_det (det_move rfl) rfl ?_
      refine vl_guard_t rfl rfl ?_
      refine vl_det (det_move rfl) rfl ?_
      refine vl_guard_t rfl rfl ?_
      refine vl_call co30 rfl (hr) rfl ?_
      rintro _ _ ⟨rfl, hLL⟩
      obtain rfl := hLL.symm
      refine vl_guard_t rfl rfl ?_
      refine vl_det (det_notd rfl) rfl ?_
      refine vl_det (det_pick_f rfl rfl) rfl ?_
      refine vl_end [(0, _), (1, _), (27, _)] ⟨rfl, rfl, rfl, trivial⟩ ?_
      refine then_next ?_
      refine vc_decideU rfl (fun h27 => ?_) (fun h27 => ?_)
      · skip
        exfalso; exact h27 hi
      · skip
        refine vc_skip ?_
        refine then_next ?_
        refine vc_seq ?_
        refine vc_region ?_
        refine vl_det (det_move rfl) rfl ?_
        refine vl_det (det_len_sl Tryz.underlying42 rfl) rfl ?_
        refine vl_det (det_conv Tryz.underlying3 Tryz.underlying39 rfl (w_u64 (by omega) (by omega))) rfl ?_
        refine vl_call co27 rfl (num_d xs.length (by omega)) rfl ?_
        rintro _ _ ⟨A31, c31, rfl, hLL⟩
        obtain rfl := hLL.symm
        refine vl_det (det_assign rfl) rfl ?_
        refine vl_end [(0, _), (1, _), (6, _)] ⟨rfl, rfl, rfl, trivial⟩ ?_
        refine then_next ?_
        refine vc_seq ?_
        refine vc_seq ?_
        refine vc_region ?_
        refine vl_det (det_move rfl) rfl ?_
        refine vl_det (det_len_sl Tryz.underlying42 rfl) rfl ?_
        refine vl_det (det_eql rfl rfl) rfl ?_
        refine vl_end [(0, _), (1, _), (6, _), (34, _)] ⟨rfl, rfl, rfl, rfl, trivial⟩ ?_
        refine then_next ?_
        refine vc_decideU rfl (fun h34 => ?_) (fun h34 => ?_)
        · skip
          refine vc_seq ?_
          refine vc_region ?_
          refine vl_det (det_move rfl) rfl ?_
          refine vl_det (det_assign rfl) rfl ?_
          refine vl_det (det_assign rfl) rfl ?_
          refine vl_end [(4, _), (5, _)] ⟨rfl, rfl, trivial⟩ ?_
          refine then_next ?_
          refine vc_ret ?_
          refine then_ret ?_
          rw [heB0 (by omega)]
          refine ret2 rfl rfl rfl ?_
          exact ⟨A31, c31, rfl, rfl⟩
        · skip
          refine vc_skip ?_
          refine then_next ?_
          refine vc_seq ?_
          refine vc_region ?_
          refine vl_det (det_move rfl) rfl ?_
          refine vl_det (det_move rfl) rfl ?_
          refine vl_det (det_len_sl Tryz.underlying42 rfl) rfl ?_
          refine vl_call co31 rfl (width_d b xs.length hb2 (by omega) hlen) rfl ?_
          rintro _ _ ⟨rfl, hLL⟩
          obtain rfl := hLL.symm
          rw [← hw]
          refine vl_det (det_buildp [(0, _)] [.int .i64 0, .slice none 0 0, .slice none 0 0] [0] [_, _, _] rfl rfl (by kernel_rfl)) rfl ?_
          refine vl_eff (eff_alloc_z (zv := (.agg #[.int .i64 0, .slice none 0 0, .slice none 0 0])) (by kernel_rfl) rfl) rfl ?_
          rintro _ _ ⟨g7, rfl, rfl⟩
          refine vl_eff0 (eff_store_whole 3 (by kernel_rfl) rfl rfl (by first | exact bv_one _ | exact strs_one _ | exact ints_one _ _ | (simp; done) | (simp [Value.oneCell']; done) | assumption) (by repeat (first | exact .hd | apply Sel.tl)) (by first | rfl | (simp; omega) | (simp [*]; done)) (by first | rfl | (simp; omega) | (simp [*]; done))) ?_
          rintro _ _ rfl
          refine vl_end [(1, _), (6, _), (7, _)] ⟨rfl, rfl, rfl, trivial⟩ ?_
          refine then_next ?_
          refine vc_seq ?_
          refine vc_seq ?_
          refine vc_nil_row 79 1 none ?_
          refine vc_nil_row 3 1 none ?_
          refine vc_region ?_
          refine vl_det (det_move rfl) rfl ?_
          refine vl_det (det_len_sl Tryz.underlying42 rfl) rfl ?_
          refine vl_det (det_move rfl) rfl ?_
          refine vl_end [(6, _), (7, _), (41, _), (42, _), (43, _)] ⟨rfl, rfl, rfl, rfl, rfl, trivial⟩ ?_
          refine then_next ?_
          refine vc_block ?_
          refine vc_loopJ (fun zf zL zm => ∃ (k : Nat) (P1 : Option Addr) (p1 : Nat) (P2 : Option Addr) (p2 : Nat), (k ≤ xs.length) ∧ xs.length - k = zm ∧ Sub zf [(6, .slice A31 (encN xs.length).length c31), (7, .pointer (some ⟨g7, 0, none⟩)), (41, .slice A xs.length c), (42, .int .i64 xs.length), (43, .int .i64 k)] ∧ Wk zL (Pt g7 73 w p P1 p1 P2 p2 (xs.take k) (.own 5 1 A31 (encN xs.length).length c31 (bv (encN xs.length)) :: F))) _ ⟨0, none, 0, none, 0, Nat.zero_le _, rfl, ⟨(by first | rfl | exact int_to (by omega) | exact sl_to (by omega)), (by first | rfl | exact int_to (by omega) | exact sl_to (by omega)), (by first | rfl | exact int_to (by omega) | exact sl_to (by omega)), (by first | rfl | exact int_to (by omega) | exact sl_to (by omega)), (by first | rfl | exact int_to (by omega) | exact sl_to (by omega)), trivial⟩, .of_perm swp3⟩ ?_
          rintro _ _ _ ⟨k, P1, p1, P2, p2, hk, rfl, hs, hp⟩
          refine vc_weaken _ hs (vc_wk hp ?_)
          clear hs hp
          refine vc_seq ?_
          refine vc_region ?_
          refine vl_det (det_lss rfl rfl) rfl ?_
          refine vl_end [(6, _), (7, _), (41, _), (42, _), (43, _), (44, _)] ⟨rfl, rfl, rfl, rfl, rfl, rfl, trivial⟩ ?_
          refine then_next ?_
          refine vc_seq ?_
          refine vc_decideU rfl (fun h44 => ?_) (fun h44 => ?_)
          · skip
            have hxk := (hR k (by omega)).1
            have htl := List.length_take_le k xs
            refine vc_skip ?_
            refine then_next ?_
            refine vc_seq ?_
            refine vc_block ?_
            refine vc_seq ?_
            refine vc_region ?_
            refine vl_det (det_indexAddr (size := 1) Tryz.underlying42 (by kernel_rfl) rfl rfl rfl (by omega) (by first | (exact Bor.own (by repeat (first | exact List.Mem.head _ | apply List.Mem.tail))) | (repeat (first | assumption | apply Bor.cons)))) rfl ?_
            refine vl_det (det_load_row (by kernel_rfl) rfl (by first | (exact Bor.own (by repeat (first | exact List.Mem.head _ | apply List.Mem.tail))) | (repeat (first | assumption | apply Bor.cons))) (by omega) (natv_get (by omega))) rfl ?_
            refine vl_det (det_assign rfl) rfl ?_
            refine vl_end [(6, _), (7, _), (9, _), (41, _), (42, _), (43, _)] ⟨rfl, rfl, rfl, rfl, rfl, rfl, trivial⟩ ?_
            refine then_next ?_
            refine vc_region ?_
            refine vl_det (det_move rfl) rfl ?_
            refine vl_call co32 rfl (padd_d 73 hp hwl (xs.take k) (xs.getD k 0) (by omega) (by omega)) rfl ?_
            rintro _ _ ⟨rfl, P48, p48, Q48, q48, hLL⟩
            obtain rfl := hLL.symm
            refine vl_end [(6, _), (7, _), (41, _), (42, _), (43, _)] ⟨rfl, rfl, rfl, rfl, rfl, trivial⟩ ?_
            refine in_normal ?_
            refine then_next ?_
            refine vc_region ?_
            refine vl_det (det_add rfl rfl (w_i64 (by omega) (by omega))) rfl ?_
            refine vl_det (det_move rfl) rfl ?_
            refine vl_end [(6, _), (7, _), (41, _), (42, _), (43, _)] ⟨rfl, rfl, rfl, rfl, rfl, trivial⟩ ?_
            refine in_loop_ ⟨_, by omega, k + 1, P48, p48, Q48, q48, by omega, rfl, ⟨(by first | rfl | exact int_to (by omega) | exact sl_to (by omega)), (by first | rfl | exact int_to (by omega) | exact sl_to (by omega)), (by first | rfl | exact int_to (by omega) | exact sl_to (by omega)), (by first | rfl | exact int_to (by omega) | exact sl_to (by omega)), (by first | rfl | exact int_to (by omega) | exact sl_to (by omega)), trivial⟩, by rw [take_getD (show k < xs.length by omega) 0]; exact .refl _⟩
          · skip
            obtain rfl : k = xs.length := by omega
            rw [List.take_length]
            refine vc_exit ?_
            refine then_exit ?_
            refine loop_exit ?_
            refine in_eq ?_
            refine then_next ?_
            refine vc_seq ?_
            refine vc_region ?_
            refine vl_eff (eff_alloc_z (zv := (.agg #[.slice none 0 0, .int .i64 0])) (by kernel_rfl) rfl) rfl ?_
            rintro _ _ ⟨g10, rfl, rfl⟩
            refine vl_end [(6, _), (7, _), (10, _)] ⟨rfl, rfl, rfl, trivial⟩ ?_
            refine then_next ?_
            refine vc_seq ?_
            refine vc_seq ?_
            refine vc_nil_row 5 1 none ?_
            refine vc_region ?_
            refine vl_det (det_fieldAddr_ Tryz.underlying73 rfl (by kernel_rfl) rfl rfl) rfl ?_
            refine vl_det (det_load_blk (by kernel_rfl) rfl (by repeat (first | exact .hd | apply Sel.tl)) rfl) rfl ?_
            refine vl_det (det_len_sl Tryz.underlying71 rfl) rfl ?_
            refine vl_det (det_move rfl) rfl ?_
            refine vl_end [(6, _), (7, _), (10, _), (51, _), (52, _), (53, _)] ⟨rfl, rfl, rfl, rfl, rfl, rfl, trivial⟩ ?_
            refine then_next ?_
            refine vc_block ?_
            refine vc_loopJ (fun zf zL zm => ∃ (k : Nat) (A8 : Option Addr) (c8 : Nat), (k ≤ xs.length) ∧ xs.length - k = zm ∧ Sub zf [(6, .slice A31 (encN xs.length).length c31), (7, .pointer (some ⟨g7, 0, none⟩)), (10, .pointer (some ⟨g10, 0, none⟩)), (51, .slice P2 xs.length p2), (52, .int .i64 xs.length), (53, .int .i64 k)] ∧ Wk zL (Wr g10 78 A8 c8 (loS p w (xs.take k)) (Pt g7 73 w p P1 p1 P2 p2 xs (.own 5 1 A31 (encN xs.length).length c31 (bv (encN xs.length)) :: F)))) _ ⟨0, none, 0, Nat.zero_le _, rfl, ⟨(by first | rfl | exact int_to (by omega) | exact sl_to (by omega)), (by first | rfl | exact int_to (by omega) | exact sl_to (by omega)), (by first | rfl | exact int_to (by omega) | exact sl_to (by omega)), (by first | rfl | exact int_to (by omega) | exact sl_to (by omega)), (by first | rfl | exact int_to (by omega) | exact sl_to (by omega)), (by first | rfl | exact int_to (by omega) | exact sl_to (by omega)), trivial⟩, by rw [show loS p w (xs.take 0) = [] from rfl]; exact .of_perm swp⟩ ?_
            rintro _ _ _ ⟨k, A8, c8, hk2, rfl, hs, hp⟩
            refine vc_weaken _ hs (vc_wk hp ?_)
            clear hs hp
            refine vc_seq ?_
            skip
            refine vc_region ?_
            refine vl_det (det_lss rfl rfl) rfl ?_
            refine vl_end [(6, _), (7, _), (10, _), (51, _), (52, _), (53, _), (54, _)] ⟨rfl, rfl, rfl, rfl, rfl, rfl, rfl, trivial⟩ ?_
            refine then_next ?_
            refine vc_seq ?_
            refine vc_decideU rfl (fun h54 => ?_) (fun h54 => ?_)
            · skip
              have hxk := (hR k (by omega)).1
              have hmod : xs.getD k 0 % p < p := Nat.mod_lt _ hp0
              have hpb : p ≤ 16384 := by rw [hp]; exact pow_le14 hwl
              have hLo : (u16v (xs.map (· % p)))[k * 1]? = some (.int .u16 (xs.getD k 0 % p : Nat)) := by simp [u16v, List.getD, List.getElem?_eq_getElem (show k < xs.length by omega)]
              have hll := loS_length p w (xs.take k)
              have hlm : (xs.take k).length * w ≤ 20000 * 14 := Nat.mul_le_mul (by rw [List.length_take]; omega) hwl
              refine vc_skip ?_
              refine then_next ?_
              refine vc_seq ?_
              refine vc_block ?_
              refine vc_seq ?_
              refine vc_region ?_
              refine vl_det (det_indexAddr (size := 1) Tryz.underlying71 (by kernel_rfl) rfl rfl rfl (by omega) (by first | (exact Bor.own (by repeat (first | exact List.Mem.head _ | apply List.Mem.tail))) | (repeat (first | assumption | apply Bor.cons)))) rfl ?_
              refine vl_det (det_load_row (by kernel_rfl) rfl (by first | (exact Bor.own (by repeat (first | exact List.Mem.head _ | apply List.Mem.tail))) | (repeat (first | assumption | apply Bor.cons))) (by omega) hLo) rfl ?_
              refine vl_det (det_assign rfl) rfl ?_
              refine vl_end [(6, _), (7, _), (10, _), (12, _), (51, _), (52, _), (53, _)] ⟨rfl, rfl, rfl, rfl, rfl, rfl, rfl, trivial⟩ ?_
              refine then_next ?_
              refine vc_region ?_
              refine vl_det (det_move rfl) rfl ?_
              refine vl_det (det_conv Tryz.underlying79 Tryz.underlying39 rfl (w_u64 (by omega) (by omega))) rfl ?_
              refine vl_det (det_fieldAddr_ Tryz.underlying73 rfl (by kernel_rfl) rfl rfl) rfl ?_
              refine vl_det (det_load_blk (by kernel_rfl) rfl (by repeat (first | exact .hd | apply Sel.tl)) rfl) rfl ?_
              refine vl_call co33 rfl (put_d (loS p w (xs.take k)) (xs.getD k 0 % p) (by omega) w (by omega) (by rw [← hp]; exact hmod) (by omega)) rfl ?_
              rintro _ _ ⟨rfl, A61, c61, hLL⟩
              obtain rfl := hLL.symm
              refine vl_end [(6, _), (7, _), (10, _), (51, _), (52, _), (53, _)] ⟨rfl, rfl, rfl, rfl, rfl, rfl, trivial⟩ ?_
              refine in_normal ?_
              refine then_next ?_
              refine vc_region ?_
              refine vl_det (det_add rfl rfl (w_i64 (by omega) (by omega))) rfl ?_
              refine vl_det (det_move rfl) rfl ?_
              refine vl_end [(6, _), (7, _), (10, _), (51, _), (52, _), (53, _)] ⟨rfl, rfl, rfl, rfl, rfl, rfl, trivial⟩ ?_
              refine in_loop_ ⟨_, by omega, k + 1, A61, c61, by omega, rfl, ⟨(by first | rfl | exact int_to (by omega) | exact sl_to (by omega)), (by first | rfl | exact int_to (by omega) | exact sl_to (by omega)), (by first | rfl | exact int_to (by omega) | exact sl_to (by omega)), (by first | rfl | exact int_to (by omega) | exact sl_to (by omega)), (by first | rfl | exact int_to (by omega) | exact sl_to (by omega)), (by first | rfl | exact int_to (by omega) | exact sl_to (by omega)), trivial⟩, by rw [take_getD (show k < xs.length by omega) 0, loS_snoc]; exact .refl _⟩
            · skip
              obtain rfl : k = xs.length := by omega
              rw [List.take_length]
              refine vc_exit ?_
              refine then_exit ?_
              refine loop_exit ?_
              refine in_eq ?_
              refine then_next ?_
              refine vc_seq ?_
              refine vc_region ?_
              refine vl_det (det_assign rfl) rfl ?_
              refine vl_end [(6, _), (7, _), (10, _), (13, _)] ⟨rfl, rfl, rfl, rfl, trivial⟩ ?_
              refine then_next ?_
              refine vc_seq ?_
              refine vc_seq ?_
              refine vc_region ?_
              refine vl_det (det_fieldAddr_ Tryz.underlying73 rfl (by kernel_rfl) rfl rfl) rfl ?_
              refine vl_det (det_load_blk (by kernel_rfl) rfl (by repeat (first | exact .hd | apply Sel.tl)) rfl) rfl ?_
              refine vl_det (det_len_sl Tryz.underlying42 rfl) rfl ?_
              refine vl_det (det_move rfl) rfl ?_
              refine vl_end [(6, _), (10, _), (13, _), (64, _), (65, _), (66, _)] ⟨rfl, rfl, rfl, rfl, rfl, rfl, trivial⟩ ?_
              refine then_next ?_
              refine vc_block ?_
              refine vc_loopJ (fun zf zL zm => ∃ (k : Nat) (A9 : Option Addr) (c9 : Nat), (k ≤ xs.length) ∧ xs.length - k = zm ∧ Sub zf [(6, .slice A31 (encN xs.length).length c31), (10, .pointer (some ⟨g10, 0, none⟩)), (13, .int .i64 (lastP p 0 (xs.take k))), (64, .slice P1 xs.length p1), (65, .int .i64 xs.length), (66, .int .i64 k)] ∧ Wk zL (Wr g10 78 A9 c9 (loS p w xs ++ unS p 0 (xs.take k)) (Pt g7 73 w p P1 p1 P2 p2 xs (.own 5 1 A31 (encN xs.length).length c31 (bv (encN xs.length)) :: F)))) _ ⟨0, A8, c8, Nat.zero_le _, rfl, ⟨(by first | rfl | exact int_to (by omega) | exact sl_to (by omega)), (by first | rfl | exact int_to (by omega) | exact sl_to (by omega)), (by first | rfl | exact int_to (by omega) | exact sl_to (by omega)), (by first | rfl | exact int_to (by omega) | exact sl_to (by omega)), (by first | rfl | exact int_to (by omega) | exact sl_to (by omega)), (by first | rfl | exact int_to (by omega) | exact sl_to (by omega)), trivial⟩, by rw [List.take_zero]; simp only [unS, List.append_nil]; exact .refl _⟩ ?_
              rintro _ _ _ ⟨k, A9, c9, hk3, rfl, hs, hp⟩
              refine vc_weaken _ hs (vc_wk hp ?_)
              clear hs hp
              refine vc_seq ?_
              refine vc_region ?_
              refine vl_det (det_lss rfl rfl) rfl ?_
              refine vl_end [(6, _), (10, _), (13, _), (64, _), (65, _), (66, _), (67, _)] ⟨rfl, rfl, rfl, rfl, rfl, rfl, rfl, trivial⟩ ?_
              refine then_next ?_
              refine vc_seq ?_
              refine vc_decideU rfl (fun h67 => ?_) (fun h67 => ?_)
              · skip
                have hxk := (hR k (by omega)).1
                have hdv := Nat.div_le_self (xs.getD k 0) p
                have hlp := lastP_le (p := p) hR (k := k) (by omega)
                have hHi : (natv (xs.map (· / p)))[k * 1]? = some (.int .i64 (xs.getD k 0 / p : Nat)) := by simp [natv, List.getD, List.getElem?_eq_getElem (show k < xs.length by omega)]
                have hul := unS_length (p := p) hR k (by omega)
                have hlb := lastP_bd (p := p) hR k (by omega)
                have hll := loS_length p w xs
                have hlm : xs.length * w ≤ 20000 * 14 := Nat.mul_le_mul (by omega) hwl
                have hlt := lastP_take (p := p) (xs := xs) (k := k) (by omega)
                refine vc_skip ?_
                refine then_next ?_
                refine vc_seq ?_
                refine vc_block ?_
                refine vc_seq ?_
                refine vc_region ?_
                refine vl_det (det_indexAddr (size := 1) Tryz.underlying42 (by kernel_rfl) rfl rfl rfl (by omega) (by first | (exact Bor.own (by repeat (first | exact List.Mem.head _ | apply List.Mem.tail))) | (repeat (first | assumption | apply Bor.cons)))) rfl ?_
                refine vl_det (det_load_row (by kernel_rfl) rfl (by first | (exact Bor.own (by repeat (first | exact List.Mem.head _ | apply List.Mem.tail))) | (repeat (first | assumption | apply Bor.cons))) (by omega) hHi) rfl ?_
                refine vl_det (det_assign rfl) rfl ?_
                refine vl_end [(6, _), (10, _), (13, _), (15, _), (64, _), (65, _), (66, _)] ⟨rfl, rfl, rfl, rfl, rfl, rfl, rfl, trivial⟩ ?_
                refine then_next ?_
                refine vc_seq ?_
                refine vc_region ?_
                refine vl_det (det_move rfl) rfl ?_
                refine vl_det (det_move rfl) rfl ?_
                refine vl_det (det_sub rfl rfl (r := ((xs.getD k 0 / p - lastP p 0 (xs.take k) : Nat) : Int)) ((w_i64 (by omega) (by omega)).trans (by omega))) rfl ?_
                refine vl_call co34 rfl (unary_d (loS p w xs ++ unS p 0 (xs.take k)) (xs.getD k 0 / p - lastP p 0 (xs.take k)) (by omega) (by rw [List.length_append]; omega)) rfl ?_
                rintro _ _ ⟨rfl, A73, c73, hLL⟩
                obtain rfl := hLL.symm
                refine vl_end [(6, _), (10, _), (15, _), (64, _), (65, _), (66, _)] ⟨rfl, rfl, rfl, rfl, rfl, rfl, trivial⟩ ?_
                refine then_next ?_
                refine vc_region ?_
                refine vl_det (det_move rfl) rfl ?_
                refine vl_det (det_assign rfl) rfl ?_
                refine vl_end [(6, _), (10, _), (13, _), (64, _), (65, _), (66, _)] ⟨rfl, rfl, rfl, rfl, rfl, rfl, trivial⟩ ?_
                refine in_normal ?_
                refine then_next ?_
                refine vc_region ?_
                refine vl_det (det_add rfl rfl (w_i64 (by omega) (by omega))) rfl ?_
                refine vl_det (det_move rfl) rfl ?_
                refine vl_end [(6, _), (10, _), (13, _), (64, _), (65, _), (66, _)] ⟨rfl, rfl, rfl, rfl, rfl, rfl, trivial⟩ ?_
                refine in_loop_ ⟨_, by omega, k + 1, A73, c73, by omega, rfl, ⟨(by first | rfl | exact int_to (by omega) | exact sl_to (by omega)), (by first | rfl | exact int_to (by omega) | exact sl_to (by omega)), (by first | rfl | exact int_to (by omega) | exact sl_to (by omega)), (by first | rfl | exact int_to (by omega) | exact sl_to (by omega)), (by first | rfl | exact int_to (by omega) | exact sl_to (by omega)), (by first | rfl | exact int_to (by omega) | exact sl_to (by omega)), trivial⟩, by rw [take_getD (show k < xs.length by omega) 0, unS_snoc, ← List.append_assoc]; exact .refl _⟩
              · skip
                obtain rfl : k = xs.length := by omega
                rw [List.take_length]
                refine vc_exit ?_
                refine then_exit ?_
                refine loop_exit ?_
                refine in_eq ?_
                refine then_next ?_
                refine vc_seq ?_
                refine vc_region ?_
                refine vl_det (det_move rfl) rfl ?_
                refine vl_call co35 rfl (bytes_d _ (by omega)) rfl ?_
                rintro _ _ ⟨A77, c77, rfl, hLL⟩
                obtain rfl := hLL.symm
                refine vl_eff (eff_build_lit slT44 [_, _] rfl rfl (by first | exact bv_one _ | exact strs_one _ | exact ints_one _ _ | (simp; done) | (simp [Value.oneCell']; done) | assumption) (by omega) (by omega)) rfl ?_
                rintro _ _ ⟨A78, rfl, rfl⟩
                refine vl_call co14 rfl (all_d (l := efB b xs) (P := [(.slice A31 (encN xs.length).length c31, encN xs.length), (.slice A77 (packed (loS p w xs ++ unS p 0 xs)).length c77, packed (loS p w xs ++ unS p 0 xs))]) (by first | (exact Bor.own (by repeat (first | exact List.Mem.head _ | apply List.Mem.tail))) | (repeat (first | assumption | apply Bor.cons))) (by intro y hy; simp only [List.mem_cons, List.not_mem_nil, or_false] at hy; rcases hy with rfl | rfl <;> exact (by first | (exact Bor.own (by repeat (first | exact List.Mem.head _ | apply List.Mem.tail))) | (repeat (first | assumption | apply Bor.cons)))) rfl (by rw [heB1 (by omega)]; simp [Parts.all]) (by rw [heB1 (by omega), List.length_append]; omega) (by simp)) rfl ?_
                rintro _ _ ⟨A79, c79, rfl, hLL⟩
                obtain rfl := hLL.symm
                refine vl_det (det_assign rfl) rfl ?_
                refine vl_det (det_assign rfl) rfl ?_
                refine vl_end [(4, _), (5, _)] ⟨rfl, rfl, trivial⟩ ?_
                refine then_next ?_
                refine vc_ret ?_
                refine ret_wk (L' := .own 5 1 A79 (efB b xs).length c79 (bv (efB b xs)) :: F) (.cons (.skip (.skip (.skip (.skip (.skip (.skip (.skip (.skip (.refl _)))))))))) ?_
                refine ret2 rfl rfl rfl ?_
                exact ⟨A79, c79, rfl, rfl⟩
    · skip
      exfalso; omega
  · skip
    exfalso; omega
/-- both at once -/
theorem efwrite_d {bound : Int} {ids : List Int} (hb : Bor B w0 F 1 (.slice A ids.length c) ids.length (ints .i64 ids)) (hl : ids.length ≤ 9000000000000000000) :
    Does Tryz.prog B w0 13 [.int .i64 bound, .slice A ids.length c] F (fun r L => ∃ A' c', r = .tuple #[.slice A' (efW bound ids).1.length c', .int .i64 (efW bound ids).2] ∧ L = .own 5 1 A' (efW bound ids).1.length c' (bv (efW bound ids).1) :: F) := by
  by_cases hE : bound < 0 ∨ 20000 < bound ∨ ¬ Ris bound ids
  · rw [efW_bad hE]; exact efwrite_bad hb hl hE
  · have hR : Ris bound ids := Classical.byContradiction fun h => hE (.inr (.inr h))
    obtain ⟨xs, rfl⟩ := hR.nats
    obtain ⟨b, rfl⟩ := Int.eq_ofNat_of_zero_le (show 0 ≤ bound by omega)
    rw [efW_ok hE]
    rw [ints_nat, List.length_map] at hb
    rw [List.length_map]
    exact efwrite_ok hb (by omega) ((ris_iff b xs).1 hR)
end Go.Proofs.YtpamjobiohbibaaGreat
namespace Go.Proofs.YtpamjobiohbibaaGreat
set_option linter.unusedVariables false
set_option maxRecDepth 20000
/-- the bits of bytes -/
def unp (l : List UInt8) : List Bool := (List.range (8 * l.length)).map fun i => (l.getD (i / 8) 0).toNat.testBit (7 - i % 8)
theorem unp_length (l : List UInt8) : (unp l).length = 8 * l.length := by simp [unp]
theorem unp_bit (l : List UInt8) {i : Nat} (h : i < 8 * l.length) : bitn (unp l) i = (l.getD (i / 8) 0).toNat / 2 ^ (7 - i % 8) % 2 := by
  rw [bit_of, bitn, unp]
  congr 1
  simp [List.getD_eq_getElem?_getD, h]
theorem unp_part (l : List UInt8) {k : Nat} (h : k < l.length) : ∀ m, m ≤ 8 → part (unp l) (8 * k) m = (l.getD k 0).toNat / 2 ^ (8 - m)
  | 0, _ => by
    have := UInt8.toNat_lt (l.getD k 0)
    rw [part]
    exact (Nat.div_eq_of_lt (by omega)).symm
  | m + 1, hm => by
    rw [part, unp_part l h m (by omega), unp_bit l (by omega), show (8 * k + m) / 8 = k by omega, show 7 - (8 * k + m) % 8 = 7 - m by omega, show 8 - m = (7 - m) + 1 by omega, show 8 - (m + 1) = 7 - m by omega, Nat.pow_succ, ← Nat.div_div_eq_div_mul]
    omega
theorem unp_packed (l : List UInt8) : packed (unp l) = l := by
  apply List.ext_getElem
  · rw [packed_length, unp_length]; omega
  · intro k h1 h2
    have hk : k < l.length := h2
    have e : (packed (unp l)).getD k 0 = l.getD k 0 := by
      rw [packed, octets_get _ (by rw [unp_length]; omega), octet, unp_part l hk 8 (by omega)]
      simp
    rwa [List.getD_eq_getElem?_getD, List.getElem?_eq_getElem h1, List.getD_eq_getElem?_getD, List.getElem?_eq_getElem h2] at e
/-- the first bit 1 -/
def seek (q : List Bool) : Nat → Nat → Nat
  | i, 0 => i
  | i, f + 1 => if bitn q i = 1 then i else seek q (i + 1) f
def Z (q : List Bool) (p : Nat) : Nat := seek q p (q.length - p)
theorem z_hit {q : List Bool} {k : Nat} (h : bitn q k = 1) (hk : k < q.length) : Z q k = k := by
  rw [Z, show q.length - k = (q.length - (k + 1)) + 1 by omega, seek, if_pos h]
theorem z_step {q : List Bool} {k : Nat} (h : ¬ bitn q k = 1) (hk : k < q.length) : Z q k = Z q (k + 1) := by
  rw [Z, show q.length - k = (q.length - (k + 1)) + 1 by omega, seek, if_neg h]; rfl
theorem z_end {q : List Bool} {k : Nat} (hk : q.length ≤ k) : Z q k = k := by
  rw [Z, show q.length - k = 0 by omega]; rfl
theorem z_ge (q : List Bool) : ∀ f i, i ≤ seek q i f
  | 0, i => Nat.le_refl _
  | f + 1, i => by
    rw [seek]
    split
    · exact Nat.le_refl _
    · have := z_ge q f (i + 1); omega
theorem z_le (q : List Bool) : ∀ f i, seek q i f ≤ i + f
  | 0, i => Nat.le_refl _
  | f + 1, i => by
    rw [seek]
    split
    · omega
    · have := z_le q f (i + 1); omega
theorem zp_ge (q : List Bool) (p : Nat) : p ≤ Z q p := z_ge q _ p
theorem zp_le (q : List Bool) {p : Nat} (h : p ≤ q.length) : Z q p ≤ q.length := by have := z_le q (q.length - p) p; unfold Z; omega
/-- what a reader's calls answer -/
def skE (q : List Bool) (p : Nat) (n : Int) : Int := if n < 0 then 13 else if (q.length : Int) < p + n then 1 else 0
def skP (q : List Bool) (p : Nat) (n : Int) : Nat := if n < 0 then p else if (q.length : Int) < p + n then p else p + n.toNat
def gtE (q : List Bool) (p : Nat) (n : Int) : Int := if n < 0 ∨ 64 < n then 13 else if (q.length : Int) < p + n then 1 else 0
def gtV (q : List Bool) (p : Nat) (n : Int) : Nat := if n < 0 ∨ 64 < n then 0 else if (q.length : Int) < p + n then 0 else part q p n.toNat
def gtP (q : List Bool) (p : Nat) (n : Int) : Nat := if n < 0 ∨ 64 < n then p else if (q.length : Int) < p + n then p else p + n.toNat
def pkV (q : List Bool) (p : Nat) (n : Int) : Nat := if n < 0 ∨ 64 < n then 0 else part q p n.toNat
def pkN (q : List Bool) (p : Nat) (n : Int) : Int := if n < 0 ∨ 64 < n then 0 else min n (q.length - p)
def unV (q : List Bool) (p : Nat) : Int := if Z q p < q.length then Z q p - p else 0
def unR (q : List Bool) (p : Nat) : Int := if Z q p < q.length then 0 else 1
def unP (q : List Bool) (p : Nat) : Nat := if Z q p < q.length then Z q p + 1 else p
def paE (q : List Bool) (p : Nat) : Int := if (q.length : Int) - p < 8 ∧ Z q p = q.length then 0 else 2
end Go.Proofs.YtpamjobiohbibaaGreat
namespace Go.Proofs.YtpamjobiohbibaaGreat
open Go.RowKit
set_option linter.unusedVariables false
set_option maxRecDepth 20000
variable {B : Nat} {w0 : World} {F : List Ch} {A : Option Addr} {n c g : Nat} {bt : TypeId} {f : Ch → List Ch}
/-- a reader's memory -/
abbrev Rr (g : Nat) (A : Option Addr) (c : Nat) (q : List Bool) (p : Nat) (F : List Ch) : List Ch := .blk g 154 [.slice A (packed q).length c, .int .i64 q.length, .int .i64 p] :: .own 5 1 A (packed q).length c (bv (packed q)) :: F
theorem rr_at (a b : Value) {x y : Int} (h : x = y) : [a, b, Value.int .i64 x] = [a, b, Value.int .i64 y] := by rw [h]
theorem newr_d {l : List UInt8} (hb : Bor B w0 F 1 (.slice A l.length c) l.length (bv l)) (hl : l.length ≤ 1000000) :
    Does Tryz.prog B w0 81 [.slice A l.length c] F (fun r L => ∃ g A' c', r = .pointer (some ⟨g, 0, none⟩) ∧ L = Rr g A' c' (unp l) 0 F) := by
  have hul := unp_length l
  refine fn_walk Tryz.func81 11 rfl rfl rfl [(0, .slice A l.length c)] ⟨⟨rfl, rfl⟩, trivial⟩ ?_
  refine vc_seq ?_
  refine vc_region ?_
  refine vl_det (det_assign rfl) rfl ?_
  refine vl_end [(0, _)] ⟨rfl, trivial⟩ ?_
  refine then_next ?_
  refine vc_seq ?_
  refine vc_region ?_
  refine vl_det (det_move rfl) rfl ?_
  refine vl_call co60 rfl (clone_d l hb (by omega)) rfl ?_
  rintro _ _ ⟨A4, c4, rfl, hLL⟩
  obtain rfl := hLL.symm
  refine vl_det (det_move rfl) rfl ?_
  refine vl_det (det_len_sl Tryz.underlying26 rfl) rfl ?_
  refine vl_det (det_mul rfl rfl (w_i64 (by omega) (by omega))) rfl ?_
  refine vl_det (det_build [(0, _), (1, _)] [_, _] rfl rfl (by kernel_rfl)) rfl ?_
  refine vl_det (det_buildx [(0, _)] [.slice A4 l.length c4, .int .i64 (8 * (l.length : Int)), .int .i64 0] rfl (by kernel_rfl)) rfl ?_
  refine vl_eff (eff_box rfl rfl) rfl ?_
  rintro _ _ ⟨g10, rfl, rfl⟩
  refine vl_det (det_assign rfl) rfl ?_
  refine vl_end [(2, _)] ⟨rfl, trivial⟩ ?_
  refine then_next ?_
  refine vc_ret ?_
  refine ret_wk (L' := Rr g10 A4 c4 (unp l) 0 F) (wk_blk (by rw [unp_packed, hul]; simp) (wk_own (by rw [unp_packed]) (by rw [unp_packed]) (.refl _))) ?_
  refine ret1 rfl rfl ?_
  exact ⟨g10, A4, c4, rfl, rfl⟩
theorem left_d (q : List Bool) (p : Nat) (hp : p ≤ q.length) (hq : q.length ≤ 8000000) : Does Tryz.prog B w0 84 [.pointer (some ⟨g, 0, none⟩)] (Rr g A c q p F) (fun r L => r = .int .i64 ((q.length : Int) - p) ∧ L = Rr g A c q p F) := by
  refine fn_walk Tryz.func84 15 rfl rfl rfl [(0, .pointer (some ⟨g, 0, none⟩))] ⟨⟨rfl, rfl⟩, trivial⟩ ?_
  refine vc_seq ?_
  refine vc_region ?_
  refine vl_det (det_assign rfl) rfl ?_
  refine vl_end [(0, _)] ⟨rfl, trivial⟩ ?_
  refine then_next ?_
  refine vc_seq ?_
  refine vc_seq ?_
  refine vc_region ?_
  refine vl_det (det_move rfl) rfl ?_
  refine vl_det (det_ptr_nil Tryz.underlying137 rfl rfl) rfl ?_
  refine vl_end [(0, _), (4, _)] ⟨rfl, rfl, trivial⟩ ?_
  refine then_next ?_
  refine vc_cond_f rfl ?_
  refine vc_skip ?_
  refine then_next ?_
  refine vc_seq ?_
  refine vq_region (by kernel_rfl) (by kernel_rfl) ?_
  refine vq_det (det_move rfl) rfl ?_
  refine vq_det (det_nilCheck rfl) rfl ?_
  refine vq_det (det_fieldAddr_ Tryz.underlying154 rfl (by kernel_rfl) rfl rfl) rfl ?_
  refine vq_det (det_fieldAddr_ Tryz.underlying76 rfl (by kernel_rfl) rfl rfl) rfl ?_
  refine vq_det (det_load_blk (by kernel_rfl) rfl (by repeat (first | exact .hd | apply Sel.tl)) rfl) rfl ?_
  refine vq_det (det_move rfl) rfl ?_
  refine vq_det (det_nilCheck rfl) rfl ?_
  refine vq_det (det_fieldAddr_ Tryz.underlying154 rfl (by kernel_rfl) rfl rfl) rfl ?_
  refine vq_det (det_load_blk (by kernel_rfl) rfl (by repeat (first | exact .hd | apply Sel.tl)) rfl) rfl ?_
  refine vq_det (det_sub rfl rfl (w_i64 (by omega) (by omega))) rfl ?_
  refine vq_det (det_assign rfl) rfl ?_
  refine vq_end [(2, _)] ⟨rfl, trivial⟩ ?_
  refine then_next ?_
  refine vc_ret ?_
  refine ret1 rfl rfl ?_
  exact ⟨rfl, rfl⟩
theorem get_d (q : List Bool) (p : Nat) (hp : p ≤ q.length) (hq : q.length ≤ 8000000) (n : Int) (h1 : -9223372036854775808 ≤ n) (h2 : n ≤ 9223372036854775807) :
    Does Tryz.prog B w0 85 [.pointer (some ⟨g, 0, none⟩), .int .i64 n] (Rr g A c q p F) (fun r L => r = .tuple #[.int .u64 (gtV q p n), .int .i64 (gtE q p n)] ∧ L = Rr g A c q (gtP q p n) F) := by
  refine fn_walk Tryz.func85 41 rfl rfl rfl [(0, .pointer (some ⟨g, 0, none⟩)), (1, .int .i64 n)] ⟨⟨rfl, rfl⟩, ⟨rfl, rfl⟩, trivial⟩ ?_
  refine vc_seq ?_
  refine vc_region ?_
  refine vl_det (det_assign rfl) rfl ?_
  refine vl_det (det_assign rfl) rfl ?_
  refine vl_end [(0, _), (1, _)] ⟨rfl, rfl, trivial⟩ ?_
  refine then_next ?_
  refine vc_seq ?_
  refine vc_block ?_
  refine vc_seq ?_
  refine vc_region ?_
  refine vl_cut 6 13 [(0, _), (1, _)] (n < 0 ∨ 64 < n) ⟨rfl, rfl, trivial⟩ ?_ ?_
  · skip
    refine vl_det (det_move rfl) rfl ?_
    refine vl_det (det_lss rfl rfl) rfl ?_
    refine vl_det (det_move rfl) rfl ?_
    refine vl_guardn rfl rfl rfl (fun h10 => ?_) (fun h10 => ?_)
    · skip
      refine vl_det (det_move rfl) rfl ?_
      refine vl_guard_t rfl rfl ?_
      refine vl_det (det_gtr rfl rfl) rfl ?_
      refine vl_det (det_pick_f rfl rfl) rfl ?_
      exact vl_cut_end ⟨rfl, rfl, trivial⟩ (by first | rfl | exact bool_to_t (by first | omega | (exact ⟨fun h => by omega, fun h => by omega⟩)) | exact bool_to_f (by first | omega | (exact ⟨fun h => by omega, fun h => by omega⟩)) | exact bool_to (by first | omega | (exact ⟨fun h => by omega, fun h => by omega⟩)) | exact bool_to_b (by first | omega | (exact ⟨fun h => by omega, fun h => by omega⟩)))
    · skip
      refine vl_guard_f rfl rfl rfl rfl ?_
      refine vl_det (det_pick_t rfl rfl) rfl ?_
      exact vl_cut_end ⟨rfl, rfl, trivial⟩ (by first | rfl | exact bool_to_t (by first | omega | (exact ⟨fun h => by omega, fun h => by omega⟩)) | exact bool_to_f (by first | omega | (exact ⟨fun h => by omega, fun h => by omega⟩)) | exact bool_to (by first | omega | (exact ⟨fun h => by omega, fun h => by omega⟩)) | exact bool_to_b (by first | omega | (exact ⟨fun h => by omega, fun h => by omega⟩)))
  · skip
    refine vl_det (det_assign rfl) rfl ?_
    refine vl_end [(0, _), (1, _), (7, _)] ⟨rfl, rfl, rfl, trivial⟩ ?_
    refine then_next ?_
    refine vc_decideU rfl (fun h7 => ?_) (fun h7 => ?_)
    · skip
      refine vc_seq ?_
      refine vc_region ?_
      refine vl_det (det_assign rfl) rfl ?_
      refine vl_det (det_assign rfl) rfl ?_
      refine vl_end [(4, _), (5, _)] ⟨rfl, rfl, trivial⟩ ?_
      refine then_next ?_
      refine vc_ret ?_
      refine in_ret ?_
      refine then_ret ?_
      refine ret2 rfl rfl rfl ?_
      simp only [gtV, gtE, gtP, if_pos h7]; exact ⟨by first | rfl | trivial, by first | rfl | trivial⟩
    · skip
      refine vc_seq ?_
      refine vc_region ?_
      refine vl_cut 8 22 [(0, _), (1, _)] ((q.length : Int) < p + n) ⟨rfl, rfl, trivial⟩ ?_ ?_
      · skip
        refine vl_det (det_move rfl) rfl ?_
        refine vl_det (det_ptr_nil Tryz.underlying137 rfl rfl) rfl ?_
        refine vl_det (det_move rfl) rfl ?_
        refine vl_guard_t rfl rfl ?_
        refine vl_det (det_move rfl) rfl ?_
        refine vl_guard_t rfl rfl ?_
        refine vl_det (det_move rfl) rfl ?_
        refine vl_guard_t rfl rfl ?_
        refine vl_call co84 rfl (left_d q p hp hq) rfl ?_
        rintro _ _ ⟨rfl, hLL⟩
        obtain rfl := hLL.symm
        refine vl_guard_t rfl rfl ?_
        refine vl_det (det_gtr rfl rfl) rfl ?_
        refine vl_det (det_pick_f rfl rfl) rfl ?_
        exact vl_cut_end ⟨rfl, rfl, trivial⟩ (by first | rfl | exact bool_to_t (by first | omega | (exact ⟨fun h => by omega, fun h => by omega⟩) | (simp at h17; done)) | exact bool_to_f (by first | omega | (exact ⟨fun h => by omega, fun h => by omega⟩) | (simp at h17; done)) | exact bool_to (by first | omega | (exact ⟨fun h => by omega, fun h => by omega⟩) | (simp at h17; done)) | exact bool_to_b (by first | omega | (exact ⟨fun h => by omega, fun h => by omega⟩) | (simp at h17; done)))
      · skip
        refine vl_det (det_assign rfl) rfl ?_
        refine vl_end [(0, _), (1, _), (14, _)] ⟨rfl, rfl, rfl, trivial⟩ ?_
        refine then_next ?_
        refine vc_decideU rfl (fun h14 => ?_) (fun h14 => ?_)
        · skip
          refine vc_seq ?_
          refine vc_region ?_
          refine vl_det (det_assign rfl) rfl ?_
          refine vl_det (det_assign rfl) rfl ?_
          refine vl_end [(4, _), (5, _)] ⟨rfl, rfl, trivial⟩ ?_
          refine then_next ?_
          refine vc_ret ?_
          refine in_ret ?_
          refine then_ret ?_
          refine ret2 rfl rfl rfl ?_
          simp only [gtV, gtE, gtP, if_neg h7, if_pos h14]; exact ⟨by first | rfl | trivial, by first | rfl | trivial⟩
        · skip
          obtain ⟨m, rfl⟩ := Int.eq_ofNat_of_zero_le (show 0 ≤ n by omega)
          refine vc_skip ?_
          refine in_normal ?_
          refine then_next ?_
          refine vc_seq ?_
          refine vq_region (by kernel_rfl) (by kernel_rfl) ?_
          refine vq_det (det_move rfl) rfl ?_
          refine vq_det (det_nilCheck rfl) rfl ?_
          refine vq_det (det_fieldAddr_ Tryz.underlying154 rfl (by kernel_rfl) rfl rfl) rfl ?_
          refine vq_det (det_move rfl) rfl ?_
          refine vq_det (det_nilCheck rfl) rfl ?_
          refine vq_det (det_fieldAddr_ Tryz.underlying154 rfl (by kernel_rfl) rfl rfl) rfl ?_
          refine vq_det (det_load_blk (by kernel_rfl) rfl (by repeat (first | exact .hd | apply Sel.tl)) rfl) rfl ?_
          refine vq_det (det_move rfl) rfl ?_
          refine vq_call co97 rfl (number_d q p m hp (by omega) (by omega) _ (packed q) rfl rfl (by repeat (first | exact .hd | apply Sel.tl)) (by first | (exact Bor.own (by repeat (first | exact List.Mem.head _ | apply List.Mem.tail))) | (repeat (first | assumption | apply Bor.cons)))) (by rintro _ _ ⟨rfl, rfl⟩; exact ⟨rfl, List.Sublist.refl _⟩) rfl ?_
          refine vq_det (det_assign rfl) rfl ?_
          refine vq_end [(0, _), (1, _), (6, _)] ⟨rfl, rfl, rfl, trivial⟩ ?_
          refine then_next ?_
          refine vc_seq ?_
          refine vc_region ?_
          refine vl_det (det_move rfl) rfl ?_
          refine vl_det (det_nilCheck rfl) rfl ?_
          refine vl_det (det_fieldAddr_ Tryz.underlying154 rfl (by kernel_rfl) rfl rfl) rfl ?_
          refine vl_det (det_load_blk (by kernel_rfl) rfl (by repeat (first | exact .hd | apply Sel.tl)) rfl) rfl ?_
          refine vl_det (det_move rfl) rfl ?_
          refine vl_det (det_add rfl rfl (w_i64 (by omega) (by omega))) rfl ?_
          refine vl_det (det_nilCheck rfl) rfl ?_
          refine vl_det (det_fieldAddr_ Tryz.underlying154 rfl (by kernel_rfl) rfl rfl) rfl ?_
          refine vl_eff0 (eff_store (by kernel_rfl) rfl rfl rfl (by repeat (first | exact .hd | apply Sel.tl)) (by simp)) ?_
          rintro _ _ rfl
          refine vl_end [(6, _)] ⟨rfl, trivial⟩ ?_
          refine then_next ?_
          refine vc_seq ?_
          refine vc_region ?_
          refine vl_det (det_move rfl) rfl ?_
          refine vl_det (det_assign rfl) rfl ?_
          refine vl_det (det_assign rfl) rfl ?_
          refine vl_end [(4, _), (5, _)] ⟨rfl, rfl, trivial⟩ ?_
          refine then_next ?_
          refine vc_ret ?_
          refine ret_wk (L' := Rr g A c q (gtP q p m) F) (wk_blk (by simp only [gtP, if_neg h7, if_neg h14]; refine rr_at _ _ (?_ : _ = _); omega) (.refl _)) ?_
          refine ret2 rfl rfl rfl ?_
          simp only [gtV, gtE, if_neg h7, if_neg h14]; exact ⟨by first | rfl | trivial, by first | rfl | trivial⟩
theorem unaryr_d (q : List Bool) (p : Nat) (hp : p ≤ q.length) (hq : q.length ≤ 8000000) :
    Does Tryz.prog B w0 83 [.pointer (some ⟨g, 0, none⟩)] (Rr g A c q p F) (fun r L => r = .tuple #[.int .i64 (unV q p), .int .i64 (unR q p)] ∧ L = Rr g A c q (unP q p) F) := by
  refine fn_walk Tryz.func83 39 rfl rfl rfl [(0, .pointer (some ⟨g, 0, none⟩))] ⟨⟨rfl, rfl⟩, trivial⟩ ?_
  refine vc_seq ?_
  refine vc_region ?_
  refine vl_det (det_assign rfl) rfl ?_
  refine vl_det (det_assign rfl) rfl ?_
  refine vl_end [(0, _)] ⟨rfl, trivial⟩ ?_
  refine then_next ?_
  refine vc_seq ?_
  refine vc_seq ?_
  refine vc_region ?_
  refine vl_det (det_move rfl) rfl ?_
  refine vl_det (det_ptr_nil Tryz.underlying137 rfl rfl) rfl ?_
  refine vl_end [(0, _), (7, _)] ⟨rfl, rfl, trivial⟩ ?_
  refine then_next ?_
  refine vc_cond_f rfl ?_
  refine vc_skip ?_
  refine then_next ?_
  refine vc_seq ?_
  refine vc_seq ?_
  refine vc_region ?_
  refine vl_det (det_move rfl) rfl ?_
  refine vl_det (det_nilCheck rfl) rfl ?_
  refine vl_det (det_fieldAddr_ Tryz.underlying154 rfl (by kernel_rfl) rfl rfl) rfl ?_
  refine vl_det (det_load_blk (by kernel_rfl) rfl (by repeat (first | exact .hd | apply Sel.tl)) rfl) rfl ?_
  refine vl_det (det_assign rfl) rfl ?_
  refine vl_end [(0, _), (4, _)] ⟨rfl, rfl, trivial⟩ ?_
  refine then_next ?_
  refine vc_block ?_
  refine vc_loopJ (fun zf zL zm => ∃ (k : Nat), (k ≤ q.length ∧ Z q p = Z q k) ∧ q.length - k = zm ∧ Sub zf [(0, .pointer (some ⟨g, 0, none⟩)), (4, .int .i64 k)] ∧ Wk zL (Rr g A c q p F)) _ ⟨p, ⟨hp, rfl⟩, rfl, ⟨(by first | rfl | exact int_to (by omega) | exact sl_to (by omega)), (by first | rfl | exact int_to (by omega) | exact sl_to (by omega)), trivial⟩, .refl _⟩ ?_
  rintro _ _ _ ⟨k, ⟨hk, hz⟩, rfl, hs, hp⟩
  refine vc_weaken _ hs (vc_wk hp ?_)
  clear hs hp
  refine vc_seq ?_
  refine vc_seq ?_
  refine vc_region ?_
  refine vl_det (det_move rfl) rfl ?_
  refine vl_det (det_move rfl) rfl ?_
  refine vl_det (det_nilCheck rfl) rfl ?_
  refine vl_det (det_fieldAddr_ Tryz.underlying154 rfl (by kernel_rfl) rfl rfl) rfl ?_
  refine vl_det (det_fieldAddr_ Tryz.underlying76 rfl (by kernel_rfl) rfl rfl) rfl ?_
  refine vl_det (det_load_blk (by kernel_rfl) rfl (by repeat (first | exact .hd | apply Sel.tl)) rfl) rfl ?_
  refine vl_det (det_lss rfl rfl) rfl ?_
  refine vl_end [(0, _), (4, _), (18, _)] ⟨rfl, rfl, rfl, trivial⟩ ?_
  refine then_next ?_
  refine vc_decideU rfl (fun h18 => ?_) (fun h18 => ?_)
  · skip
    refine vc_skip ?_
    refine then_next ?_
    refine vc_seq ?_
    refine vc_block ?_
    refine vc_seq ?_
    refine vc_region ?_
    refine vl_det (det_move rfl) rfl ?_
    refine vl_det (det_nilCheck rfl) rfl ?_
    refine vl_det (det_fieldAddr_ Tryz.underlying154 rfl (by kernel_rfl) rfl rfl) rfl ?_
    refine vl_det (det_move rfl) rfl ?_
    refine vl_call co96 rfl (bit_d q k (by omega) (by omega) _ (packed q) rfl rfl (by repeat (first | exact .hd | apply Sel.tl)) (by first | (exact Bor.own (by repeat (first | exact List.Mem.head _ | apply List.Mem.tail))) | (repeat (first | assumption | apply Bor.cons)))) rfl ?_
    rintro _ _ ⟨rfl, hLL⟩
    obtain rfl := hLL.symm
    refine vl_det (det_eql rfl rfl) rfl ?_
    refine vl_end [(0, _), (4, _), (26, _)] ⟨rfl, rfl, rfl, trivial⟩ ?_
    refine then_next ?_
    refine vc_decideU rfl (fun h26 => ?_) (fun h26 => ?_)
    · skip
      have hb1 : bitn q k = 1 := by omega
      have hzk := z_hit hb1 (by omega)
      have hzg := zp_ge q p
      have hzl : Z q p < q.length := by omega
      refine vc_seq ?_
      refine vc_region ?_
      refine vl_det (det_move rfl) rfl ?_
      refine vl_det (det_move rfl) rfl ?_
      refine vl_det (det_nilCheck rfl) rfl ?_
      refine vl_det (det_fieldAddr_ Tryz.underlying154 rfl (by kernel_rfl) rfl rfl) rfl ?_
      refine vl_det (det_load_blk (by kernel_rfl) rfl (by repeat (first | exact .hd | apply Sel.tl)) rfl) rfl ?_
      refine vl_det (det_sub rfl rfl (w_i64 (by omega) (by omega))) rfl ?_
      refine vl_det (det_assign rfl) rfl ?_
      refine vl_end [(0, _), (4, _), (5, _)] ⟨rfl, rfl, rfl, trivial⟩ ?_
      refine then_next ?_
      refine vc_seq ?_
      refine vc_region ?_
      refine vl_det (det_move rfl) rfl ?_
      refine vl_det (det_move rfl) rfl ?_
      refine vl_det (det_add rfl rfl (w_i64 (by omega) (by omega))) rfl ?_
      refine vl_det (det_nilCheck rfl) rfl ?_
      refine vl_det (det_fieldAddr_ Tryz.underlying154 rfl (by kernel_rfl) rfl rfl) rfl ?_
      refine vl_eff0 (eff_store (by kernel_rfl) rfl rfl rfl (by repeat (first | exact .hd | apply Sel.tl)) (by simp)) ?_
      rintro _ _ rfl
      refine vl_end [(5, _)] ⟨rfl, trivial⟩ ?_
      refine then_next ?_
      refine vc_seq ?_
      refine vc_region ?_
      refine vl_det (det_move rfl) rfl ?_
      refine vl_det (det_assign rfl) rfl ?_
      refine vl_det (det_assign rfl) rfl ?_
      refine vl_end [(2, _), (3, _)] ⟨rfl, rfl, trivial⟩ ?_
      refine then_next ?_
      refine vc_ret ?_
      refine in_ret ?_
      refine then_ret ?_
      refine loop_ret ?_
      refine in_ret ?_
      refine then_ret ?_
      refine ret_wk (L' := Rr g A c q (unP q p) F) (wk_blk (by simp only [unP, if_pos hzl]; refine rr_at _ _ (?_ : _ = _); omega) (.refl _)) ?_
      refine ret2 rfl rfl rfl ?_
      simp only [unV, unR, if_pos hzl]; exact ⟨congrArg (fun x => Value.tuple #[.int .i64 x, .int .i64 0]) (by omega), trivial⟩
    · skip
      refine vc_skip ?_
      refine in_normal ?_
      refine then_next ?_
      refine vc_region ?_
      refine vl_det (det_move rfl) rfl ?_
      refine vl_det (det_add rfl rfl (w_i64 (by omega) (by omega))) rfl ?_
      refine vl_det (det_assign rfl) rfl ?_
      refine vl_end [(0, _), (4, _)] ⟨rfl, rfl, trivial⟩ ?_
      refine in_loop_ ⟨_, by omega, k + 1, ⟨by omega, by rw [hz]; exact z_step (by omega) (by omega)⟩, rfl, ⟨(by first | rfl | exact int_to (by omega) | exact sl_to (by omega)), (by first | rfl | exact int_to (by omega) | exact sl_to (by omega)), trivial⟩, .refl _⟩
  · skip
    refine vc_exit ?_
    refine then_exit ?_
    refine loop_exit ?_
    refine in_eq ?_
    refine then_next ?_
    refine vc_seq ?_
    refine vc_region ?_
    refine vl_det (det_assign rfl) rfl ?_
    refine vl_det (det_assign rfl) rfl ?_
    refine vl_end [(2, _), (3, _)] ⟨rfl, rfl, trivial⟩ ?_
    refine then_next ?_
    refine vc_ret ?_
    refine ret2 rfl rfl rfl ?_
    have hzl : ¬ Z q p < q.length := by have := z_end (q := q) (k := k) (by omega); omega
    simp only [unV, unR, unP, if_neg hzl]; exact ⟨by first | rfl | trivial, by first | rfl | trivial⟩
end Go.Proofs.YtpamjobiohbibaaGreat

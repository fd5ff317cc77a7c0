/-
  The program's cursor, by frames. Conditions: the cursor's bytes are shorter than 2^40.
-/
import Derived.Test.YtbkaoncopohdbaaClone
import Derived.Test.YtbkaoncopohdbaaScan
namespace Go.Proofs.Ytbkaoncopohdbaa
open Go.RowKit
set_option linter.unusedVariables false
set_option maxRecDepth 20000
variable {B : Nat} {w0 : World} {F L0 : List Ch} {A : Option Addr} {n c g h3 h5 : Nat} {s : Cs} {C0 : Ch}
structure CsOk (s : Cs) : Prop where
  at_ : s.at_ ≤ s.b.length
  len : s.b.length ≤ 1099511627776
theorem CsOk.rest {s : Cs} (h : CsOk s) : s.rest.length = s.left ∧ s.left ≤ 1099511627776 := by
  have := h.at_; have := h.len
  exact ⟨by simp [Cs.rest, Cs.left], by unfold Cs.left; omega⟩
theorem CsOk.moved {s : Cs} (h : CsOk s) {k : Nat} {e : Int} (hk : e = 0 → k ≤ s.left) : CsOk (s.moved k e) := by
  unfold Cs.moved
  split
  · exact h
  · split
    · exact ⟨h.at_, h.len⟩
    · rename_i h1
      have := hk (by simpa using h1)
      have := h.at_
      unfold Cs.left at *
      exact ⟨by simp only; omega, h.len⟩
theorem CsOk.num' {s : Cs} (h : CsOk s) : CsOk s.num' := h.moved fun _ => by have := (scanS_facts s.rest).2.1; rw [h.rest.1] at this; exact this
theorem CsOk.int' {s : Cs} (h : CsOk s) {m : Int} (hm : m ≤ 9223372036854775807) : CsOk (s.int' m) := h.moved fun _ => by have := (limS_facts s.rest m hm).2.1; rw [h.rest.1] at this; exact this
theorem takeErr_le {l : List UInt8} {n : Int} (h : takeErr l n = 0) : 0 ≤ n ∧ n.toNat ≤ l.length := by
  unfold takeErr at h
  split at h
  · cases h
  · split at h
    · cases h
    · omega
theorem CsOk.take' {s : Cs} (h : CsOk s) {n : Int} : CsOk (s.take' n) := h.moved fun he => by have := (takeErr_le he).2; rw [h.rest.1] at this; exact this
theorem textS_le (l : List UInt8) (m : Int) (h : (textS l m).2.2 = 0) : (textS l m).2.1 ≤ l.length ∨ (textS l m).2.1 = 0 := by
  unfold textS at h ⊢
  split
  · exact .inr rfl
  · split
    · exact .inr rfl
    · rename_i h1 h2
      by_cases hz : (limS l m).1 = 0
      · left
        have hk : (limS l m).2.1 ≤ l.length := by
          unfold limS
          split
          · simp
          · split
            · simp
            · exact (scanS_facts l).2.1
        simp only
        omega
      · left; simp only; omega
theorem CsOk.text' {s : Cs} (h : CsOk s) {m : Int} : CsOk (s.text' m) := h.moved fun he => by
  have := textS_le s.rest m he
  rw [h.rest.1] at this
  omega
theorem CsOk.failed {s : Cs} (h : CsOk s) (e : Int) : CsOk (s.failed e) := by
  unfold Cs.failed; split
  · exact ⟨h.at_, h.len⟩
  · exact h
theorem CsOk.byte' {s : Cs} (h : CsOk s) : CsOk s.byte' := h.take'
theorem Cs.moved_b (s : Cs) (k : Nat) (e : Int) : (s.moved k e).b = s.b := by unfold Cs.moved; split <;> first | rfl | (split <;> rfl)
/-- a cursor's block -/
abbrev Cv (g : Nat) (A : Option Addr) (c : Nat) (s : Cs) : Ch := .blk g 83 [.slice A s.b.length c, .int .i64 s.at_, .int .i64 s.e]
theorem cv_eq {T : Nat} {s s' : Cs} {a e : Int} {L : List Ch} {m : Nat} (hb : s'.b = s.b) (ha : a = s'.at_) (he : e = s'.e) {M : List Ch} (k : Wk L M) : Wk (.blk g T [.slice A s.b.length c, .int .i64 a, .int .i64 e] :: L) (.blk g T [.slice A s'.b.length c, .int .i64 s'.at_, .int .i64 s'.e] :: M) := by
  rw [hb, ← ha, ← he]; exact k.cons
theorem crest_d (ho : CsOk s) (hb : Bor B w0 F 1 (.slice A s.b.length c) s.b.length (bv s.b)) :
    Does Try.prog B w0 58 [.pointer (some ⟨g, 0, none⟩)] (Cv g A c s :: F) (fun r L => ∃ A' c', r = .slice A' s.left c' ∧ Bor B w0 F 1 (.slice A' s.left c') s.left (bv s.rest) ∧ L = Cv g A c s :: F) := by
  have hat := ho.at_
  have hcut := hb.cut hat
  have e : (bv s.b).drop (s.at_ * 1) = bv s.rest := by rw [Nat.mul_one, bv_drop]; rfl
  rw [e] at hcut
  refine fn_walk Try.func58 12 rfl rfl rfl [(0, .pointer (some ⟨g, 0, none⟩))] ⟨⟨rfl, rfl⟩, trivial⟩ ?_
  refine vc_seq ?_
  refine vc_region ?_
  refine vl_det (det_assign rfl) rfl ?_
  refine vl_end [(0, _)] ⟨rfl, trivial⟩ ?_
  refine then_next ?_
  refine vc_seq ?_
  refine vq_region (by kernel_rfl) (by kernel_rfl) ?_
  refine vq_det (det_move rfl) rfl ?_
  refine vq_det (det_nilCheck rfl) rfl ?_
  refine vq_det (det_fieldAddr_ Try.underlying81 rfl (by kernel_rfl) rfl rfl) rfl ?_
  refine vq_det (det_load_blk (by kernel_rfl) rfl (by repeat (first | exact .hd | apply Sel.tl)) rfl) rfl ?_
  refine vq_det (det_move rfl) rfl ?_
  refine vq_det (det_nilCheck rfl) rfl ?_
  refine vq_det (det_fieldAddr_ Try.underlying81 rfl (by kernel_rfl) rfl rfl) rfl ?_
  refine vq_det (det_load_blk (by kernel_rfl) rfl (by repeat (first | exact .hd | apply Sel.tl)) rfl) rfl ?_
  refine vq_det (det_slice_lo (i := s.at_) (size := 1) Try.underlying25 (by kernel_rfl) rfl rfl rfl (by omega)) rfl ?_
  refine vq_det (det_assign rfl) rfl ?_
  refine vq_end [(2, _)] ⟨rfl, trivial⟩ ?_
  refine then_next ?_
  refine vc_ret ?_
  refine ret1 rfl rfl ?_
  exact ⟨_, _, rfl, hcut, rfl⟩
theorem cleft_d (ho : CsOk s) (hb : Bor B w0 F 1 (.slice A s.b.length c) s.b.length (bv s.b)) :
    Does Try.prog B w0 62 [.pointer (some ⟨g, 0, none⟩)] (Cv g A c s :: F) (fun r L => r = .int .i64 s.left ∧ L = Cv g A c s :: F) := by
  refine fn_walk Try.func62 10 rfl rfl rfl [(0, .pointer (some ⟨g, 0, none⟩))] ⟨⟨rfl, rfl⟩, trivial⟩ ?_
  refine vc_seq ?_
  refine vc_region ?_
  refine vl_det (det_assign rfl) rfl ?_
  refine vl_end [(0, _)] ⟨rfl, trivial⟩ ?_
  refine then_next ?_
  refine vc_seq ?_
  refine vc_seq ?_
  refine vc_region ?_
  refine vl_det (det_move rfl) rfl ?_
  refine vl_det (det_ptr_nil Try.underlying68 rfl rfl) rfl ?_
  refine vl_end [(0, _), (4, _)] ⟨rfl, rfl, trivial⟩ ?_
  refine then_next ?_
  refine vc_cond_f rfl ?_
  refine vc_skip ?_
  refine then_next ?_
  refine vc_seq ?_
  refine vc_region ?_
  refine vl_det (det_move rfl) rfl ?_
  refine vl_det (det_nilCheck rfl) rfl ?_
  refine vl_det (det_fieldAddr_ Try.underlying83 rfl (by kernel_rfl) rfl rfl) rfl ?_
  refine vl_call co58 rfl (crest_d ho hb) rfl ?_
  rintro _ _ ⟨Ar, cr, rfl, hbr, hLL⟩
  obtain rfl := hLL.symm
  refine vl_det (det_len_sl Try.underlying25 rfl) rfl ?_
  refine vl_det (det_assign rfl) rfl ?_
  refine vl_end [(2, _)] ⟨rfl, trivial⟩ ?_
  refine then_next ?_
  refine vc_ret ?_
  refine ret1 rfl rfl ?_
  exact ⟨rfl, rfl⟩
theorem cerr_d : Does Try.prog B w0 38 [.pointer (some ⟨g, 0, none⟩)] (Cv g A c s :: F) (fun r L => r = .int .i64 s.e ∧ L = Cv g A c s :: F) := by
  refine fn_walk Try.func38 9 rfl rfl rfl [(0, .pointer (some ⟨g, 0, none⟩))] ⟨⟨rfl, rfl⟩, trivial⟩ ?_
  refine vc_seq ?_
  refine vc_region ?_
  refine vl_det (det_assign rfl) rfl ?_
  refine vl_end [(0, _)] ⟨rfl, trivial⟩ ?_
  refine then_next ?_
  refine vc_seq ?_
  refine vc_seq ?_
  refine vc_region ?_
  refine vl_det (det_move rfl) rfl ?_
  refine vl_det (det_ptr_nil Try.underlying68 rfl rfl) rfl ?_
  refine vl_end [(0, _), (4, _)] ⟨rfl, rfl, trivial⟩ ?_
  refine then_next ?_
  refine vc_cond_f rfl ?_
  refine vc_skip ?_
  refine then_next ?_
  refine vc_seq ?_
  refine vc_region ?_
  refine vl_det (det_move rfl) rfl ?_
  refine vl_det (det_nilCheck rfl) rfl ?_
  refine vl_det (det_fieldAddr_ Try.underlying83 rfl (by kernel_rfl) rfl rfl) rfl ?_
  refine vl_det (det_load_blk (by kernel_rfl) rfl (by repeat (first | exact .hd | apply Sel.tl)) rfl) rfl ?_
  refine vl_det (det_assign rfl) rfl ?_
  refine vl_end [(2, _)] ⟨rfl, trivial⟩ ?_
  refine then_next ?_
  refine vc_ret ?_
  refine ret1 rfl rfl ?_
  exact ⟨rfl, rfl⟩
theorem cread_bad (h : s.e ≠ 0) {fv : Value} : Does Try.prog B w0 51 [.pointer (some ⟨g, 0, none⟩), fv] (Cv g A c s :: F) (fun r L => r = .bool false ∧ L = Cv g A c s :: F) := by
  refine fn_walk Try.func51 35 rfl rfl rfl [(0, .pointer (some ⟨g, 0, none⟩)), (1, fv)] ⟨⟨rfl, rfl⟩, ⟨rfl, rfl⟩, trivial⟩ ?_
  refine vc_seq ?_
  refine vc_region ?_
  refine vl_det (det_assign rfl) rfl ?_
  refine vl_end [(0, _), (1, _)] ⟨rfl, rfl, trivial⟩ ?_
  refine then_next ?_
  refine vc_seq ?_
  refine vc_seq ?_
  refine vc_region ?_
  refine vl_det (det_move rfl) rfl ?_
  refine vl_call co38 rfl (cerr_d) rfl ?_
  rintro _ _ ⟨rfl, hLL⟩
  obtain rfl := hLL.symm
  refine vl_det (det_neq rfl rfl) rfl ?_
  refine vl_end [(0, _), (1, _), (9, _)] ⟨rfl, rfl, rfl, trivial⟩ ?_
  refine then_next ?_
  refine vc_decideU rfl (fun h9 => ?_) (fun h9 => ?_)
  · skip
    refine vc_seq ?_
    refine vc_region ?_
    refine vl_det (det_assign rfl) rfl ?_
    refine vl_end [(4, _)] ⟨rfl, trivial⟩ ?_
    refine then_next ?_
    refine vc_ret ?_
    refine then_ret ?_
    refine ret1 rfl rfl ?_
    exact ⟨rfl, rfl⟩
  · skip
    exfalso; exact h9 h
/-- what a step over the bytes that lie ahead tells, and which pieces it leaves -/
theorem cread_ok (ho : CsOk s) (hb : Bor B w0 F 1 (.slice A s.b.length c) s.b.length (bv s.b)) (h0 : s.e = 0) {ff : FuncId} {caps : List Value} {R' : List Ch → Prop} {k : Nat} {er : Int} (hcal : Callable Try.prog ff) (hk : k ≤ 1099511627776)
    (hstep : ∀ A' c', Bor B w0 F 1 (.slice A' s.left c') s.left (bv s.rest) → Does Try.prog B w0 ff (.slice A' s.left c' :: caps) (Cv g A c s :: F) (fun r L => r = .tuple #[.int .i64 k, .int .i64 er] ∧ ∃ F', R' F' ∧ L = Cv g A c s :: F')) :
    Does Try.prog B w0 51 [.pointer (some ⟨g, 0, none⟩), .func (.func ff) #[] caps.toArray] (Cv g A c s :: F) (fun r L => r = .bool (decide (er = 0)) ∧ ∃ F', R' F' ∧ L = Cv g A c (s.moved k er) :: F') := by
  have hat := ho.at_
  have hlen := ho.len
  refine fn_walk Try.func51 35 rfl rfl rfl [(0, .pointer (some ⟨g, 0, none⟩)), (1, .func (.func ff) #[] caps.toArray)] ⟨⟨rfl, rfl⟩, ⟨rfl, rfl⟩, trivial⟩ ?_
  refine vc_seq ?_
  refine vc_region ?_
  refine vl_det (det_assign rfl) rfl ?_
  refine vl_end [(0, _), (1, _)] ⟨rfl, rfl, trivial⟩ ?_
  refine then_next ?_
  refine vc_seq ?_
  refine vc_seq ?_
  refine vc_region ?_
  refine vl_det (det_move rfl) rfl ?_
  refine vl_call co38 rfl (cerr_d) rfl ?_
  rintro _ _ ⟨rfl, hLL⟩
  obtain rfl := hLL.symm
  refine vl_det (det_neq rfl rfl) rfl ?_
  refine vl_end [(0, _), (1, _), (9, _)] ⟨rfl, rfl, rfl, trivial⟩ ?_
  refine then_next ?_
  refine vc_decideU rfl (fun h9 => ?_) (fun h9 => ?_)
  · skip
    exfalso; exact h9 h0
  · skip
    refine vc_skip ?_
    refine then_next ?_
    refine vc_seq ?_
    refine vc_region ?_
    refine vl_det (det_move rfl) rfl ?_
    refine vl_det (det_move rfl) rfl ?_
    refine vl_det (det_nilCheck rfl) rfl ?_
    refine vl_det (det_fieldAddr_ Try.underlying83 rfl (by kernel_rfl) rfl rfl) rfl ?_
    refine vl_call co58 rfl (crest_d ho hb) rfl ?_
    rintro _ _ ⟨Ar, cr, rfl, hbr, hLL⟩
    obtain rfl := hLL.symm
    refine vl_callv hcal rfl rfl (hstep _ _ hbr) rfl ?_
    rintro _ _ ⟨rfl, F1, hF1, hLL⟩
    obtain rfl := hLL.symm
    refine vl_det (det_move rfl) rfl ?_
    refine vl_det (det_extract rfl rfl) rfl ?_
    refine vl_det (det_extract rfl rfl) rfl ?_
    refine vl_det (det_assign rfl) rfl ?_
    refine vl_det (det_assign rfl) rfl ?_
    refine vl_end [(0, _), (5, _), (6, _)] ⟨rfl, rfl, rfl, trivial⟩ ?_
    refine then_next ?_
    refine vc_seq ?_
    refine vc_seq ?_
    refine vc_region ?_
    refine vl_det (det_move rfl) rfl ?_
    refine vl_det (det_neq rfl rfl) rfl ?_
    refine vl_end [(0, _), (5, _), (6, _), (20, _)] ⟨rfl, rfl, rfl, rfl, trivial⟩ ?_
    refine then_next ?_
    refine vc_decideU rfl (fun h20 => ?_) (fun h20 => ?_)
    · skip
      refine vc_seq ?_
      refine vc_region ?_
      refine vl_det (det_move rfl) rfl ?_
      refine vl_det (det_move rfl) rfl ?_
      refine vl_det (det_nilCheck rfl) rfl ?_
      refine vl_det (det_fieldAddr_ Try.underlying83 rfl (by kernel_rfl) rfl rfl) rfl ?_
      refine vl_eff0 (eff_store (by kernel_rfl) rfl rfl rfl (by repeat (first | exact .hd | apply Sel.tl)) (by simp)) ?_
      rintro _ _ rfl
      refine vl_end [] trivial ?_
      refine then_next ?_
      refine vc_seq ?_
      refine vc_region ?_
      refine vl_det (det_assign rfl) rfl ?_
      refine vl_end [(4, _)] ⟨rfl, trivial⟩ ?_
      refine then_next ?_
      refine vc_ret ?_
      refine then_ret ?_
      refine ret_wk (L' := Cv g A c (s.moved k er) :: F1) (cv_eq (m := 0) (Cs.moved_b s k er) (by simp [Cs.moved, h0, h20]) (by simp [Cs.moved, h0, h20]) (.refl _)) ?_
      refine ret1 rfl rfl ?_
      exact ⟨by rw [decide_eq_false h20], F1, hF1, rfl⟩
    · skip
      refine vc_skip ?_
      refine then_next ?_
      refine vc_seq ?_
      refine vc_region ?_
      refine vl_det (det_move rfl) rfl ?_
      refine vl_det (det_nilCheck rfl) rfl ?_
      refine vl_det (det_fieldAddr_ Try.underlying83 rfl (by kernel_rfl) rfl rfl) rfl ?_
      refine vl_det (det_fieldAddr_ Try.underlying81 rfl (by kernel_rfl) rfl rfl) rfl ?_
      refine vl_det (det_load_blk (by kernel_rfl) rfl (by repeat (first | exact .hd | apply Sel.tl)) rfl) rfl ?_
      refine vl_det (det_move rfl) rfl ?_
      refine vl_det (det_add rfl rfl (w_i64 (by omega) (by omega))) rfl ?_
      refine vl_det (det_nilCheck rfl) rfl ?_
      refine vl_det (det_fieldAddr_ Try.underlying83 rfl (by kernel_rfl) rfl rfl) rfl ?_
      refine vl_det (det_fieldAddr_ Try.underlying81 rfl (by kernel_rfl) rfl rfl) rfl ?_
      refine vl_eff0 (eff_store (by kernel_rfl) rfl rfl rfl (by repeat (first | exact .hd | apply Sel.tl)) (by simp)) ?_
      rintro _ _ rfl
      refine vl_end [] trivial ?_
      refine then_next ?_
      refine vc_seq ?_
      refine vc_region ?_
      refine vl_det (det_assign rfl) rfl ?_
      refine vl_end [(4, _)] ⟨rfl, trivial⟩ ?_
      refine then_next ?_
      refine vc_ret ?_
      have h20' : er = 0 := by omega
      refine ret_wk (L' := Cv g A c (s.moved k er) :: F1) (cv_eq (m := 0) (Cs.moved_b s k er) (by simp [Cs.moved, h0, h20']) (by simp [Cs.moved, h0, h20']) (.refl _)) ?_
      refine ret1 rfl rfl ?_
      exact ⟨by rw [decide_eq_true h20'], F1, hF1, rfl⟩
theorem cfail_d (er : Int) : Does Try.prog B w0 61 [.pointer (some ⟨g, 0, none⟩), .int .i64 er] (Cv g A c s :: F) (fun r L => r = .tuple #[] ∧ L = Cv g A c (s.failed er) :: F) := by
  refine fn_walk Try.func61 17 rfl rfl rfl [(0, .pointer (some ⟨g, 0, none⟩)), (1, .int .i64 er)] ⟨⟨rfl, rfl⟩, ⟨rfl, rfl⟩, trivial⟩ ?_
  refine vc_seq ?_
  refine vc_region ?_
  refine vl_det (det_move rfl) rfl ?_
  refine vl_det (det_ptr_nnil Try.underlying68 rfl rfl) rfl ?_
  refine vl_det (det_move rfl) rfl ?_
  refine vl_guard_t rfl rfl ?_
  refine vl_det (det_move rfl) rfl ?_
  refine vl_guard_t rfl rfl ?_
  refine vl_det (det_nilCheck rfl) rfl ?_
  refine vl_guard_t rfl rfl ?_
  refine vl_det (det_fieldAddr_ Try.underlying83 rfl (by kernel_rfl) rfl rfl) rfl ?_
  refine vl_guard_t rfl rfl ?_
  refine vl_det (det_load_blk (by kernel_rfl) rfl (by repeat (first | exact .hd | apply Sel.tl)) rfl) rfl ?_
  refine vl_guard_t rfl rfl ?_
  refine vl_det (det_eql rfl rfl) rfl ?_
  refine vl_det (det_pick_t rfl rfl) rfl ?_
  refine vl_end [(0, _), (1, _), (12, _)] ⟨rfl, rfl, rfl, trivial⟩ ?_
  refine then_next ?_
  refine vc_decideU rfl (fun h12 => ?_) (fun h12 => ?_)
  · skip
    refine vc_region ?_
    refine vl_det (det_move rfl) rfl ?_
    refine vl_det (det_move rfl) rfl ?_
    refine vl_det (det_nilCheck rfl) rfl ?_
    refine vl_det (det_fieldAddr_ Try.underlying83 rfl (by kernel_rfl) rfl rfl) rfl ?_
    refine vl_eff0 (eff_store (by kernel_rfl) rfl rfl rfl (by repeat (first | exact .hd | apply Sel.tl)) (by simp)) ?_
    rintro _ _ rfl
    refine vl_end [] trivial ?_
    refine ret_n ?_
    refine ret_wk (L' := Cv g A c (s.failed er) :: F) (cv_eq (m := 0) (by simp [Cs.failed, h12]) (by simp [Cs.failed, h12]) (by simp [Cs.failed, h12]) (.refl _)) ?_
    refine ret0 rfl ?_
    exact ⟨rfl, rfl⟩
  · skip
    refine vc_skip ?_
    refine ret_n ?_
    refine ret_wk (L' := Cv g A c (s.failed er) :: F) (cv_eq (m := 0) (by simp [Cs.failed, h12]) (by simp [Cs.failed, h12]) (by simp [Cs.failed, h12]) (.refl _)) ?_
    refine ret0 rfl ?_
    exact ⟨rfl, rfl⟩
theorem scan_d {l : List UInt8} (hb : Bor B w0 L0 1 (.slice A n c) n (bv l)) (hn : n ≤ 1099511627776) : Does Try.prog B w0 59 [.slice A n c] L0 (fun r L => r = .tuple #[.int .u64 (scanS l).1, .int .i64 (scanS l).2.1, .int .i64 (scanS l).2.2] ∧ L = L0) :=
  Does.of_same fun w hw => scan_c w (hb w hw) hn
theorem scanFrom_err : ∀ (l : List UInt8) (i acc : Nat), (scanFrom i acc l).2.2 ≠ 0 → (scanFrom i acc l).1 = 0 ∧ (scanFrom i acc l).2.1 = 0 := by
  intro l
  induction l with
  | nil => intro i acc _; exact ⟨rfl, rfl⟩
  | cons c r ih =>
    intro i acc h
    unfold scanFrom at h ⊢
    split
    · exact ⟨rfl, rfl⟩
    · rename_i h1
      rw [if_neg h1] at h
      split
      · rename_i h2
        rw [if_pos h2] at h
        exact absurd rfl h
      · rename_i h2
        rw [if_neg h2] at h
        exact ih _ _ h
theorem scanS_err {l : List UInt8} (h : (scanS l).2.2 ≠ 0) : (scanS l).1 = 0 ∧ (scanS l).2.1 = 0 := scanFrom_err l 0 0 h
theorem limS_err {l : List UInt8} {m : Int} (h : (limS l m).2.2 ≠ 0) : (limS l m).1 = 0 ∧ (limS l m).2.1 = 0 := by
  unfold limS at h ⊢
  split
  · exact ⟨rfl, rfl⟩
  · split
    · exact ⟨rfl, rfl⟩
    · rename_i h1 h2
      rw [if_neg h1, if_neg h2] at h
      exact absurd rfl h
end Go.Proofs.Ytbkaoncopohdbaa

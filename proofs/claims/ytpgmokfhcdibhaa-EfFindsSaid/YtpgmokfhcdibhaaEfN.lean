/-
  ef.Read, and a row's Len, At, Next, All, by frames. Conditions: at most 10^5 bytes.
-/
import Derived.Test.YtpgmokfhcdibhaaEfR
namespace Go.Proofs.Ytpgmokfhcdibhaa
open Go.RowKit
set_option linter.unusedVariables false
set_option maxRecDepth 20000
variable {B : Nat} {w0 : World} {F : List Ch} {A A1 A2 : Option Addr} {n c c1 c2 g : Nat}
theorem Does.reperm {P : Program} {B : Nat} {w0 : World} {f : FuncId} {args : List Value} {L M : List Ch} {v : Value} (h : Does P B w0 f args M (fun r K => r = v ∧ K = M)) (hp : L.Perm M) : Does P B w0 f args L (fun r K => r = v ∧ K = L) := fun w hw =>
  (h w (hw.perm hp)).mono fun e w' ⟨r, K, he, ⟨hr, hK⟩, hs⟩ => by subst hK; exact ⟨r, L, he, ⟨hr, rfl⟩, hs.perm hp.symm⟩
abbrev Rl (g w p : Nat) (A1 : Option Addr) (c1 : Nat) (A2 : Option Addr) (c2 : Nat) (xs : List Nat) (F : List Ch) : List Ch := Pt g 68 w p A1 c1 A2 c2 xs F
theorem llen_d {w p : Nat} {xs : List Nat} : Does Try.prog B w0 15 [.pointer (some ⟨g, 0, none⟩)] (Rl g w p A1 c1 A2 c2 xs F) (fun r L => r = .int .i64 xs.length ∧ L = Rl g w p A1 c1 A2 c2 xs F) := by
  refine fn_walk Try.func15 11 rfl rfl rfl [(0, .pointer (some ⟨g, 0, none⟩))] ⟨⟨rfl, rfl⟩, trivial⟩ ?_
  refine vc_seq ?_
  refine vc_region ?_
  refine vl_det (det_assign rfl) rfl ?_
  refine vl_end [(0, _)] ⟨rfl, trivial⟩ ?_
  refine then_next ?_
  refine vc_seq ?_
  refine vc_seq ?_
  refine vc_region ?_
  refine vl_det (det_move rfl) rfl ?_
  refine vl_det (det_ptr_nil Try.underlying31 rfl rfl) rfl ?_
  refine vl_end [(0, _), (4, _)] ⟨rfl, rfl, trivial⟩ ?_
  refine then_next ?_
  refine vc_cond_f rfl ?_
  refine vc_skip ?_
  refine then_next ?_
  refine vc_seq ?_
  refine vc_region ?_
  refine vl_det (det_move rfl) rfl ?_
  refine vl_det (det_nilCheck rfl) rfl ?_
  refine vl_det (det_fieldAddr_ Try.underlying68 rfl (by kernel_rfl) rfl rfl) rfl ?_
  refine vl_det (det_fieldAddr_ Try.underlying51 rfl (by kernel_rfl) rfl rfl) rfl ?_
  refine vl_det (det_load_blk (by kernel_rfl) rfl (by repeat (first | exact .hd | apply Sel.tl)) rfl) rfl ?_
  refine vl_det (det_len_sl Try.underlying22 rfl) rfl ?_
  refine vl_det (det_assign rfl) rfl ?_
  refine vl_end [(2, _)] ⟨rfl, trivial⟩ ?_
  refine then_next ?_
  refine vc_ret ?_
  refine ret1 rfl rfl ?_
  exact ⟨rfl, rfl⟩
theorem llen_nil : Does Try.prog B w0 15 [.pointer none] F (fun r L => r = .int .i64 0 ∧ L = F) := by
  refine fn_walk Try.func15 11 rfl rfl rfl [(0, .pointer none)] ⟨⟨rfl, rfl⟩, trivial⟩ ?_
  refine vc_seq ?_
  refine vc_region ?_
  refine vl_det (det_assign rfl) rfl ?_
  refine vl_end [(0, _)] ⟨rfl, trivial⟩ ?_
  refine then_next ?_
  refine vc_seq ?_
  refine vc_seq ?_
  refine vc_region ?_
  refine vl_det (det_move rfl) rfl ?_
  refine vl_det (det_ptr_nil Try.underlying31 rfl rfl) rfl ?_
  refine vl_end [(0, _), (4, _)] ⟨rfl, rfl, trivial⟩ ?_
  refine then_next ?_
  refine vc_cond_t rfl ?_
  refine vc_seq ?_
  refine vc_region ?_
  refine vl_det (det_assign rfl) rfl ?_
  refine vl_end [(2, _)] ⟨rfl, trivial⟩ ?_
  refine then_next ?_
  refine vc_ret ?_
  refine then_ret ?_
  refine ret1 rfl rfl ?_
  exact ⟨rfl, rfl⟩
theorem lat_d {w p : Nat} (hp : p = 2 ^ w) (hw : w ≤ 14) {xs : List Nat} (hx : ∀ i, i < xs.length → xs.getD i 0 ≤ 1000000) (i : Int) :
    Does Try.prog B w0 13 [.pointer (some ⟨g, 0, none⟩), .int .i64 i] (Rl g w p A1 c1 A2 c2 xs F) (fun r L => r = .tuple #[.int .i64 (if 0 ≤ i ∧ i < xs.length then xs.getD i.toNat 0 else 0 : Nat), .bool (decide (0 ≤ i ∧ i < xs.length))] ∧ L = Rl g w p A1 c1 A2 c2 xs F) := by
  refine fn_walk Try.func13 19 rfl rfl rfl [(0, .pointer (some ⟨g, 0, none⟩)), (1, .int .i64 i)] ⟨⟨rfl, rfl⟩, ⟨rfl, rfl⟩, trivial⟩ ?_
  refine vc_seq ?_
  refine vc_region ?_
  refine vl_det (det_assign rfl) rfl ?_
  refine vl_det (det_assign rfl) rfl ?_
  refine vl_end [(0, _), (1, _)] ⟨rfl, rfl, trivial⟩ ?_
  refine then_next ?_
  refine vc_seq ?_
  refine vc_seq ?_
  refine vc_region ?_
  refine vl_cut 8 13 [(0, _), (1, _)] (¬ (0 ≤ i ∧ i < (xs.length : Int))) ⟨rfl, rfl, trivial⟩ ?_ ?_
  · skip
    refine vl_det (det_move rfl) rfl ?_
    refine vl_det (det_lss rfl rfl) rfl ?_
    refine vl_det (det_move rfl) rfl ?_
    refine vl_guardn rfl rfl rfl (fun h8 => ?_) (fun h8 => ?_)
    · skip
      refine vl_det (det_move rfl) rfl ?_
      refine vl_guard_t rfl rfl ?_
      refine vl_det (det_move rfl) rfl ?_
      refine vl_guard_t rfl rfl ?_
      refine vl_call co15 rfl (llen_d) rfl ?_
      rintro _ _ ⟨rfl, hLL⟩
      obtain rfl := hLL.symm
      refine vl_guard_t rfl rfl ?_
      refine vl_det (det_geq rfl rfl) rfl ?_
      refine vl_det (det_pick_f rfl rfl) rfl ?_
      exact vl_cut_end ⟨rfl, rfl, trivial⟩ (by first | rfl | exact bool_to_t (by first | omega | simp_all) | exact bool_to_f (by first | omega | simp_all) | exact bool_to (by first | omega | simp_all) | exact bool_to_b (by first | omega | simp_all))
    · skip
      refine vl_guard_f rfl rfl rfl rfl ?_
      refine vl_guard_f rfl rfl rfl rfl ?_
      refine vl_guard_f rfl rfl rfl rfl ?_
      refine vl_det (det_pick_t rfl rfl) rfl ?_
      exact vl_cut_end ⟨rfl, rfl, trivial⟩ (by first | rfl | exact bool_to_t (by first | omega | simp_all) | exact bool_to_f (by first | omega | simp_all) | exact bool_to (by first | omega | simp_all) | exact bool_to_b (by first | omega | simp_all))
  · skip
    refine vl_end [(0, _), (1, _), (13, _)] ⟨rfl, rfl, rfl, trivial⟩ ?_
    refine then_next ?_
    refine vc_decideU rfl (fun h13 => ?_) (fun h13 => ?_)
    · skip
      refine vc_seq ?_
      refine vc_region ?_
      refine vl_det (det_assign rfl) rfl ?_
      refine vl_det (det_assign rfl) rfl ?_
      refine vl_end [(4, _), (5, _)] ⟨rfl, rfl, trivial⟩ ?_
      refine then_next ?_
      refine vc_ret ?_
      refine then_ret ?_
      refine ret2 rfl rfl rfl ?_
      exact ⟨by rw [if_neg h13, decide_eq_false h13]; rfl, rfl⟩
    · skip
      have h13' := Classical.not_not.1 h13
      obtain ⟨m, rfl⟩ := Int.eq_ofNat_of_zero_le (show 0 ≤ i by omega)
      refine vc_skip ?_
      refine then_next ?_
      refine vc_seq ?_
      refine vc_region ?_
      refine vl_det (det_move rfl) rfl ?_
      refine vl_det (det_nilCheck rfl) rfl ?_
      refine vl_det (det_fieldAddr_ Try.underlying68 rfl (by kernel_rfl) rfl rfl) rfl ?_
      refine vl_det (det_move rfl) rfl ?_
      refine vl_call co34 rfl (num_d' 68 hp hw xs m (by omega) (hx m (by omega))) rfl ?_
      rintro _ _ ⟨rfl, hLL⟩
      obtain rfl := hLL.symm
      refine vl_det (det_assign rfl) rfl ?_
      refine vl_det (det_assign rfl) rfl ?_
      refine vl_end [(4, _), (5, _)] ⟨rfl, rfl, trivial⟩ ?_
      refine then_next ?_
      refine vc_ret ?_
      refine ret2 rfl rfl rfl ?_
      exact ⟨by rw [if_pos h13', decide_eq_true h13', Int.toNat_natCast], rfl⟩
theorem lat_nil (i : Int) : Does Try.prog B w0 13 [.pointer none, .int .i64 i] F (fun r L => r = .tuple #[.int .i64 0, .bool false] ∧ L = F) := by
  refine fn_walk Try.func13 19 rfl rfl rfl [(0, .pointer none), (1, .int .i64 i)] ⟨⟨rfl, rfl⟩, ⟨rfl, rfl⟩, trivial⟩ ?_
  refine vc_seq ?_
  refine vc_region ?_
  refine vl_det (det_assign rfl) rfl ?_
  refine vl_det (det_assign rfl) rfl ?_
  refine vl_end [(0, _), (1, _)] ⟨rfl, rfl, trivial⟩ ?_
  refine then_next ?_
  refine vc_seq ?_
  refine vc_seq ?_
  refine vc_region ?_
  refine vl_det (det_move rfl) rfl ?_
  refine vl_det (det_lss rfl rfl) rfl ?_
  refine vl_det (det_move rfl) rfl ?_
  refine vl_guardn rfl rfl rfl (fun h8 => ?_) (fun h8 => ?_)
  · skip
    refine vl_det (det_move rfl) rfl ?_
    refine vl_guard_t rfl rfl ?_
    refine vl_det (det_move rfl) rfl ?_
    refine vl_guard_t rfl rfl ?_
    refine vl_call co15 rfl (llen_nil) rfl ?_
    rintro _ _ ⟨rfl, hLL⟩
    obtain rfl := hLL.symm
    refine vl_guard_t rfl rfl ?_
    refine vl_det (det_geq rfl rfl) rfl ?_
    refine vl_det (det_pick_f rfl rfl) rfl ?_
    refine vl_end [(0, _), (1, _), (13, _)] ⟨rfl, rfl, rfl, trivial⟩ ?_
    refine then_next ?_
    refine vc_decideU rfl (fun h13 => ?_) (fun h13 => ?_)
    · skip
      refine vc_seq ?_
      refine vc_region ?_
      refine vl_det (det_assign rfl) rfl ?_
      refine vl_det (det_assign rfl) rfl ?_
      refine vl_end [(4, _), (5, _)] ⟨rfl, rfl, trivial⟩ ?_
      refine then_next ?_
      refine vc_ret ?_
      refine then_ret ?_
      refine ret2 rfl rfl rfl ?_
      exact ⟨rfl, rfl⟩
    · skip
      exfalso; omega
  · skip
    refine vl_guard_f rfl rfl rfl rfl ?_
    refine vl_guard_f rfl rfl rfl rfl ?_
    refine vl_guard_f rfl rfl rfl rfl ?_
    refine vl_det (det_pick_t rfl rfl) rfl ?_
    refine vl_end [(0, _), (1, _), (13, _)] ⟨rfl, rfl, rfl, trivial⟩ ?_
    refine then_next ?_
    refine vc_cond_t rfl ?_
    refine vc_seq ?_
    refine vc_region ?_
    refine vl_det (det_assign rfl) rfl ?_
    refine vl_det (det_assign rfl) rfl ?_
    refine vl_end [(4, _), (5, _)] ⟨rfl, rfl, trivial⟩ ?_
    refine then_next ?_
    refine vc_ret ?_
    refine then_ret ?_
    refine ret2 rfl rfl rfl ?_
    exact ⟨rfl, rfl⟩
theorem half_i (a : Nat) : ((a : Int)).fdiv (2 ^ min (1 : Int).toNat IntKind.u64.bits) = ((a / 2 : Nat) : Int) := by
  have e : min (1 : Int).toNat IntKind.u64.bits = 1 := by decide
  rw [e, Int.fdiv_eq_ediv_of_nonneg _ (by decide)]
  rfl
theorem search_d (m : Nat) (hm : m ≤ 1000000000) {ff : FuncId} (hc : Callable Try.prog ff) {caps : List Value} {P : Nat → Bool} (hcall : ∀ i, i < m → Does Try.prog B w0 ff (.int .i64 i :: caps) F (fun r L => r = .bool (P i) ∧ L = F)) (hmono : ∀ i j, i ≤ j → j < m → P i = true → P j = true) :
    Does Try.prog B w0 35 [.int .i64 m, .func (.func ff) #[] caps.toArray] F (fun r L => ∃ k : Nat, r = .int .i64 k ∧ L = F ∧ k ≤ m ∧ (∀ i, i < k → P i = false) ∧ (∀ i, k ≤ i → i < m → P i = true)) := by
  refine fn_walk Try.func35 26 rfl rfl rfl [(0, .int .i64 m), (1, .func (.func ff) #[] caps.toArray)] ⟨⟨rfl, rfl⟩, ⟨rfl, rfl⟩, trivial⟩ ?_
  refine vc_seq ?_
  refine vc_region ?_
  refine vl_det (det_assign rfl) rfl ?_
  refine vl_end [(0, _), (1, _)] ⟨rfl, rfl, trivial⟩ ?_
  refine then_next ?_
  refine vc_seq ?_
  refine vc_region ?_
  refine vl_det (det_move rfl) rfl ?_
  refine vl_det (det_assign rfl) rfl ?_
  refine vl_det (det_assign rfl) rfl ?_
  refine vl_end [(1, _), (5, _), (6, _)] ⟨rfl, rfl, rfl, trivial⟩ ?_
  refine then_next ?_
  refine vc_seq ?_
  refine vc_block ?_
  refine vc_loopJ (fun zf zL zm => ∃ (i j : Nat), (i ≤ j ∧ j ≤ m ∧ (∀ x, x < i → P x = false) ∧ (∀ x, j ≤ x → x < m → P x = true)) ∧ j - i = zm ∧ Sub zf [(1, .func (.func ff) #[] caps.toArray), (5, .int .i64 i), (6, .int .i64 j)] ∧ Wk zL (F)) _ ⟨0, m, ⟨Nat.zero_le _, Nat.le_refl _, fun x h => absurd h (by omega), fun x h1 h2 => absurd h1 (by omega)⟩, rfl, ⟨(by first | rfl | exact int_to (by omega) | exact sl_to (by omega)), (by first | rfl | exact int_to (by omega) | exact sl_to (by omega)), (by first | rfl | exact int_to (by omega) | exact sl_to (by omega)), trivial⟩, .refl _⟩ ?_
  rintro _ _ _ ⟨i, j, ⟨hij, hjm, hlo, hhi⟩, rfl, hs, hp⟩
  refine vc_weaken _ hs (vc_wk hp ?_)
  clear hs hp
  refine vc_seq ?_
  refine vc_seq ?_
  refine vc_region ?_
  refine vl_det (det_move rfl) rfl ?_
  refine vl_det (det_move rfl) rfl ?_
  refine vl_det (det_lss rfl rfl) rfl ?_
  refine vl_end [(1, _), (5, _), (6, _), (11, _)] ⟨rfl, rfl, rfl, rfl, trivial⟩ ?_
  refine then_next ?_
  refine vc_decideU rfl (fun h11 => ?_) (fun h11 => ?_)
  · skip
    obtain ⟨h, hh⟩ : ∃ h, h = (i + j) / 2 := ⟨_, rfl⟩
    have hcl := hcall h (by omega)
    refine vc_skip ?_
    refine then_next ?_
    refine vc_block ?_
    refine vc_seq ?_
    refine vc_region ?_
    refine vl_det (det_move rfl) rfl ?_
    refine vl_det (det_move rfl) rfl ?_
    refine vl_det (det_add rfl rfl (r := ((i + j : Nat) : Int)) ((w_i64 (by omega) (by omega)).trans (by omega))) rfl ?_
    refine vl_det (det_conv Try.underlying3 Try.underlying75 rfl (w_u64 (by omega) (by omega))) rfl ?_
    refine vl_det (det_shr rfl rfl (by omega) (half_i (i + j))) rfl ?_
    refine vl_det (det_conv Try.underlying75 Try.underlying3 rfl (r := (h : Int)) ((w_i64 (by omega) (by omega)).trans (by omega))) rfl ?_
    refine vl_det (det_assign rfl) rfl ?_
    refine vl_end [(1, _), (5, _), (6, _), (7, _)] ⟨rfl, rfl, rfl, rfl, trivial⟩ ?_
    refine then_next ?_
    refine vc_seq ?_
    refine vc_region ?_
    refine vl_det (det_move rfl) rfl ?_
    refine vl_det (det_move rfl) rfl ?_
    refine vl_callv hc rfl rfl (hcl) rfl ?_
    rintro _ _ ⟨rfl, hLL⟩
    obtain rfl := hLL.symm
    refine vl_det (det_not rfl) rfl ?_
    refine vl_end [(1, _), (5, _), (6, _), (7, _), (21, _)] ⟨rfl, rfl, rfl, rfl, rfl, trivial⟩ ?_
    refine then_next ?_
    refine vc_condU rfl (fun h21 => ?_) (fun h21 => ?_)
    · skip
      refine vc_region ?_
      refine vl_det (det_move rfl) rfl ?_
      refine vl_det (det_add rfl rfl (w_i64 (by omega) (by omega))) rfl ?_
      refine vl_det (det_assign rfl) rfl ?_
      refine vl_end [(1, _), (5, _), (6, _)] ⟨rfl, rfl, rfl, trivial⟩ ?_
      refine in_normal ?_
      refine in_loop_ ⟨_, by omega, h + 1, j, ⟨by omega, hjm, fun x hx => by
  cases hP : P x with
  | false => rfl
  | true => exact absurd (hmono x h (by omega) (by omega) hP) (by simpa using h21), hhi⟩, rfl, ⟨(by first | rfl | exact int_to (by omega) | exact sl_to (by omega)), (by first | rfl | exact int_to (by omega) | exact sl_to (by omega)), (by first | rfl | exact int_to (by omega) | exact sl_to (by omega)), trivial⟩, .refl _⟩
    · skip
      refine vc_region ?_
      refine vl_det (det_move rfl) rfl ?_
      refine vl_det (det_assign rfl) rfl ?_
      refine vl_end [(1, _), (5, _), (6, _)] ⟨rfl, rfl, rfl, trivial⟩ ?_
      refine in_normal ?_
      refine in_loop_ ⟨_, by omega, i, h, ⟨by omega, by omega, hlo, fun x h1 h2 => hmono h x h1 h2 (by simpa using h21)⟩, rfl, ⟨(by first | rfl | exact int_to (by omega) | exact sl_to (by omega)), (by first | rfl | exact int_to (by omega) | exact sl_to (by omega)), (by first | rfl | exact int_to (by omega) | exact sl_to (by omega)), trivial⟩, .refl _⟩
  · skip
    refine vc_exit ?_
    refine then_exit ?_
    refine loop_exit ?_
    refine in_eq ?_
    refine then_next ?_
    refine vc_seq ?_
    refine vc_region ?_
    refine vl_det (det_move rfl) rfl ?_
    refine vl_det (det_assign rfl) rfl ?_
    refine vl_end [(4, _)] ⟨rfl, trivial⟩ ?_
    refine then_next ?_
    refine vc_ret ?_
    refine ret1 rfl rfl ?_
    exact ⟨i, rfl, rfl, by omega, hlo, fun x h1 h2 => hhi x (by omega) h2⟩
theorem next1_d {w p g2 g3 : Nat} (hp : p = 2 ^ w) (hw : w ≤ 14) {xs : List Nat} (hx : ∀ i, i < xs.length → xs.getD i 0 ≤ 1000000) (x : Int) (i : Nat) (hi : i < xs.length) :
    Does Try.prog B w0 36 [.int .i64 i, .pointer (some ⟨g2, 0, none⟩), .pointer (some ⟨g3, 0, none⟩)] (.blk g3 3 [.int .i64 x] :: .blk g2 31 [.pointer (some ⟨g, 0, none⟩)] :: Rl g w p A1 c1 A2 c2 xs F) (fun r L => r = .bool (decide (x ≤ (xs.getD i 0 : Nat))) ∧ L = .blk g3 3 [.int .i64 x] :: .blk g2 31 [.pointer (some ⟨g, 0, none⟩)] :: Rl g w p A1 c1 A2 c2 xs F) := by
  refine fn_walk Try.func36 12 rfl rfl rfl [(0, .int .i64 i), (1, .pointer (some ⟨g2, 0, none⟩)), (2, .pointer (some ⟨g3, 0, none⟩))] ⟨⟨rfl, rfl⟩, ⟨rfl, rfl⟩, ⟨rfl, rfl⟩, trivial⟩ ?_
  refine vc_seq ?_
  refine vc_region ?_
  refine vl_det (det_assign rfl) rfl ?_
  refine vl_end [(0, _), (1, _), (2, _)] ⟨rfl, rfl, rfl, trivial⟩ ?_
  refine then_next ?_
  refine vc_seq ?_
  refine vq_region (by kernel_rfl) (by kernel_rfl) ?_
  refine vq_det (det_load_blk (by kernel_rfl) rfl (by repeat (first | exact .hd | apply Sel.tl)) rfl) rfl ?_
  refine vq_det (det_nilCheck rfl) rfl ?_
  refine vq_det (det_fieldAddr_ Try.underlying68 rfl (by kernel_rfl) rfl rfl) rfl ?_
  refine vq_det (det_move rfl) rfl ?_
  refine vq_call co34 rfl ((num_d' 68 hp hw xs i hi (hx i hi)).reperm ((pu2 (pu2 (pu2 (pu0 (pu0 (.refl _)))))))) (by rintro _ _ ⟨rfl, rfl⟩; exact ⟨rfl, List.Sublist.refl _⟩) rfl ?_
  refine vq_det (det_load_blk (by kernel_rfl) rfl (by repeat (first | exact .hd | apply Sel.tl)) rfl) rfl ?_
  refine vq_det (det_geq rfl rfl) rfl ?_
  refine vq_det (det_assign rfl) rfl ?_
  refine vq_end [(4, _)] ⟨rfl, trivial⟩ ?_
  refine then_next ?_
  refine vc_ret ?_
  refine ret1 rfl rfl ?_
  exact ⟨rfl, rfl⟩
/-- the place of the first number that isn't below x -/
def nxK (xs : List Nat) (x : Int) (k : Nat) : Prop := k ≤ xs.length ∧ (∀ i, i < k → ((xs.getD i 0 : Nat) : Int) < x) ∧ (∀ i, k ≤ i → i < xs.length → x ≤ ((xs.getD i 0 : Nat) : Int))
theorem RisN.mono {bound : Nat} {xs : List Nat} (h : RisN bound xs) : ∀ j i, i ≤ j → j < xs.length → xs.getD i 0 ≤ xs.getD j 0
  | 0, i, hij, _ => by rw [Nat.le_zero.1 hij]; exact Nat.le_refl _
  | j + 1, i, hij, hj => by
    by_cases e : i = j + 1
    · rw [e]; exact Nat.le_refl _
    · have h1 := RisN.mono h j i (by omega) (by omega)
      have h2 := (h (j + 1) hj).2 (by omega)
      rw [Nat.add_sub_cancel] at h2
      omega
theorem lnext_d {bound w p : Nat} (hp : p = 2 ^ w) (hw : w ≤ 14) {xs : List Nat} (hR : RisN bound xs) (hb : bound ≤ 20000) (x : Int) :
    Does Try.prog B w0 14 [.pointer (some ⟨g, 0, none⟩), .int .i64 x] (Rl g w p A1 c1 A2 c2 xs F) (fun r L => ∃ k, nxK xs x k ∧ r = .tuple #[.int .i64 (if k < xs.length then k else 0 : Nat), .int .i64 (if k < xs.length then xs.getD k 0 else 0 : Nat), .bool (decide (k < xs.length))] ∧ L = Rl g w p A1 c1 A2 c2 xs F) := by
  have hlen := hR.len
  have hx : ∀ i, i < xs.length → xs.getD i 0 ≤ 1000000 := fun i hi => by have := (hR i hi).1; omega
  refine fn_walk Try.func14 24 rfl rfl rfl [(0, .pointer (some ⟨g, 0, none⟩)), (1, .int .i64 x)] ⟨⟨rfl, rfl⟩, ⟨rfl, rfl⟩, trivial⟩ ?_
  refine vc_seq ?_
  refine vc_region ?_
  refine vl_eff (eff_box rfl rfl) rfl ?_
  rintro _ _ ⟨g2, rfl, rfl⟩
  refine vl_eff (eff_box rfl rfl) rfl ?_
  rintro _ _ ⟨g3, rfl, rfl⟩
  refine vl_det (det_assign rfl) rfl ?_
  refine vl_det (det_assign rfl) rfl ?_
  refine vl_det (det_assign rfl) rfl ?_
  refine vl_end [(2, _), (3, _)] ⟨rfl, rfl, trivial⟩ ?_
  refine then_next ?_
  refine vc_seq ?_
  refine vc_region ?_
  refine vl_det (det_load_blk (by kernel_rfl) rfl (by repeat (first | exact .hd | apply Sel.tl)) rfl) rfl ?_
  refine vl_call co15 rfl ((llen_d (w := w) (p := p) (xs := xs)).reperm ((pu2 (pu2 (pu2 (pu0 (pu0 (.refl _)))))))) rfl ?_
  rintro _ _ ⟨rfl, hLL⟩
  obtain rfl := hLL.symm
  refine vl_det (det_makeFunc rfl rfl) rfl ?_
  refine vl_call co35 rfl (search_d xs.length (by omega) (caps := [.pointer (some ⟨g2, 0, none⟩), .pointer (some ⟨g3, 0, none⟩)]) co36 (P := fun i => decide (x ≤ (xs.getD i 0 : Nat))) (fun i hi => next1_d hp hw hx x i hi) (fun i j hij hj h => decide_eq_true (Int.le_trans (of_decide_eq_true h) (Int.ofNat_le.2 (hR.mono j i hij hj))))) rfl ?_
  rintro _ _ ⟨k, rfl, hLL, hk1, hk2, hk3⟩
  obtain rfl := hLL.symm
  have hK : nxK xs x k := ⟨hk1, fun i hi => by have := of_decide_eq_false (hk2 i hi); omega, fun i h1 h2 => of_decide_eq_true (hk3 i h1 h2)⟩
  refine vl_det (det_assign rfl) rfl ?_
  refine vl_end [(2, _), (7, _)] ⟨rfl, rfl, trivial⟩ ?_
  refine then_next ?_
  refine vc_seq ?_
  refine vc_region ?_
  refine vl_det (det_load_blk (by kernel_rfl) rfl (by repeat (first | exact .hd | apply Sel.tl)) rfl) rfl ?_
  refine vl_det (det_move rfl) rfl ?_
  refine vl_call co13 rfl ((lat_d hp hw hx (k : Int)).reperm ((pu2 (pu2 (pu2 (pu0 (pu0 (.refl _)))))))) rfl ?_
  rintro _ _ ⟨rfl, hLL⟩
  obtain rfl := hLL.symm
  refine vl_det (det_move rfl) rfl ?_
  refine vl_det (det_extract rfl rfl) rfl ?_
  refine vl_det (det_extract rfl rfl) rfl ?_
  refine vl_det (det_assign rfl) rfl ?_
  refine vl_det (det_assign rfl) rfl ?_
  refine vl_end [(7, _), (8, _), (9, _)] ⟨rfl, rfl, rfl, trivial⟩ ?_
  refine then_next ?_
  refine vc_seq ?_
  refine vc_seq ?_
  refine vc_region ?_
  refine vl_det (det_move rfl) rfl ?_
  refine vl_det (det_notd rfl) rfl ?_
  refine vl_end [(7, _), (8, _), (21, _)] ⟨rfl, rfl, rfl, trivial⟩ ?_
  refine then_next ?_
  refine vc_decideU rfl (fun h21 => ?_) (fun h21 => ?_)
  · skip
    refine vc_seq ?_
    refine vc_region ?_
    refine vl_det (det_assign rfl) rfl ?_
    refine vl_det (det_assign rfl) rfl ?_
    refine vl_det (det_assign rfl) rfl ?_
    refine vl_end [(4, _), (5, _), (6, _)] ⟨rfl, rfl, rfl, trivial⟩ ?_
    refine then_next ?_
    refine vc_ret ?_
    refine then_ret ?_
    refine ret_wk (L' := Rl g w p A1 c1 A2 c2 xs F) (.skip (.skip (.refl _))) ?_
    refine ret3_ rfl rfl rfl rfl ?_
    exact ⟨k, hK, by rw [if_neg (by omega), if_neg (by omega), decide_eq_false (by omega)]; rfl, rfl⟩
  · skip
    refine vc_skip ?_
    refine then_next ?_
    refine vc_seq ?_
    refine vc_region ?_
    refine vl_det (det_move rfl) rfl ?_
    refine vl_det (det_move rfl) rfl ?_
    refine vl_det (det_assign rfl) rfl ?_
    refine vl_det (det_assign rfl) rfl ?_
    refine vl_det (det_assign rfl) rfl ?_
    refine vl_end [(4, _), (5, _), (6, _)] ⟨rfl, rfl, rfl, trivial⟩ ?_
    refine then_next ?_
    refine vc_ret ?_
    refine ret_wk (L' := Rl g w p A1 c1 A2 c2 xs F) (.skip (.skip (.refl _))) ?_
    refine ret3_ rfl rfl rfl rfl ?_
    exact ⟨k, hK, by rw [if_pos (by omega), if_pos (by omega), if_pos (by omega), decide_eq_true (by omega), Int.toNat_natCast], rfl⟩
theorem lnext_nil (x : Int) : Does Try.prog B w0 14 [.pointer none, .int .i64 x] F (fun r L => r = .tuple #[.int .i64 0, .int .i64 0, .bool false] ∧ L = F) := by
  refine fn_walk Try.func14 24 rfl rfl rfl [(0, .pointer none), (1, .int .i64 x)] ⟨⟨rfl, rfl⟩, ⟨rfl, rfl⟩, trivial⟩ ?_
  refine vc_seq ?_
  refine vc_region ?_
  refine vl_eff (eff_box rfl rfl) rfl ?_
  rintro _ _ ⟨g2, rfl, rfl⟩
  refine vl_eff (eff_box rfl rfl) rfl ?_
  rintro _ _ ⟨g3, rfl, rfl⟩
  refine vl_det (det_assign rfl) rfl ?_
  refine vl_det (det_assign rfl) rfl ?_
  refine vl_det (det_assign rfl) rfl ?_
  refine vl_end [(2, _), (3, _)] ⟨rfl, rfl, trivial⟩ ?_
  refine then_next ?_
  refine vc_seq ?_
  refine vc_region ?_
  refine vl_det (det_load_blk (by kernel_rfl) rfl (by repeat (first | exact .hd | apply Sel.tl)) rfl) rfl ?_
  refine vl_call co15 rfl (llen_nil) rfl ?_
  rintro _ _ ⟨rfl, hLL⟩
  obtain rfl := hLL.symm
  refine vl_det (det_makeFunc rfl rfl) rfl ?_
  refine vl_call co35 rfl (search_d 0 (by omega) (caps := [.pointer (some ⟨g2, 0, none⟩), .pointer (some ⟨g3, 0, none⟩)]) co36 (P := fun i => true) (fun i hi => absurd hi (by omega)) (fun i j hij hj h => rfl)) rfl ?_
  rintro _ _ ⟨k, rfl, hLL, hk1, hk2, hk3⟩
  obtain rfl := hLL.symm
  refine vl_det (det_assign rfl) rfl ?_
  refine vl_end [(2, _), (7, _)] ⟨rfl, rfl, trivial⟩ ?_
  refine then_next ?_
  refine vc_seq ?_
  refine vc_region ?_
  refine vl_det (det_load_blk (by kernel_rfl) rfl (by repeat (first | exact .hd | apply Sel.tl)) rfl) rfl ?_
  refine vl_det (det_move rfl) rfl ?_
  refine vl_call co13 rfl (lat_nil (k : Int)) rfl ?_
  rintro _ _ ⟨rfl, hLL⟩
  obtain rfl := hLL.symm
  refine vl_det (det_move rfl) rfl ?_
  refine vl_det (det_extract rfl rfl) rfl ?_
  refine vl_det (det_extract rfl rfl) rfl ?_
  refine vl_det (det_assign rfl) rfl ?_
  refine vl_det (det_assign rfl) rfl ?_
  refine vl_end [(7, _), (8, _), (9, _)] ⟨rfl, rfl, rfl, trivial⟩ ?_
  refine then_next ?_
  refine vc_seq ?_
  refine vc_seq ?_
  refine vc_region ?_
  refine vl_det (det_move rfl) rfl ?_
  refine vl_det (det_not_f rfl) rfl ?_
  refine vl_end [(7, _), (8, _), (21, _)] ⟨rfl, rfl, rfl, trivial⟩ ?_
  refine then_next ?_
  refine vc_cond_t rfl ?_
  refine vc_seq ?_
  refine vc_region ?_
  refine vl_det (det_assign rfl) rfl ?_
  refine vl_det (det_assign rfl) rfl ?_
  refine vl_det (det_assign rfl) rfl ?_
  refine vl_end [(4, _), (5, _), (6, _)] ⟨rfl, rfl, rfl, trivial⟩ ?_
  refine then_next ?_
  refine vc_ret ?_
  refine then_ret ?_
  refine ret_wk (L' := F) (.skip (.skip (.refl _))) ?_
  refine ret3_ rfl rfl rfl rfl ?_
  exact ⟨rfl, rfl⟩
theorem lall_d {w p : Nat} (hp : p = 2 ^ w) (hw : w ≤ 14) {xs : List Nat} (hx : ∀ i, i < xs.length → xs.getD i 0 ≤ 1000000) (hl : xs.length ≤ 1000000) :
    Does Try.prog B w0 16 [.pointer (some ⟨g, 0, none⟩)] (Rl g w p A1 c1 A2 c2 xs F) (fun r L => ∃ A' c', r = .slice A' xs.length c' ∧ L = Rl g w p A1 c1 A2 c2 xs (.own 3 1 A' xs.length c' (natv xs) :: F)) := by
  refine fn_walk Try.func16 20 rfl rfl rfl [(0, .pointer (some ⟨g, 0, none⟩))] ⟨⟨rfl, rfl⟩, trivial⟩ ?_
  refine vc_seq ?_
  refine vc_region ?_
  refine vl_det (det_assign rfl) rfl ?_
  refine vl_end [(0, _)] ⟨rfl, trivial⟩ ?_
  refine then_next ?_
  refine vc_seq ?_
  refine vc_nil_row 3 1 none ?_
  refine vc_region ?_
  refine vl_det (det_assign rfl) rfl ?_
  refine vl_end [(0, _), (3, _)] ⟨rfl, rfl, trivial⟩ ?_
  refine then_next ?_
  refine vc_seq ?_
  refine vc_seq ?_
  refine vc_region ?_
  refine vl_det (det_move rfl) rfl ?_
  refine vl_call co15 rfl ((llen_d (w := w) (p := p) (xs := xs)).reperm ((pu1 (pu1 (pu1 (pu0 (.refl _))))))) rfl ?_
  rintro _ _ ⟨rfl, hLL⟩
  obtain rfl := hLL.symm
  refine vl_det (det_move rfl) rfl ?_
  refine vl_end [(0, _), (3, _), (6, _), (7, _)] ⟨rfl, rfl, rfl, rfl, trivial⟩ ?_
  refine then_next ?_
  refine vc_block ?_
  refine vc_loopJ (fun zf zL zm => ∃ (k : Nat) (A5 : Option Addr) (c5 : Nat), (k ≤ xs.length) ∧ xs.length - k = zm ∧ Sub zf [(0, .pointer (some ⟨g, 0, none⟩)), (3, .slice A5 k c5), (6, .int .i64 xs.length), (7, .int .i64 k)] ∧ Wk zL (Rl g w p A1 c1 A2 c2 xs (.own 3 1 A5 k c5 (natv (xs.take k)) :: F))) _ ⟨0, none, 0, Nat.zero_le _, rfl, ⟨(by first | rfl | exact int_to (by omega) | exact sl_to (by omega)), (by first | rfl | exact int_to (by omega) | exact sl_to (by omega)), (by first | rfl | exact int_to (by omega) | exact sl_to (by omega)), (by first | rfl | exact int_to (by omega) | exact sl_to (by omega)), trivial⟩, (wu1 (wu1 (wu1 (wu0 (.refl _)))))⟩ ?_
  rintro _ _ _ ⟨k, A5, c5, hk, rfl, hs, hp⟩
  refine vc_weaken _ hs (vc_wk hp ?_)
  clear hs hp
  refine vc_seq ?_
  refine vc_region ?_
  refine vl_det (det_lss rfl rfl) rfl ?_
  refine vl_end [(0, _), (3, _), (6, _), (7, _), (8, _)] ⟨rfl, rfl, rfl, rfl, rfl, trivial⟩ ?_
  refine then_next ?_
  refine vc_seq ?_
  refine vc_decideU rfl (fun h8 => ?_) (fun h8 => ?_)
  · skip
    refine vc_skip ?_
    refine then_next ?_
    refine vc_seq ?_
    refine vc_block ?_
    refine vc_seq ?_
    refine vc_region ?_
    refine vl_det (det_move rfl) rfl ?_
    refine vl_det (det_assign rfl) rfl ?_
    refine vl_end [(0, _), (3, _), (4, _), (6, _), (7, _)] ⟨rfl, rfl, rfl, rfl, rfl, trivial⟩ ?_
    refine then_next ?_
    refine vc_region ?_
    refine vl_det (det_move rfl) rfl ?_
    refine vl_det (det_move rfl) rfl ?_
    refine vl_det (det_nilCheck rfl) rfl ?_
    refine vl_det (det_fieldAddr_ Try.underlying68 rfl (by kernel_rfl) rfl rfl) rfl ?_
    refine vl_det (det_move rfl) rfl ?_
    refine vl_call co34 rfl (num_d' 68 hp hw xs k (by omega) (hx k (by omega))) rfl ?_
    rintro _ _ ⟨rfl, hLL⟩
    obtain rfl := hLL.symm
    refine vl_push slT22 rfl rfl rfl rfl rfl (fun _ => rfl) (by repeat (first | exact .hd | apply Sel.tl)) (by omega) (by omega) ?_
    intro _ A17 c17
    refine vl_det (det_assign rfl) rfl ?_
    refine vl_end [(0, _), (3, _), (6, _), (7, _)] ⟨rfl, rfl, rfl, rfl, trivial⟩ ?_
    refine in_normal ?_
    refine then_next ?_
    refine vc_region ?_
    refine vl_det (det_add rfl rfl (w_i64 (by omega) (by omega))) rfl ?_
    refine vl_det (det_move rfl) rfl ?_
    refine vl_end [(0, _), (3, _), (6, _), (7, _)] ⟨rfl, rfl, rfl, rfl, trivial⟩ ?_
    refine in_loop_ ⟨_, by omega, k + 1, A17, c17, by omega, rfl, ⟨(by first | rfl | exact int_to (by omega) | exact sl_to (by omega)), (by first | rfl | exact int_to (by omega) | exact sl_to (by omega)), (by first | rfl | exact int_to (by omega) | exact sl_to (by omega)), (by first | rfl | exact int_to (by omega) | exact sl_to (by omega)), trivial⟩, .cons (.cons (.cons (wk_own rfl (by rw [take_getD (show k < xs.length by omega) 0]; simp [natv]) (.refl _))))⟩
  · skip
    refine vc_exit ?_
    refine then_exit ?_
    refine loop_exit ?_
    refine in_eq ?_
    refine then_next ?_
    refine vc_seq ?_
    refine vc_region ?_
    refine vl_det (det_move rfl) rfl ?_
    refine vl_det (det_assign rfl) rfl ?_
    refine vl_end [(2, _)] ⟨rfl, trivial⟩ ?_
    refine then_next ?_
    refine vc_ret ?_
    obtain rfl : k = xs.length := by omega
    rw [List.take_length]
    refine ret1 rfl rfl ?_
    exact ⟨A5, c5, rfl, rfl⟩
theorem lall_nil : Does Try.prog B w0 16 [.pointer none] F (fun r L => ∃ A' c', r = .slice A' 0 c' ∧ L = F) := by
  refine fn_walk Try.func16 20 rfl rfl rfl [(0, .pointer none)] ⟨⟨rfl, rfl⟩, trivial⟩ ?_
  refine vc_seq ?_
  refine vc_region ?_
  refine vl_det (det_assign rfl) rfl ?_
  refine vl_end [(0, _)] ⟨rfl, trivial⟩ ?_
  refine then_next ?_
  refine vc_seq ?_
  refine vc_region ?_
  refine vl_det (det_assign rfl) rfl ?_
  refine vl_end [(0, _), (3, _)] ⟨rfl, rfl, trivial⟩ ?_
  refine then_next ?_
  refine vc_seq ?_
  refine vc_seq ?_
  refine vc_region ?_
  refine vl_det (det_move rfl) rfl ?_
  refine vl_call co15 rfl (llen_nil) rfl ?_
  rintro _ _ ⟨rfl, hLL⟩
  obtain rfl := hLL.symm
  refine vl_det (det_move rfl) rfl ?_
  refine vl_end [(0, _), (3, _), (6, _), (7, _)] ⟨rfl, rfl, rfl, rfl, trivial⟩ ?_
  refine then_next ?_
  refine vc_block ?_
  refine vc_loopJ (fun zf zL zm => ∃ (u : Unit), 0 = zm ∧ Sub zf [(0, .pointer none), (3, .slice none 0 0), (6, .int .i64 0), (7, .int .i64 0)] ∧ Wk zL (F)) _ ⟨(), rfl, ⟨(by first | rfl | exact int_to (by omega) | exact sl_to (by omega)), (by first | rfl | exact int_to (by omega) | exact sl_to (by omega)), (by first | rfl | exact int_to (by omega) | exact sl_to (by omega)), (by first | rfl | exact int_to (by omega) | exact sl_to (by omega)), trivial⟩, .refl _⟩ ?_
  rintro _ _ _ ⟨u, rfl, hs, hp⟩
  refine vc_weaken _ hs (vc_wk hp ?_)
  clear hs hp
  refine vc_seq ?_
  refine vc_region ?_
  refine vl_det (det_lss rfl rfl) rfl ?_
  refine vl_end [(0, _), (3, _), (6, _), (7, _), (8, _)] ⟨rfl, rfl, rfl, rfl, rfl, trivial⟩ ?_
  refine then_next ?_
  refine vc_seq ?_
  refine vc_decideU rfl (fun h8 => ?_) (fun h8 => ?_)
  · skip
    exfalso; exact absurd h8 (by decide)
  · skip
    refine vc_exit ?_
    refine then_exit ?_
    refine loop_exit ?_
    refine in_eq ?_
    refine then_next ?_
    refine vc_seq ?_
    refine vc_region ?_
    refine vl_det (det_move rfl) rfl ?_
    refine vl_det (det_assign rfl) rfl ?_
    refine vl_end [(2, _)] ⟨rfl, trivial⟩ ?_
    refine then_next ?_
    refine vc_ret ?_
    refine ret1 rfl rfl ?_
    exact ⟨none, 0, rfl, rfl⟩
end Go.Proofs.Ytpgmokfhcdibhaa

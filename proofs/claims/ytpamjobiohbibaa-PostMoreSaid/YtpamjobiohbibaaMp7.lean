/-
  Texts of one proof, joined: part 7. No condition.
-/
import Derived.Test.YtpamjobiohbibaaMp6
namespace Go.Proofs.Ytpamjobiohbibaa
open Go.RowKit
set_option linter.unusedVariables false
set_option maxRecDepth 20000
variable {B : Nat} {w0 : World} {F : List Ch} {A A1 A2 : Option Addr} {n c c1 c2 g : Nat}
def ck (l : List Txt) (sz i : Nat) : List Txt := (l.drop (i * sz)).take sz
def headT (l : List Txt) (sz : Nat) (ks : List Nat) : List UInt8 := ks.flatMap fun i => encN (bucketT (ck l sz i)).length
def bodyT (l : List Txt) (sz : Nat) (ks : List Nat) : List UInt8 := ks.flatMap fun i => bucketT (ck l sz i)
def dictB (sz : Nat) (l : List Txt) : List UInt8 := (encN l.length ++ headT l sz (List.range (chN sz l.length))) ++ bodyT l sz (List.range (chN sz l.length))
def dictW (size : Int) (l : List Txt) : List UInt8 × Int := if size < 1 ∨ 64 < size ∨ ¬ RisT l then ([], 13) else (dictB size.toNat l, 0)
theorem dictW_bad {size : Int} {l : List Txt} (h : size < 1 ∨ 64 < size ∨ ¬ RisT l) : dictW size l = ([], 13) := if_pos h
theorem dictW_ok {sz : Nat} {l : List Txt} (h : ¬ ((sz : Int) < 1 ∨ 64 < (sz : Int) ∨ ¬ RisT l)) : dictW sz l = (dictB sz l, 0) := by unfold dictW; rw [if_neg h, Int.toNat_natCast]
theorem ck_len (l : List Txt) (sz i : Nat) : (ck l sz i).length = chE sz l.length i := by simp [ck, chE]
theorem RisT.le {l : List Txt} (h : RisT l) : ∀ s ∈ l, s.length ≤ 25 := fun s hs => by
  obtain ⟨i, hi, rfl⟩ := List.getElem_of_mem hs
  have := (h.1 i hi).2.1
  rwa [List.getD_eq_getElem?_getD, List.getElem?_eq_getElem hi] at this
theorem ck_mem {l : List Txt} {sz i : Nat} {s : Txt} (h : s ∈ ck l sz i) : s ∈ l := List.mem_of_mem_drop (List.mem_of_mem_take h)
theorem bucketT_len {l : List Txt} (hl : l.length ≤ 64) (h : ∀ s ∈ l, s.length ≤ 25) : (bucketT l).length ≤ 3000 := by
  cases l with
  | nil => simp [bucketT]
  | cons t r =>
    have h1 := tailT_len t r (fun s hs => h s (by simp [hs]))
    have h2 := encT_len (s := t) (by have := h t (by simp); omega)
    have h3 := h t (by simp)
    have : r.length * 45 ≤ 64 * 45 := Nat.mul_le_mul_right _ (by simp at hl; omega)
    rw [bucketT, List.length_append]
    omega
theorem bodyT_len {l : List Txt} {sz : Nat} (hsz : sz ≤ 64) (h : ∀ s ∈ l, s.length ≤ 25) : ∀ ks : List Nat, (bodyT l sz ks).length ≤ ks.length * 3000
  | [] => by simp [bodyT]
  | k :: ks => by
    have h1 := bodyT_len hsz h ks
    have h2 := bucketT_len (l := ck l sz k) (by rw [ck_len]; unfold chE; omega) (fun s hs => h s (ck_mem hs))
    simp only [bodyT, List.flatMap_cons, List.length_append, List.length_cons, Nat.succ_mul] at h1 ⊢
    omega
theorem headT_len {l : List Txt} {sz : Nat} (hsz : sz ≤ 64) (h : ∀ s ∈ l, s.length ≤ 25) : ∀ ks : List Nat, (headT l sz ks).length ≤ ks.length * 10
  | [] => by simp [headT]
  | k :: ks => by
    have h1 := headT_len hsz h ks
    have h2 := bucketT_len (l := ck l sz k) (by rw [ck_len]; unfold chE; omega) (fun s hs => h s (ck_mem hs))
    have h3 : (encN (bucketT (ck l sz k)).length).length ≤ 10 := encN_len10 (by omega)
    simp only [headT, List.flatMap_cons, List.length_append, List.length_cons, Nat.succ_mul] at h1 ⊢
    omega
theorem bodyT_snoc (l : List Txt) (sz : Nat) (ks : List Nat) (k : Nat) : bodyT l sz (ks ++ [k]) = bodyT l sz ks ++ bucketT (ck l sz k) := by simp [bodyT]
theorem headT_snoc (l : List Txt) (sz : Nat) (ks : List Nat) (k : Nat) : headT l sz (ks ++ [k]) = headT l sz ks ++ encN (bucketT (ck l sz k)).length := by simp [headT]
theorem obj_own {q : Ch} {e : TypeId} {size n c : Nat} {A : Option Addr} {xs : List Value} {L : List Ch} (h : q.isObj = true) : q ∈ Ch.own e size A n c xs :: L ↔ q ∈ L :=
  ⟨fun hm => (List.mem_cons.1 hm).resolve_left fun e => (by rw [e] at h; cases h), fun hm => List.mem_cons_of_mem _ hm⟩
theorem obj_blk {q : Ch} {g : Nat} {t : TypeId} {xs : List Value} {L : List Ch} (h : q.isObj = true) : q ∈ Ch.blk g t xs :: L ↔ q ∈ L :=
  ⟨fun hm => (List.mem_cons.1 hm).resolve_left fun e => (by rw [e] at h; cases h), fun hm => List.mem_cons_of_mem _ hm⟩
theorem bucket_dl {X : List Txt} {c : Nat} (hne : X ≠ []) (hb : Bor B w0 F 1 (.slice A X.length c) X.length (strs X)) (hl : X.length ≤ 64) (h25 : ∀ s ∈ X, s.length ≤ 25) :
    Does Try.prog B w0 64 [.slice A X.length c] F (fun v L => ∃ A' c', v = .slice A' (bucketT X).length c' ∧ L = .own 5 1 A' (bucketT X).length c' (bv (bucketT X)) :: F) := by
  cases X with
  | nil => exact absurd rfl hne
  | cons t r => exact bucket_d hb (by simp at hl; omega) h25
/-- a part reads -/
theorem bor_ck {l : List Txt} (hb : Bor B w0 F 1 (.slice A l.length c) l.length (strs l)) {sz i : Nat} (hi : i * sz < l.length) : Bor B w0 F 1 (.slice (A.map (·.add (i * sz))) (ck l sz i).length (ck l sz i).length) (ck l sz i).length (strs (ck l sz i)) := fun w hs => by
  obtain ⟨A', c', e, h1, h2, h3⟩ := hb w hs
  obtain ⟨rfl, _, rfl⟩ : A = A' ∧ True ∧ c = c' := by injection e with a b d; exact ⟨a, trivial, d⟩
  obtain ⟨ad, rfl, h4, h5⟩ := h3 (by omega)
  refine ⟨_, _, rfl, Nat.le_refl _, by simp, fun _ => ⟨_, rfl, by show (ad.add (i * sz)).block < _; unfold Addr.add; split <;> exact h4, fun j u hu => ?_⟩⟩
  have hu' : (strs l)[i * sz + j]? = some u := by
    unfold ck strs at hu
    unfold strs
    rw [List.getElem?_map] at hu ⊢
    rw [List.getElem?_take] at hu
    split at hu
    · rw [List.getElem?_drop] at hu; exact hu
    · cases hu
  have := h5 _ _ hu'
  show w.cell? ((ad.add (i * sz)).add j) = some u
  rw [add_of_add]; exact this
theorem dwrite_bad {size : Int} {l : List Txt} (hb : Bor B w0 F 1 (.slice A l.length c) l.length (strs l)) (hl : l.length ≤ 1000000000000000) (hE : size < 1 ∨ 64 < size ∨ ¬ RisT l) :
    Does Try.prog B w0 38 [.int .i64 size, .slice A l.length c] F (fun r L => ∃ A' c', r = .tuple #[.slice A' 0 c', .int .i64 13] ∧ L = .own 5 1 A' 0 c' [] :: F) := by
  refine fn_marks Try.func38 44 rfl rfl rfl [(0, .int .i64 size), (1, .slice A l.length c)] ⟨⟨rfl, rfl⟩, ⟨rfl, rfl⟩, trivial⟩ ?_
  refine vg_seq ?_
  refine vc_region ?_
  refine vl_det (det_assign rfl) rfl ?_
  refine vl_det (det_assign rfl) rfl ?_
  refine vl_end [(0, _), (1, _)] ⟨rfl, rfl, trivial⟩ ?_
  refine tg_next ?_
  refine vg_seq ?_
  refine vc_seq ?_
  refine vc_region ?_
  refine vl_cut 11 20 [(0, _), (1, _)] (size < 1 ∨ 64 < size ∨ ¬ RisT l) ⟨rfl, rfl, trivial⟩ ?_ ?_
  · skip
    refine vl_det (det_move rfl) rfl ?_
    refine vl_det (det_lss rfl rfl) rfl ?_
    refine vl_det (det_move rfl) rfl ?_
    refine vl_guardn rfl rfl rfl (fun h12 => ?_) (fun h12 => ?_)
    · skip
      refine vl_det (det_move rfl) rfl ?_
      refine vl_guard_t rfl rfl ?_
      refine vl_det (det_gtr rfl rfl) rfl ?_
      refine vl_det (det_pick_f rfl rfl) rfl ?_
      refine vl_det (det_move rfl) rfl ?_
      refine vl_guardn rfl rfl rfl (fun h16 => ?_) (fun h16 => ?_)
      · skip
        refine vl_det (det_move rfl) rfl ?_
        refine vl_guard_t rfl rfl ?_
        refine vl_call co61 rfl (drises_d hb hl) rfl ?_
        rintro _ _ ⟨rfl, hLL⟩
        obtain rfl := hLL.symm
        refine vl_guard_t rfl rfl ?_
        refine vl_det (det_notd rfl) rfl ?_
        refine vl_det (det_pick_f rfl rfl) rfl ?_
        exact vl_cut_end ⟨rfl, rfl, trivial⟩ (by first | rfl | exact bool_to_t (by first | exact .inl (by omega) | exact .inr (.inl (by omega)) | exact ⟨fun h => .inr (.inr h), fun h => by rcases h with h | h | h <;> first | omega | exact h⟩) | exact bool_to_f (by first | exact .inl (by omega) | exact .inr (.inl (by omega)) | exact ⟨fun h => .inr (.inr h), fun h => by rcases h with h | h | h <;> first | omega | exact h⟩) | exact bool_to (by first | exact .inl (by omega) | exact .inr (.inl (by omega)) | exact ⟨fun h => .inr (.inr h), fun h => by rcases h with h | h | h <;> first | omega | exact h⟩) | exact bool_to_b (by first | exact .inl (by omega) | exact .inr (.inl (by omega)) | exact ⟨fun h => .inr (.inr h), fun h => by rcases h with h | h | h <;> first | omega | exact h⟩))
      · skip
        refine vl_guard_f rfl rfl rfl rfl ?_
        refine vl_guard_f rfl rfl rfl rfl ?_
        refine vl_det (det_pick_t rfl rfl) rfl ?_
        exact vl_cut_end ⟨rfl, rfl, trivial⟩ (by first | rfl | exact bool_to_t (by first | exact .inl (by omega) | exact .inr (.inl (by omega)) | exact ⟨fun h => .inr (.inr h), fun h => by rcases h with h | h | h <;> first | omega | exact h⟩) | exact bool_to_f (by first | exact .inl (by omega) | exact .inr (.inl (by omega)) | exact ⟨fun h => .inr (.inr h), fun h => by rcases h with h | h | h <;> first | omega | exact h⟩) | exact bool_to (by first | exact .inl (by omega) | exact .inr (.inl (by omega)) | exact ⟨fun h => .inr (.inr h), fun h => by rcases h with h | h | h <;> first | omega | exact h⟩) | exact bool_to_b (by first | exact .inl (by omega) | exact .inr (.inl (by omega)) | exact ⟨fun h => .inr (.inr h), fun h => by rcases h with h | h | h <;> first | omega | exact h⟩))
    · skip
      refine vl_guard_f rfl rfl rfl rfl ?_
      refine vl_det (det_pick_t rfl rfl) rfl ?_
      refine vl_det (det_move rfl) rfl ?_
      refine vl_guard_f rfl rfl rfl rfl ?_
      refine vl_guard_f rfl rfl rfl rfl ?_
      refine vl_guard_f rfl rfl rfl rfl ?_
      refine vl_det (det_pick_t rfl rfl) rfl ?_
      exact vl_cut_end ⟨rfl, rfl, trivial⟩ (by first | rfl | exact bool_to_t (by first | exact .inl (by omega) | exact .inr (.inl (by omega)) | exact ⟨fun h => .inr (.inr h), fun h => by rcases h with h | h | h <;> first | omega | exact h⟩) | exact bool_to_f (by first | exact .inl (by omega) | exact .inr (.inl (by omega)) | exact ⟨fun h => .inr (.inr h), fun h => by rcases h with h | h | h <;> first | omega | exact h⟩) | exact bool_to (by first | exact .inl (by omega) | exact .inr (.inl (by omega)) | exact ⟨fun h => .inr (.inr h), fun h => by rcases h with h | h | h <;> first | omega | exact h⟩) | exact bool_to_b (by first | exact .inl (by omega) | exact .inr (.inl (by omega)) | exact ⟨fun h => .inr (.inr h), fun h => by rcases h with h | h | h <;> first | omega | exact h⟩))
  · skip
    refine vl_end [(0, _), (1, _), (20, _)] ⟨rfl, rfl, rfl, trivial⟩ ?_
    refine then_next ?_
    refine vc_decideU rfl (fun h20 => ?_) (fun h20 => ?_)
    · skip
      refine vc_seq ?_
      refine vc_region ?_
      refine vl_det (det_assign rfl) rfl ?_
      refine vl_det (det_assign rfl) rfl ?_
      refine vl_end [(4, _), (5, _)] ⟨rfl, rfl, trivial⟩ ?_
      refine then_next ?_
      refine vc_ret ?_
      refine tg_ret rfl ?_
      refine ret_nil_row 5 1 none ?_
      refine ret2 rfl rfl rfl ?_
      exact ⟨none, 0, rfl, rfl⟩
    · skip
      exfalso; exact h20 hE
theorem dwrite_ok {sz : Nat} {l : List Txt} (hb : Bor B w0 F 1 (.slice A l.length c) l.length (strs l)) (hlc : l.length ≤ c) (hs1 : 1 ≤ sz) (hs2 : sz ≤ 64) (hR : RisT l) :
    Does Try.prog B w0 38 [.int .i64 sz, .slice A l.length c] F (fun r L => ∃ A' c', r = .tuple #[.slice A' (dictB sz l).length c', .int .i64 0] ∧ L = .own 5 1 A' (dictB sz l).length c' (bv (dictB sz l)) :: F) := by
  have hlen := hR.2
  have h25 := hR.le
  have hNl : chN sz l.length ≤ 1048639 := by
    unfold chN
    exact Nat.le_trans (Nat.div_le_self _ _) (by omega)
  have hnl : (encN l.length).length ≤ 10 := encN_len10 (by omega)
  refine fn_marks Try.func38 44 rfl rfl rfl [(0, .int .i64 sz), (1, .slice A l.length c)] ⟨⟨rfl, rfl⟩, ⟨rfl, rfl⟩, trivial⟩ ?_
  refine vg_seq ?_
  refine vc_region ?_
  refine vl_det (det_assign rfl) rfl ?_
  refine vl_det (det_assign rfl) rfl ?_
  refine vl_end [(0, _), (1, _)] ⟨rfl, rfl, trivial⟩ ?_
  refine tg_next ?_
  refine vg_seq ?_
  refine vc_seq ?_
  refine vc_region ?_
  refine vl_cut 11 20 [(0, _), (1, _)] ((sz : Int) < 1 ∨ 64 < (sz : Int) ∨ ¬ RisT l) ⟨rfl, rfl, trivial⟩ ?_ ?_
  · skip
    refine vl_det (det_move rfl) rfl ?_
    refine vl_det (det_lss rfl rfl) rfl ?_
    refine vl_det (det_move rfl) rfl ?_
    refine vl_guardn rfl rfl rfl (fun h12 => ?_) (fun h12 => ?_)
    · skip
      refine vl_det (det_move rfl) rfl ?_
      refine vl_guard_t rfl rfl ?_
      refine vl_det (det_gtr rfl rfl) rfl ?_
      refine vl_det (det_pick_f rfl rfl) rfl ?_
      refine vl_det (det_move rfl) rfl ?_
      refine vl_guardn rfl rfl rfl (fun h16 => ?_) (fun h16 => ?_)
      · skip
        refine vl_det (det_move rfl) rfl ?_
        refine vl_guard_t rfl rfl ?_
        refine vl_call co61 rfl (drises_d hb (by omega)) rfl ?_
        rintro _ _ ⟨rfl, hLL⟩
        obtain rfl := hLL.symm
        refine vl_guard_t rfl rfl ?_
        refine vl_det (det_notd rfl) rfl ?_
        refine vl_det (det_pick_f rfl rfl) rfl ?_
        exact vl_cut_end ⟨rfl, rfl, trivial⟩ (by first | rfl | exact bool_to_t (by first | exact .inl (by omega) | exact .inr (.inl (by omega)) | exact ⟨fun h => .inr (.inr h), fun h => by rcases h with h | h | h <;> first | omega | exact h⟩) | exact bool_to_f (by first | exact .inl (by omega) | exact .inr (.inl (by omega)) | exact ⟨fun h => .inr (.inr h), fun h => by rcases h with h | h | h <;> first | omega | exact h⟩) | exact bool_to (by first | exact .inl (by omega) | exact .inr (.inl (by omega)) | exact ⟨fun h => .inr (.inr h), fun h => by rcases h with h | h | h <;> first | omega | exact h⟩) | exact bool_to_b (by first | exact .inl (by omega) | exact .inr (.inl (by omega)) | exact ⟨fun h => .inr (.inr h), fun h => by rcases h with h | h | h <;> first | omega | exact h⟩))
      · skip
        refine vl_guard_f rfl rfl rfl rfl ?_
        refine vl_guard_f rfl rfl rfl rfl ?_
        refine vl_det (det_pick_t rfl rfl) rfl ?_
        exact vl_cut_end ⟨rfl, rfl, trivial⟩ (by first | rfl | exact bool_to_t (by first | exact .inl (by omega) | exact .inr (.inl (by omega)) | exact ⟨fun h => .inr (.inr h), fun h => by rcases h with h | h | h <;> first | omega | exact h⟩) | exact bool_to_f (by first | exact .inl (by omega) | exact .inr (.inl (by omega)) | exact ⟨fun h => .inr (.inr h), fun h => by rcases h with h | h | h <;> first | omega | exact h⟩) | exact bool_to (by first | exact .inl (by omega) | exact .inr (.inl (by omega)) | exact ⟨fun h => .inr (.inr h), fun h => by rcases h with h | h | h <;> first | omega | exact h⟩) | exact bool_to_b (by first | exact .inl (by omega) | exact .inr (.inl (by omega)) | exact ⟨fun h => .inr (.inr h), fun h => by rcases h with h | h | h <;> first | omega | exact h⟩))
    · skip
      refine vl_guard_f rfl rfl rfl rfl ?_
      refine vl_det (det_pick_t rfl rfl) rfl ?_
      refine vl_det (det_move rfl) rfl ?_
      refine vl_guard_f rfl rfl rfl rfl ?_
      refine vl_guard_f rfl rfl rfl rfl ?_
      refine vl_guard_f rfl rfl rfl rfl ?_
      refine vl_det (det_pick_t rfl rfl) rfl ?_
      exact vl_cut_end ⟨rfl, rfl, trivial⟩ (by first | rfl | exact bool_to_t (by first | exact .inl (by omega) | exact .inr (.inl (by omega)) | exact ⟨fun h => .inr (.inr h), fun h => by rcases h with h | h | h <;> first | omega | exact h⟩) | exact bool_to_f (by first | exact .inl (by omega) | exact .inr (.inl (by omega)) | exact ⟨fun h => .inr (.inr h), fun h => by rcases h with h | h | h <;> first | omega | exact h⟩) | exact bool_to (by first | exact .inl (by omega) | exact .inr (.inl (by omega)) | exact ⟨fun h => .inr (.inr h), fun h => by rcases h with h | h | h <;> first | omega | exact h⟩) | exact bool_to_b (by first | exact .inl (by omega) | exact .inr (.inl (by omega)) | exact ⟨fun h => .inr (.inr h), fun h => by rcases h with h | h | h <;> first | omega | exact h⟩))
  · skip
    refine vl_end [(0, _), (1, _), (20, _)] ⟨rfl, rfl, rfl, trivial⟩ ?_
    refine then_next ?_
    refine vc_decideU rfl (fun h20 => ?_) (fun h20 => ?_)
    · skip
      exfalso; rcases h20 with h | h | h <;> first | omega | exact h hR
    · skip
      refine vc_skip ?_
      refine tg_next ?_
      refine vg_seq ?_
      refine vc_region ?_
      refine vl_det (det_move rfl) rfl ?_
      refine vl_det (det_len_sl Try.underlying26 rfl) rfl ?_
      refine vl_det (det_conv Try.underlying3 Try.underlying33 rfl (w_u64 (by omega) (by omega))) rfl ?_
      refine vl_call co62 rfl (num_d l.length (by omega)) rfl ?_
      rintro _ _ ⟨A24, c24, rfl, hLL⟩
      obtain rfl := hLL.symm
      refine vl_eff (eff_alloc_z (zv := (.slice none 0 0)) (by kernel_rfl) rfl) rfl ?_
      rintro _ _ ⟨g6, rfl, rfl⟩
      refine vl_eff0 (eff_store (by kernel_rfl) rfl rfl rfl (by repeat (first | exact .hd | apply Sel.tl)) (by simp)) ?_
      rintro _ _ rfl
      refine vl_end [(0, _), (1, _), (6, _)] ⟨rfl, rfl, rfl, trivial⟩ ?_
      refine tg_next ?_
      refine vg_seq ?_
      refine vc_nil_row 5 1 none ?_
      refine vc_region ?_
      refine vl_eff (eff_alloc_z (zv := (.slice none 0 0)) (by kernel_rfl) rfl) rfl ?_
      rintro _ _ ⟨g7, rfl, rfl⟩
      refine vl_end [(0, _), (1, _), (6, _), (7, _)] ⟨rfl, rfl, rfl, rfl, trivial⟩ ?_
      refine tg_next ?_
      refine vg_seq2 ?_
      refine vc_region ?_
      refine vl_det (det_move rfl) rfl ?_
      refine vl_det (det_move rfl) rfl ?_
      refine vl_call co63 rfl (chunk_d hs1) rfl ?_
      rintro _ _ ⟨g2, g3, rfl, hLL⟩
      obtain rfl := hLL.symm
      refine vl_end [(6, _), (7, _), (27, _)] ⟨rfl, rfl, rfl, trivial⟩ ?_
      refine tg_next ?_
      refine vg_range (N := chN sz l.length) co111 rfl rfl rfl (fun i : Fin (chN sz l.length) => chV A sz l.length i.val) (fun xs => xs.map (·.val) = List.range (chN sz l.length)) (fun _ => True) [.blk g2 26 [.slice A l.length c], .blk g3 3 [.int .i64 sz]]
        (fun w hw => chunk_stops hs1 (by omega) (by omega) hlc (fun e => by have := (List.pairwise_cons.1 hw.apart).1 _ List.mem_cons_self; subst e; rcases this with h | h <;> simp [Ch.fp] at h) w (hw.all _ (List.mem_cons_of_mem _ List.mem_cons_self)) (hw.all _ List.mem_cons_self))
        (fun (_ : List (Fin (chN sz l.length))) (_ : Option Addr × Nat × Option Addr × Nat) => True) (fun pre s => .blk g3 3 [.int .i64 sz] :: .blk g2 26 [.slice A l.length c] :: .blk g7 41 [.slice s.1 (bodyT l sz (pre.map (·.val))).length s.2.1] :: .own 5 1 s.1 (bodyT l sz (pre.map (·.val))).length s.2.1 (bv (bodyT l sz (pre.map (·.val)))) :: .blk g6 41 [.slice s.2.2.1 (encN l.length ++ headT l sz (pre.map (·.val))).length s.2.2.2] :: .own 5 1 s.2.2.1 (encN l.length ++ headT l sz (pre.map (·.val))).length s.2.2.2 (bv (encN l.length ++ headT l sz (pre.map (·.val)))) :: F)
        (fun pre s q hq => by simp only [obj_own hq, obj_blk hq]) (fun q hq => by
          simp only [List.mem_cons, List.not_mem_nil, or_false] at hq
          rcases hq with rfl | rfl
          · exact ⟨rfl, fun pre s => List.mem_cons_of_mem _ List.mem_cons_self⟩
          · exact ⟨rfl, fun pre s => List.mem_cons_self⟩)
        (none, 0, A24, c24) trivial (.cons (.cons (wk_blk (by simp [bodyT]) (wk_own (by simp [bodyT]) (by simp [bodyT]) (wk_blk (by simp [headT]) (wk_own (by simp [headT]) (by simp [headT]) (.refl _))))))) ?_ ?_
      · skip
        rintro l' pre x ⟨A7, c7, A6, c6⟩ w1 _ hpl hbel F'
        have hxn : x.val * sz < l.length := (chN_lt hs1).1 x.isLt
        have hbx := ((bor_ck hb hxn).later hbel).mono (List.sublist_append_left F F')
        have hX := ck_len l sz x.val
        have hXE : chE sz l.length x.val ≤ 64 := by unfold chE; omega
        have hX1 : 1 ≤ chE sz l.length x.val := by unfold chE; omega
        have hvX : chV A sz l.length x.val = .slice (A.map (·.add (x.val * sz))) (ck l sz x.val).length (ck l sz x.val).length := by unfold chV; rw [hX]
        have hB1 := bodyT_len hs2 h25 (pre.map (·.val))
        have hH1 := headT_len hs2 h25 (pre.map (·.val))
        rw [List.length_map] at hB1 hH1
        have hbl := bucketT_len (l := ck l sz x.val) (by omega) (fun s hs => h25 s (ck_mem hs))
        have hsB := bodyT_snoc l sz (pre.map (·.val)) x.val
        have hsH := headT_snoc l sz (pre.map (·.val)) x.val
        have hmp : (pre ++ [x]).map (·.val) = pre.map (·.val) ++ [x.val] := by simp
        simp only [List.cons_append, hvX, hmp, hsB, hsH]
        have hneX : ck l sz x.val ≠ [] := fun e => by rw [e] at hX; simp at hX; omega
        have h25X : ∀ s ∈ ck l sz x.val, s.length ≤ 25 := fun s hs => h25 s (ck_mem hs)
        generalize ck l sz x.val = X at *
        generalize A.map (·.add (x.val * sz)) = A8 at *
        generalize bodyT l sz (pre.map (·.val)) = bd at *
        generalize headT l sz (pre.map (·.val)) = hd at *
        have hln : (encN l.length ++ hd).length = (encN l.length).length + hd.length := List.length_append
        have hbn : (encN (bucketT X).length).length ≤ 10 := encN_len10 (by omega)
        refine vr_block ?_
        refine vr_seq ?_
        refine vr_region (by kernel_rfl) ?_
        refine vl_det (det_move rfl) rfl ?_
        refine vl_call co64 rfl (bucket_dl hneX (by first | (exact Bor.own (by repeat (first | exact List.Mem.head _ | apply List.Mem.tail))) | (repeat (first | assumption | apply Bor.cons))) (by omega) h25X) rfl ?_
        rintro _ _ ⟨A30, c30, rfl, hLL⟩
        obtain rfl := hLL.symm
        refine vl_det (det_assign rfl) rfl ?_
        refine vl_end [(6, _), (7, _), (9, _)] ⟨rfl, rfl, rfl, trivial⟩ ?_
        refine nq ?_
        refine vr_seq ?_
        refine vr_held (S := F ++ F') (by kernel_rfl) (by kernel_rfl) (by repeat (first | exact List.Sublist.refl _ | exact List.nil_sublist _ | apply List.Sublist.cons_cons | apply List.Sublist.cons)) ?_
        refine vh_take 1 rfl (by kernel_rfl) (by kernel_rfl) (by kernel_rfl) (det_move rfl) rfl ?_
        refine vh_take 2 rfl (by kernel_rfl) (by kernel_rfl) (by kernel_rfl) (det_len_sl Try.underlying41 rfl) rfl ?_
        refine vh_take 3 rfl (by kernel_rfl) (by kernel_rfl) (by kernel_rfl) (det_conv Try.underlying3 Try.underlying33 rfl (w_u64 (by omega) (by omega))) rfl ?_
        refine vh_two 0 4 (by kernel_rfl) ?_ ?_
        · skip
          refine st_det rfl .no (det_load_blk (by kernel_rfl) rfl (by repeat (first | exact .hd | apply Sel.tl)) rfl) rfl (by repeat (first | exact List.Sublist.refl _ | exact List.nil_sublist _ | apply List.Sublist.cons_cons | apply List.Sublist.cons)) ?_
          refine vh_one 4 (by kernel_rfl) ?_
          refine st_call rfl .no co62 rfl (num_d (bucketT X).length (by omega)) rfl (by rintro _ _ ⟨A35, c35, rfl, rfl⟩; exact (by repeat (first | exact List.Sublist.refl _ | exact List.nil_sublist _ | apply List.Sublist.cons_cons | apply List.Sublist.cons))) ?_
          rintro _ _ ⟨A35, c35, rfl, hLL⟩
          obtain rfl := hLL.symm
          refine vh_one 5 (by kernel_rfl) ?_
          refine st_eff rfl .no (eff_app slT41 rfl (by repeat (first | exact .hd | apply Sel.tl)) rfl (by first | (exact Bor.own (by repeat (first | exact List.Mem.head _ | apply List.Mem.tail))) | (repeat (first | assumption | apply Bor.cons))) (by first | exact bv_one _ | exact strs_one _ | exact ints_one _ _ | (simp; done) | (simp [Value.oneCell']; done) | assumption) (by omega) (by omega)) rfl (by rintro _ _ ⟨A36, c36, rfl, rfl⟩; exact (by repeat (first | exact List.Sublist.refl _ | exact List.nil_sublist _ | apply List.Sublist.cons_cons | apply List.Sublist.cons))) ?_
          rintro _ _ ⟨A36, c36, rfl, rfl⟩
          refine vh_one 6 (by kernel_rfl) ?_
          refine st_eff0 rfl .no (eff_store (by kernel_rfl) rfl rfl rfl (by repeat (first | exact .hd | apply Sel.tl)) (by simp)) (by rintro _ _ rfl; exact (by repeat (first | exact List.Sublist.refl _ | exact List.nil_sublist _ | apply List.Sublist.cons_cons | apply List.Sublist.cons))) ?_
          rintro _ _ rfl
          refine vh_done [(7, _), (9, _)] ⟨rfl, rfl, trivial⟩ (by kernel_rfl) ?_
          refine nq ?_
          refine vr_region (by kernel_rfl) ?_
          refine vl_det (det_load_blk (by kernel_rfl) rfl (by repeat (first | exact .hd | apply Sel.tl)) rfl) rfl ?_
          refine vl_det (det_move rfl) rfl ?_
          refine vl_eff (eff_app slT41 rfl (by repeat (first | exact .hd | apply Sel.tl)) rfl (by first | (exact Bor.own (by repeat (first | exact List.Mem.head _ | apply List.Mem.tail))) | (repeat (first | assumption | apply Bor.cons))) (by first | exact bv_one _ | exact strs_one _ | exact ints_one _ _ | (simp; done) | (simp [Value.oneCell']; done) | assumption) (by omega) (by omega)) rfl ?_
          rintro _ _ ⟨A39, c39, rfl, rfl⟩
          refine vl_eff0 (eff_store (by kernel_rfl) rfl rfl rfl (by repeat (first | exact .hd | apply Sel.tl)) (by simp)) ?_
          rintro _ _ rfl
          refine vl_end [] trivial ?_
          refine nq ?_
          exact ⟨(A39, c39, A36, c36), trivial, .skip (.skip (.cons (.cons (wk_blk (by simp) (wk_own (by simp) (by simp) (wk_blk (by simp [Nat.add_assoc]) (wk_own (by simp [Nat.add_assoc]) (by simp) (.refl _))))))))⟩
        · skip
          refine st_call rfl .no co62 rfl (num_d (bucketT X).length (by omega)) rfl (by rintro _ _ ⟨A35, c35, rfl, rfl⟩; exact (by repeat (first | exact List.Sublist.refl _ | exact List.nil_sublist _ | apply List.Sublist.cons_cons | apply List.Sublist.cons))) ?_
          rintro _ _ ⟨A35, c35, rfl, hLL⟩
          obtain rfl := hLL.symm
          refine vh_one 0 (by kernel_rfl) ?_
          refine st_det rfl .no (det_load_blk (by kernel_rfl) rfl (by repeat (first | exact .hd | apply Sel.tl)) rfl) rfl (by repeat (first | exact List.Sublist.refl _ | exact List.nil_sublist _ | apply List.Sublist.cons_cons | apply List.Sublist.cons)) ?_
          refine vh_one 5 (by kernel_rfl) ?_
          refine st_eff rfl .no (eff_app slT41 rfl (by repeat (first | exact .hd | apply Sel.tl)) rfl (by first | (exact Bor.own (by repeat (first | exact List.Mem.head _ | apply List.Mem.tail))) | (repeat (first | assumption | apply Bor.cons))) (by first | exact bv_one _ | exact strs_one _ | exact ints_one _ _ | (simp; done) | (simp [Value.oneCell']; done) | assumption) (by omega) (by omega)) rfl (by rintro _ _ ⟨A36, c36, rfl, rfl⟩; exact (by repeat (first | exact List.Sublist.refl _ | exact List.nil_sublist _ | apply List.Sublist.cons_cons | apply List.Sublist.cons))) ?_
          rintro _ _ ⟨A36, c36, rfl, rfl⟩
          refine vh_one 6 (by kernel_rfl) ?_
          refine st_eff0 rfl .no (eff_store (by kernel_rfl) rfl rfl rfl (by repeat (first | exact .hd | apply Sel.tl)) (by simp)) (by rintro _ _ rfl; exact (by repeat (first | exact List.Sublist.refl _ | exact List.nil_sublist _ | apply List.Sublist.cons_cons | apply List.Sublist.cons))) ?_
          rintro _ _ rfl
          refine vh_done [(7, _), (9, _)] ⟨rfl, rfl, trivial⟩ (by kernel_rfl) ?_
          refine nq ?_
          refine vr_region (by kernel_rfl) ?_
          refine vl_det (det_load_blk (by kernel_rfl) rfl (by repeat (first | exact .hd | apply Sel.tl)) rfl) rfl ?_
          refine vl_det (det_move rfl) rfl ?_
          refine vl_eff (eff_app slT41 rfl (by repeat (first | exact .hd | apply Sel.tl)) rfl (by first | (exact Bor.own (by repeat (first | exact List.Mem.head _ | apply List.Mem.tail))) | (repeat (first | assumption | apply Bor.cons))) (by first | exact bv_one _ | exact strs_one _ | exact ints_one _ _ | (simp; done) | (simp [Value.oneCell']; done) | assumption) (by omega) (by omega)) rfl ?_
          rintro _ _ ⟨A39, c39, rfl, rfl⟩
          refine vl_eff0 (eff_store (by kernel_rfl) rfl rfl rfl (by repeat (first | exact .hd | apply Sel.tl)) (by simp)) ?_
          rintro _ _ rfl
          refine vl_end [] trivial ?_
          refine nq ?_
          exact ⟨(A39, c39, A36, c36), trivial, .skip (.skip (.cons (.cons (wk_blk (by simp) (wk_own (by simp) (by simp) (wk_blk (by simp [Nat.add_assoc]) (wk_own (by simp [Nat.add_assoc]) (by simp) (.refl _))))))))⟩
      · skip
        rintro D xs ⟨A7, c7, A6, c6⟩ hS _
        have hB1 := bodyT_len hs2 h25 (xs.map (·.val))
        have hH1 := headT_len hs2 h25 (xs.map (·.val))
        rw [hS] at hB1 hH1
        rw [List.length_range] at hB1 hH1
        simp only [hS]
        have hBl : (dictB sz l).length ≤ 10000000000 := by
          have := Nat.mul_le_mul_right 3000 hNl
          have := Nat.mul_le_mul_right 10 hNl
          unfold dictB
          rw [List.length_append, List.length_append]
          omega
        refine vm_seq ?_
        refine vl_det (det_load_blk (by kernel_rfl) rfl (by repeat (first | exact .hd | apply Sel.tl)) rfl) rfl ?_
        refine vl_det (det_load_blk (by kernel_rfl) rfl (by repeat (first | exact .hd | apply Sel.tl)) rfl) rfl ?_
        refine vl_eff (eff_build_lit slT69 [_, _] rfl rfl (by first | exact bv_one _ | exact strs_one _ | exact ints_one _ _ | (simp; done) | (simp [Value.oneCell']; done) | assumption) (by omega) (by omega)) rfl ?_
        rintro _ _ ⟨A42, rfl, rfl⟩
        refine vl_call co40 rfl (all_d (l := dictB sz l) (P := [(.slice A6 (encN l.length ++ headT l sz (List.range (chN sz l.length))).length c6, encN l.length ++ headT l sz (List.range (chN sz l.length))), (.slice A7 (bodyT l sz (List.range (chN sz l.length))).length c7, bodyT l sz (List.range (chN sz l.length)))]) (by first | (exact Bor.own (by repeat (first | exact List.Mem.head _ | apply List.Mem.tail))) | (repeat (first | assumption | apply Bor.cons))) (by intro y hy; simp only [List.mem_cons, List.not_mem_nil, or_false] at hy; rcases hy with rfl | rfl <;> exact (by first | (exact Bor.own (by repeat (first | exact List.Mem.head _ | apply List.Mem.tail))) | (repeat (first | assumption | apply Bor.cons)))) rfl (by simp [Parts.all, dictB]) (by omega) (by simp)) rfl ?_
        rintro _ _ ⟨A43, c43, rfl, hLL⟩
        obtain rfl := hLL.symm
        refine vl_det (det_assign rfl) rfl ?_
        refine vl_det (det_assign rfl) rfl ?_
        refine vl_end [(4, _), (5, _)] ⟨rfl, rfl, trivial⟩ ?_
        refine nq ?_
        refine vm_ret rfl ((pu2 (pu0 (pu0 (.refl _))))) ?_
        refine ret_wk (L' := .own 5 1 A43 (dictB sz l).length c43 (bv (dictB sz l)) :: F) (.cons (.skip (.skip (.skip (.skip (.skip (.skip (.skip (.refl _))))))))) ?_
        refine ret2 rfl rfl rfl ?_
        exact ⟨A43, c43, rfl, rfl⟩
end Go.Proofs.Ytpamjobiohbibaa
namespace Go.Proofs.Ytpamjobiohbibaa
open Go.RowKit
set_option linter.unusedVariables false
set_option maxRecDepth 20000
variable {B : Nat} {w0 : World} {F : List Ch} {A A2 : Option Addr} {n n2 c c2 : Nat}
theorem same_d {l l2 : List UInt8} (h1 : Bor B w0 F 1 (.slice A n c) n (bv l)) (h2 : Bor B w0 F 1 (.slice A2 n2 c2) n2 (bv l2)) :
    Does Try.prog B w0 19 [.slice A n c, .slice A2 n2 c2] F (fun r L => r = .bool (decide (l = l2)) ∧ L = F) := by
  refine fn_walk Try.func19 10 rfl rfl rfl [(0, .slice A n c), (1, .slice A2 n2 c2)] ⟨⟨rfl, rfl⟩, ⟨rfl, rfl⟩, trivial⟩ ?_
  refine vc_seq ?_
  refine vc_region ?_
  refine vl_det (det_assign rfl) rfl ?_
  refine vl_end [(0, _), (1, _)] ⟨rfl, rfl, trivial⟩ ?_
  refine then_next ?_
  refine vc_seq ?_
  refine vc_region ?_
  refine vl_det (det_move rfl) rfl ?_
  refine vl_det (det_bstr Try.underlying41 Try.underlying5 Try.underlying9 rfl (by first | (exact Bor.own (by repeat (first | exact List.Mem.head _ | apply List.Mem.tail))) | (repeat (first | assumption | apply Bor.cons)))) rfl ?_
  refine vl_det (det_move rfl) rfl ?_
  refine vl_det (det_bstr Try.underlying41 Try.underlying5 Try.underlying9 rfl (by first | (exact Bor.own (by repeat (first | exact List.Mem.head _ | apply List.Mem.tail))) | (repeat (first | assumption | apply Bor.cons)))) rfl ?_
  refine vl_det (det_s_eql rfl rfl) rfl ?_
  refine vl_det (det_assign rfl) rfl ?_
  refine vl_end [(4, _)] ⟨rfl, trivial⟩ ?_
  refine then_next ?_
  refine vc_ret ?_
  refine ret1 rfl rfl ?_
  exact ⟨rfl, rfl⟩
end Go.Proofs.Ytpamjobiohbibaa
namespace Go.Proofs.Ytpamjobiohbibaa
open Go.RowKit
set_option linter.unusedVariables false
set_option maxRecDepth 20000
section
variable {C : Cx} {fr : Fr} {L : List Ch} {f : Ch → List Ch} {x : Operand} {t ty e : TypeId} {A : Option Addr} {n c : Nat} {xs : List Value}
theorem eff_conv_own (ht : C.P.underlying t = some (.slice e)) (hu : C.P.underlying e = some (.int .u8)) (he : ev fr x = some (.slice A n c)) (hm : Sel (.own e 1 A n c xs) L f) (hc : 1 ≤ n) :
    Eff C fr L (.convert t t x) ty (fun v L' => ∃ g cur k, v = .slice A n c ∧ A = some ⟨g, 0, none⟩ ∧ n ≤ c ∧ cur.toList.take n = xs ∧ xs.length = n ∧ L' = f (.obj g (.cells cur e k))) := fun a w ha hw d pos af gg => by
  obtain ⟨h1, h2, h3⟩ := hw.all _ hm.mem
  obtain ⟨g, cur, rfl, k1, k2, k3, k4, k5⟩ := h3.resolve_left (by omega)
  have hsh : w.shape? g = some (e, cur.size) := by unfold World.shape?; rw [k2]
  have hlt : g < w.heap.size := (Array.getElem?_eq_some_iff.1 k2).1
  have hrun : (convert t t (.slice (some ⟨g, 0, none⟩) n c)).run C.P w = .ok (.slice (some ⟨g, 0, none⟩) n c) (w.freeze ⟨g, cur.size, none⟩ 1) := by
    simp [convert, run_underlying ht, run_underlying hu, markStringish, hsh]
  have hfr : (w.freeze ⟨g, cur.size, none⟩ 1).heap[g]? = some (.cells cur e (cur.size, cur.size + 1)) := by
    unfold World.freeze
    rw [if_neg (by decide)]
    show (w.heap.modify g _)[g]? = _
    rw [Array.getElem?_modify, if_pos rfl, k2]
    rfl
  have hgr : w.grownBy (w.freeze ⟨g, cur.size, none⟩ 1) (some g) := by
    unfold World.freeze
    rw [if_neg (by decide)]
    refine ⟨rfl, rfl, rfl, by simp, fun k hk hne => ?_⟩
    show (w.heap.modify g _)[k]? = _
    rw [Array.getElem?_modify, if_neg (fun e => hne (by rw [e]))]
  have hfp : (Ch.own e 1 (some ⟨g, 0, none⟩) n c xs).fp = some g := by simp [Ch.fp, show ¬ c = 0 by omega]
  refine ⟨_, w.freeze ⟨g, cur.size, none⟩ 1, _, .inl ?_, ⟨g, cur, (cur.size, cur.size + 1), rfl, rfl, h2, by rw [Nat.mul_one] at k5; exact k5, by omega, rfl⟩, hw.sel hm (by rw [hfp]; exact hgr) (fun _ => ⟨k1, hfr⟩) (.inr (.inl hfp.symm))⟩
  simp [execOp, ha.tmp he, hrun]
theorem Bor.obj {B : Nat} {w0 : World} {g : Nat} {cur : Array Value} {k : Nat × Nat} (h : Ch.obj g (.cells cur e k) ∈ L) (h2 : n ≤ c) (hx : cur.toList.take n = xs) (hl : xs.length = n) : Bor B w0 L 1 (.slice (some ⟨g, 0, none⟩) n c) n xs := fun w hs => by
  have hh := (hs.all _ h).2
  refine ⟨_, _, rfl, h2, by omega, fun _ => ⟨_, rfl, (Array.getElem?_eq_some_iff.1 hh).1, fun j u hu => ?_⟩⟩
  rw [Addr.add_lit, Nat.zero_add, cell_of_row w g j cur e k hh]
  rw [← hx, List.getElem?_take] at hu
  split at hu
  · simpa using hu
  · cases hu
end
end Go.Proofs.Ytpamjobiohbibaa
namespace Go.Proofs.Ytpamjobiohbibaa
open Go.RowKit
set_option linter.unusedVariables false
set_option maxRecDepth 20000
variable {B : Nat} {w0 : World} {F : List Ch} {A A1 A2 : Option Addr} {n c c1 c2 g : Nat}
theorem dwrite_d {size : Int} {l : List Txt} (hb : Bor B w0 F 1 (.slice A l.length c) l.length (strs l)) (hlc : l.length ≤ c) (hl : l.length ≤ 1000000000000000) :
    Does Try.prog B w0 38 [.int .i64 size, .slice A l.length c] F (fun r L => ∃ A' c', r = .tuple #[.slice A' (dictW size l).1.length c', .int .i64 (dictW size l).2] ∧ L = .own 5 1 A' (dictW size l).1.length c' (bv (dictW size l).1) :: F) := by
  by_cases hE : size < 1 ∨ 64 < size ∨ ¬ RisT l
  · rw [dictW_bad hE]; exact dwrite_bad hb hl hE
  · have hR : RisT l := Classical.byContradiction fun h => hE (.inr (.inr h))
    obtain ⟨sz, rfl⟩ := Int.eq_ofNat_of_zero_le (show 0 ≤ size by omega)
    rw [dictW_ok hE]
    exact dwrite_ok hb hlc (by omega) (by omega) hR
theorem dictX : dictB 2 [[100, 105, 115, 107], [100, 105, 115, 107, 115], [102, 117, 108, 108]] = [3, 8, 5, 4, 100, 105, 115, 107, 4, 1, 115, 4, 102, 117, 108, 108] := by
  have e3 := encN_lt (x := 3) (by omega)
  have e4 := encN_lt (x := 4) (by omega)
  have e1 := encN_lt (x := 1) (by omega)
  have e8 := encN_lt (x := 8) (by omega)
  have e5 := encN_lt (x := 5) (by omega)
  have hN : List.range (chN 2 3) = [0, 1] := by decide
  have h0 : ck [[100, 105, 115, 107], [100, 105, 115, 107, 115], [102, 117, 108, 108]] 2 0 = [[100, 105, 115, 107], [100, 105, 115, 107, 115]] := rfl
  have h1 : ck [[100, 105, 115, 107], [100, 105, 115, 107, 115], [102, 117, 108, 108]] 2 1 = [[102, 117, 108, 108]] := rfl
  have hl : lcp [100, 105, 115, 107] [100, 105, 115, 107, 115] = 4 := by decide
  have b0 : bucketT [[100, 105, 115, 107], [100, 105, 115, 107, 115]] = [4, 100, 105, 115, 107, 4, 1, 115] := by
    simp only [bucketT, tailT, hl, encT, List.length_cons, List.length_nil, List.drop, Nat.zero_add, Nat.reduceAdd, e4, e1]
    rfl
  have b1 : bucketT [[102, 117, 108, 108]] = [4, 102, 117, 108, 108] := by
    simp only [bucketT, tailT, encT, List.length_cons, List.length_nil, Nat.zero_add, Nat.reduceAdd, e4]
    rfl
  unfold dictB headT bodyT
  simp only [List.length_cons, List.length_nil, Nat.zero_add, Nat.reduceAdd, hN, List.flatMap_cons, List.flatMap_nil, h0, h1, b0, b1, e3, e8, e5]
  rfl
/-! nil dictionaries -/
theorem nlen_d : Does Try.prog B w0 50 [.pointer none] F (fun r L => r = .int .i64 0 ∧ L = F) := by
  refine fn_walk Try.func50 11 rfl rfl rfl [(0, .pointer none)] ⟨⟨rfl, rfl⟩, trivial⟩ ?_
  refine vc_seq ?_
  refine vc_region ?_
  refine vl_det (det_assign rfl) rfl ?_
  refine vl_end [(0, _)] ⟨rfl, trivial⟩ ?_
  refine then_next ?_
  refine vc_seq ?_
  refine vc_seq ?_
  refine vc_region ?_
  refine vl_det (det_move rfl) rfl ?_
  refine vl_det (det_ptr_nil Try.underlying77 rfl rfl) rfl ?_
  refine vl_end [(0, _), (4, _)] ⟨rfl, rfl, trivial⟩ ?_
  refine then_next ?_
  refine vc_cond_t rfl ?_
  refine vc_seq ?_
  refine vc_region ?_
  refine vl_det (det_assign rfl) rfl ?_
  refine vl_end [(2, _)] ⟨rfl, trivial⟩ ?_
  refine then_next ?_
  refine vc_ret ?_
  refine then_ret ?_
  refine ret1 rfl rfl ?_
  exact ⟨rfl, rfl⟩
theorem nall_d : Does Try.prog B w0 51 [.pointer none] F (fun r L => r = .slice none 0 0 ∧ L = F) := by
  refine fn_walk Try.func51 11 rfl rfl rfl [(0, .pointer none)] ⟨⟨rfl, rfl⟩, trivial⟩ ?_
  refine vc_seq ?_
  refine vc_region ?_
  refine vl_det (det_assign rfl) rfl ?_
  refine vl_end [(0, _)] ⟨rfl, trivial⟩ ?_
  refine then_next ?_
  refine vc_seq ?_
  refine vc_seq ?_
  refine vc_region ?_
  refine vl_det (det_move rfl) rfl ?_
  refine vl_det (det_ptr_nil Try.underlying77 rfl rfl) rfl ?_
  refine vl_end [(0, _), (4, _)] ⟨rfl, rfl, trivial⟩ ?_
  refine then_next ?_
  refine vc_cond_t rfl ?_
  refine vc_seq ?_
  refine vc_region ?_
  refine vl_det (det_assign rfl) rfl ?_
  refine vl_end [(2, _)] ⟨rfl, trivial⟩ ?_
  refine then_next ?_
  refine vc_ret ?_
  refine then_ret ?_
  refine ret1 rfl rfl ?_
  exact ⟨rfl, rfl⟩
end Go.Proofs.Ytpamjobiohbibaa
namespace Go.Proofs.Ytpamjobiohbibaa
open Go.RowKit
set_option linter.unusedVariables false
set_option maxRecDepth 20000
variable {B : Nat} {w0 : World} {F : List Ch}
theorem tmodR (n : Nat) : (n : Int).tmod 128 = ((n % 128 : Nat) : Int) := by rw [Int.tmod_eq_emod_of_nonneg (by omega)]; omega
theorem tdivR {n : Nat} (h : n < 18446744073709551616) : IntKind.u64.wrap ((n : Int).tdiv 128) = ((n / 128 : Nat) : Int) := by
  have e : (n : Int).tdiv 128 = ((n / 128 : Nat) : Int) := (Int.ofNat_tdiv n 128).symm
  rw [e]; exact w_u64 (by omega) (by omega)
set_option maxRecDepth 20000 in
theorem rnum_d (x : Nat) (hx : x < 18446744073709551616) : Does Try.prog B w0 72 [.int .u64 x] F (fun r L => ∃ A c, r = .slice A (encN x).length c ∧ L = .own 5 1 A (encN x).length c (bv (encN x)) :: F) := by
  refine fn_walk Try.func72 20 rfl rfl rfl [(0, .int .u64 x)] ⟨⟨rfl, rfl⟩, trivial⟩ ?_
  refine vc_seq ?_
  refine vc_region ?_
  refine vl_det (det_assign rfl) rfl ?_
  refine vl_end [(0, _)] ⟨rfl, trivial⟩ ?_
  refine then_next ?_
  refine vc_seq ?_
  refine vc_nil_row 5 1 none ?_
  refine vc_region ?_
  refine vl_det (det_assign rfl) rfl ?_
  refine vl_end [(0, _), (3, _)] ⟨rfl, rfl, trivial⟩ ?_
  refine then_next ?_
  refine vc_seq ?_
  refine vc_block ?_
  refine vc_loopJ (fun zf zL zm => ∃ (k : Nat) (pre : List UInt8) (A3 : Option Addr) (c3 : Nat), (k ≤ x ∧ encN x = pre ++ encN k) ∧ k = zm ∧ Sub zf [(0, .int .u64 k), (3, .slice A3 pre.length c3)] ∧ Wk zL (.own 5 1 A3 pre.length c3 (bv pre) :: F)) _ ⟨x, [], none, 0, ⟨Nat.le_refl _, by simp⟩, rfl, ⟨(by first | rfl | exact int_to (by omega) | exact sl_to (by omega)), (by first | rfl | exact int_to (by omega) | exact sl_to (by omega)), trivial⟩, wk_own rfl rfl (.refl _)⟩ ?_
  rintro _ _ _ ⟨k, pre, A3, c3, ⟨hk, he⟩, rfl, hs, hp⟩
  refine vc_weaken _ hs (vc_wk hp ?_)
  clear hs hp
  have hpl := enc_pre he hx
  refine vc_seq ?_
  refine vc_seq ?_
  refine vc_region ?_
  refine vl_det (det_move rfl) rfl ?_
  refine vl_det (det_geq rfl rfl) rfl ?_
  refine vl_end [(0, _), (3, _), (5, _)] ⟨rfl, rfl, rfl, trivial⟩ ?_
  refine then_next ?_
  refine vc_decideU rfl (fun h5 => ?_) (fun h5 => ?_)
  · skip
    have hl := (show (pre ++ [UInt8.ofNat (128 + k % 128)]).length = pre.length + 1 by simp)
    refine vc_skip ?_
    refine then_next ?_
    refine vc_block ?_
    refine vc_seq ?_
    refine vc_region ?_
    refine vl_det (det_move rfl) rfl ?_
    refine vl_det (det_move rfl) rfl ?_
    refine vl_det (det_rem rfl rfl (by omega) (tmodR k)) rfl ?_
    refine vl_det (det_add rfl rfl (r := ((128 + k % 128 : Nat) : Int)) ((w_u64 (by omega) (by omega)).trans (by omega))) rfl ?_
    refine vl_det (det_conv Try.underlying33 Try.underlying5 rfl (w_u8 (by omega) (by omega))) rfl ?_
    refine vl_push slT41 rfl rfl rfl rfl rfl (fun _ => rfl) (by repeat (first | exact .hd | apply Sel.tl)) (by omega) (by omega) ?_
    intro _ A12 c12
    rw [← hl]
    refine vl_det (det_assign rfl) rfl ?_
    refine vl_end [(0, _), (3, _)] ⟨rfl, rfl, trivial⟩ ?_
    refine then_next ?_
    refine vc_region ?_
    refine vl_det (det_move rfl) rfl ?_
    refine vl_det (det_quo rfl rfl (by omega) (tdivR (by omega))) rfl ?_
    refine vl_det (det_assign rfl) rfl ?_
    refine vl_end [(0, _), (3, _)] ⟨rfl, rfl, trivial⟩ ?_
    refine in_normal ?_
    refine in_loop_ ⟨_, by omega, k / 128, pre ++ [UInt8.ofNat (128 + k % 128)], A12, c12, ⟨by omega, enc_more he (by omega)⟩, rfl, ⟨(by first | rfl | exact int_to (by omega) | exact sl_to (by omega)), (by first | rfl | exact int_to (by omega) | exact sl_to (by omega)), trivial⟩, wk_own rfl (bv_pushN (by omega) pre) (.refl _)⟩
  · skip
    have hl := (show (pre ++ [UInt8.ofNat k]).length = pre.length + 1 by simp)
    refine vc_exit ?_
    refine then_exit ?_
    refine loop_exit ?_
    refine in_eq ?_
    refine then_next ?_
    refine vc_seq ?_
    refine vc_region ?_
    refine vl_det (det_move rfl) rfl ?_
    refine vl_det (det_move rfl) rfl ?_
    refine vl_det (det_conv Try.underlying33 Try.underlying5 rfl (w_u8 (by omega) (by omega))) rfl ?_
    refine vl_push slT41 rfl rfl rfl rfl rfl (fun _ => rfl) (by repeat (first | exact .hd | apply Sel.tl)) (by omega) (by omega) ?_
    intro _ A19 c19
    rw [← hl]
    refine vl_det (det_assign rfl) rfl ?_
    refine vl_end [(2, _)] ⟨rfl, trivial⟩ ?_
    refine then_next ?_
    refine vc_ret ?_
    have hel := enc_last he (by omega)
    rw [hel]
    refine ret_wk (wk_own rfl (bv_pushN (by omega) pre) (.refl _)) ?_
    refine ret1 rfl rfl ?_
    exact ⟨A19, c19, rfl, rfl⟩
end Go.Proofs.Ytpamjobiohbibaa
namespace Go.Proofs.Ytpamjobiohbibaa
open Go.RowKit
set_option linter.unusedVariables false
set_option maxRecDepth 20000
variable {B : Nat} {w0 : World} {F : List Ch} {A A1 A2 : Option Addr} {n c c1 c2 g : Nat}
theorem rlike_d (s r : Txt) (hs : s.length ≤ 1000000000000000) : Does Try.prog B w0 74 [.string ⟨s.toArray⟩, .string ⟨r.toArray⟩] F (fun v L => v = .int .i64 (lcp s r) ∧ L = F) := by
  have hle := (lcp_le s r).1
  refine fn_walk Try.func74 28 rfl rfl rfl [(0, .string ⟨s.toArray⟩), (1, .string ⟨r.toArray⟩)] ⟨⟨rfl, rfl⟩, ⟨rfl, rfl⟩, trivial⟩ ?_
  refine vc_seq ?_
  refine vc_region ?_
  refine vl_det (det_assign rfl) rfl ?_
  refine vl_end [(0, _), (1, _)] ⟨rfl, rfl, trivial⟩ ?_
  refine then_next ?_
  refine vc_seq ?_
  refine vc_seq ?_
  refine vc_region ?_
  refine vl_det (det_assign rfl) rfl ?_
  refine vl_end [(0, _), (1, _), (5, _)] ⟨rfl, rfl, rfl, trivial⟩ ?_
  refine then_next ?_
  refine vc_block ?_
  refine vc_loopJ (fun zf zL zm => ∃ (k : Nat), (k ≤ lcp s r) ∧ s.length - k = zm ∧ Sub zf [(0, .string ⟨s.toArray⟩), (1, .string ⟨r.toArray⟩), (5, .int .i64 k)] ∧ Wk zL (F)) _ ⟨0, Nat.zero_le _, rfl, ⟨(by first | rfl | exact int_to (by omega) | exact sl_to (by omega)), (by first | rfl | exact int_to (by omega) | exact sl_to (by omega)), (by first | rfl | exact int_to (by omega) | exact sl_to (by omega)), trivial⟩, .refl _⟩ ?_
  rintro _ _ _ ⟨k, hk, rfl, hs, hp⟩
  refine vc_weaken _ hs (vc_wk hp ?_)
  clear hs hp
  refine vc_seq ?_
  refine vc_seq ?_
  refine vc_region ?_
  refine vl_det (det_move rfl) rfl ?_
  refine vl_det (det_move rfl) rfl ?_
  refine vl_det (det_len_s Try.underlying9 rfl) rfl ?_
  refine vl_det (det_lss rfl rfl) rfl ?_
  refine vl_end [(0, _), (1, _), (5, _), (9, _)] ⟨rfl, rfl, rfl, rfl, trivial⟩ ?_
  refine then_next ?_
  refine vc_decideU rfl (fun h9 => ?_) (fun h9 => ?_)
  · skip
    refine vc_skip ?_
    refine then_next ?_
    refine vc_seq ?_
    refine vc_block ?_
    refine vc_seq ?_
    refine vq_region (by kernel_rfl) (by kernel_rfl) ?_
    refine vq_cut 13 24 [(0, _), (1, _), (5, _)] (k = lcp s r) ⟨rfl, rfl, rfl, trivial⟩ ?_ ?_
    · skip
      refine vq_det (det_move rfl) rfl ?_
      refine vq_det (det_move rfl) rfl ?_
      refine vq_det (det_len_s Try.underlying9 rfl) rfl ?_
      refine vq_det (det_geq rfl rfl) rfl ?_
      refine vq_det (det_move rfl) rfl ?_
      refine vq_guardn rfl rfl rfl (fun h16 => ?_) (fun h16 => ?_)
      · skip
        refine vq_det (det_move rfl) rfl ?_
        refine vq_guard_t rfl rfl ?_
        refine vq_det (det_move rfl) rfl ?_
        refine vq_guard_t rfl rfl ?_
        refine vq_det (det_at_str Try.underlying9 rfl rfl rfl (by omega)) rfl ?_
        refine vq_guard_t rfl rfl ?_
        refine vq_det (det_move rfl) rfl ?_
        refine vq_guard_t rfl rfl ?_
        refine vq_det (det_move rfl) rfl ?_
        refine vq_guard_t rfl rfl ?_
        refine vq_det (det_at_str Try.underlying9 rfl rfl rfl (by omega)) rfl ?_
        refine vq_guard_t rfl rfl ?_
        refine vq_det (det_neq rfl rfl) rfl ?_
        refine vq_det (det_pick_f rfl rfl) rfl ?_
        exact vq_cut_end ⟨rfl, rfl, rfl, trivial⟩ (by first | rfl | exact bool_to_t (by first | exact Nat.le_antisymm hk (Nat.le_of_not_lt fun h => absurd ((lcp_step s r k hk).1 h).1.2 (by omega)) | exact ⟨fun h => Nat.le_antisymm hk (Nat.le_of_not_lt fun h2 => h (by rw [((lcp_step s r k hk).1 h2).2])), fun h h2 => absurd ((lcp_step s r k hk).2 ⟨⟨by omega, by omega⟩, UInt8.toNat_inj.1 (by omega)⟩) (by omega)⟩) | exact bool_to_f (by first | exact Nat.le_antisymm hk (Nat.le_of_not_lt fun h => absurd ((lcp_step s r k hk).1 h).1.2 (by omega)) | exact ⟨fun h => Nat.le_antisymm hk (Nat.le_of_not_lt fun h2 => h (by rw [((lcp_step s r k hk).1 h2).2])), fun h h2 => absurd ((lcp_step s r k hk).2 ⟨⟨by omega, by omega⟩, UInt8.toNat_inj.1 (by omega)⟩) (by omega)⟩) | exact bool_to (by first | exact Nat.le_antisymm hk (Nat.le_of_not_lt fun h => absurd ((lcp_step s r k hk).1 h).1.2 (by omega)) | exact ⟨fun h => Nat.le_antisymm hk (Nat.le_of_not_lt fun h2 => h (by rw [((lcp_step s r k hk).1 h2).2])), fun h h2 => absurd ((lcp_step s r k hk).2 ⟨⟨by omega, by omega⟩, UInt8.toNat_inj.1 (by omega)⟩) (by omega)⟩) | exact bool_to_b (by first | exact Nat.le_antisymm hk (Nat.le_of_not_lt fun h => absurd ((lcp_step s r k hk).1 h).1.2 (by omega)) | exact ⟨fun h => Nat.le_antisymm hk (Nat.le_of_not_lt fun h2 => h (by rw [((lcp_step s r k hk).1 h2).2])), fun h h2 => absurd ((lcp_step s r k hk).2 ⟨⟨by omega, by omega⟩, UInt8.toNat_inj.1 (by omega)⟩) (by omega)⟩))
      · skip
        refine vq_guard_f rfl rfl rfl rfl ?_
        refine vq_guard_f rfl rfl rfl rfl ?_
        refine vq_guard_f rfl rfl rfl rfl ?_
        refine vq_guard_f rfl rfl rfl rfl ?_
        refine vq_guard_f rfl rfl rfl rfl ?_
        refine vq_guard_f rfl rfl rfl rfl ?_
        refine vq_det (det_pick_t rfl rfl) rfl ?_
        exact vq_cut_end ⟨rfl, rfl, rfl, trivial⟩ (by first | rfl | exact bool_to_t (by first | exact Nat.le_antisymm hk (Nat.le_of_not_lt fun h => absurd ((lcp_step s r k hk).1 h).1.2 (by omega)) | exact ⟨fun h => Nat.le_antisymm hk (Nat.le_of_not_lt fun h2 => h (by rw [((lcp_step s r k hk).1 h2).2])), fun h h2 => absurd ((lcp_step s r k hk).2 ⟨⟨by omega, by omega⟩, UInt8.toNat_inj.1 (by omega)⟩) (by omega)⟩) | exact bool_to_f (by first | exact Nat.le_antisymm hk (Nat.le_of_not_lt fun h => absurd ((lcp_step s r k hk).1 h).1.2 (by omega)) | exact ⟨fun h => Nat.le_antisymm hk (Nat.le_of_not_lt fun h2 => h (by rw [((lcp_step s r k hk).1 h2).2])), fun h h2 => absurd ((lcp_step s r k hk).2 ⟨⟨by omega, by omega⟩, UInt8.toNat_inj.1 (by omega)⟩) (by omega)⟩) | exact bool_to (by first | exact Nat.le_antisymm hk (Nat.le_of_not_lt fun h => absurd ((lcp_step s r k hk).1 h).1.2 (by omega)) | exact ⟨fun h => Nat.le_antisymm hk (Nat.le_of_not_lt fun h2 => h (by rw [((lcp_step s r k hk).1 h2).2])), fun h h2 => absurd ((lcp_step s r k hk).2 ⟨⟨by omega, by omega⟩, UInt8.toNat_inj.1 (by omega)⟩) (by omega)⟩) | exact bool_to_b (by first | exact Nat.le_antisymm hk (Nat.le_of_not_lt fun h => absurd ((lcp_step s r k hk).1 h).1.2 (by omega)) | exact ⟨fun h => Nat.le_antisymm hk (Nat.le_of_not_lt fun h2 => h (by rw [((lcp_step s r k hk).1 h2).2])), fun h h2 => absurd ((lcp_step s r k hk).2 ⟨⟨by omega, by omega⟩, UInt8.toNat_inj.1 (by omega)⟩) (by omega)⟩))
    · skip
      refine vq_end [(0, _), (1, _), (5, _), (24, _)] ⟨rfl, rfl, rfl, rfl, trivial⟩ ?_
      refine then_next ?_
      refine vc_decideU rfl (fun h24 => ?_) (fun h24 => ?_)
      · skip
        refine vc_seq ?_
        refine vc_region ?_
        refine vl_det (det_move rfl) rfl ?_
        refine vl_det (det_assign rfl) rfl ?_
        refine vl_end [(4, _)] ⟨rfl, trivial⟩ ?_
        refine then_next ?_
        refine vc_ret ?_
        refine in_ret ?_
        refine then_ret ?_
        refine loop_ret ?_
        refine in_ret ?_
        refine then_ret ?_
        refine ret1 rfl rfl ?_
        exact ⟨by rw [h24], rfl⟩
      · skip
        refine vc_skip ?_
        refine in_normal ?_
        refine then_next ?_
        refine vc_region ?_
        refine vl_det (det_move rfl) rfl ?_
        refine vl_det (det_add rfl rfl (w_i64 (by omega) (by omega))) rfl ?_
        refine vl_det (det_assign rfl) rfl ?_
        refine vl_end [(0, _), (1, _), (5, _)] ⟨rfl, rfl, rfl, trivial⟩ ?_
        refine in_loop_ ⟨_, by omega, k + 1, by omega, rfl, ⟨(by first | rfl | exact int_to (by omega) | exact sl_to (by omega)), (by first | rfl | exact int_to (by omega) | exact sl_to (by omega)), (by first | rfl | exact int_to (by omega) | exact sl_to (by omega)), trivial⟩, .refl _⟩
  · skip
    refine vc_exit ?_
    refine then_exit ?_
    refine loop_exit ?_
    refine in_eq ?_
    refine then_next ?_
    refine vc_seq ?_
    refine vc_region ?_
    refine vl_det (det_move rfl) rfl ?_
    refine vl_det (det_len_s Try.underlying9 rfl) rfl ?_
    refine vl_det (det_assign rfl) rfl ?_
    refine vl_end [(4, _)] ⟨rfl, trivial⟩ ?_
    refine then_next ?_
    refine vc_ret ?_
    refine ret1 rfl rfl ?_
    exact ⟨by rw [show s.length = lcp s r by omega], rfl⟩
/-- texts are too many or too long -/
def grT (l : List Txt) : Prop := 300 < l.length ∨ ∃ i, i < l.length ∧ 60 < (l.getD i []).length
instance (l : List Txt) : Decidable (grT l) := inferInstanceAs (Decidable (_ ∨ _))
theorem not_grT {l : List Txt} (h : ¬ grT l) : l.length ≤ 300 ∧ ∀ s ∈ l, s.length ≤ 60 := by
  refine ⟨Nat.le_of_not_lt fun h1 => h (.inl h1), fun s hs => Nat.le_of_not_lt fun h1 => ?_⟩
  obtain ⟨i, hi, rfl⟩ := List.getElem_of_mem hs
  exact h (.inr ⟨i, hi, by rw [List.getD_eq_getElem?_getD, List.getElem?_eq_getElem hi]; exact h1⟩)
theorem may0 {l : List Txt} {k : Nat} (h0 : k = 0) (h1 : 1 ≤ (l.getD k []).length) (h2 : (l.getD k []).length ≤ 25) : mayT (prvT l k) (l.getD k []) := by
  subst h0
  have hne : l.getD 0 [] ≠ [] := fun e => by rw [e] at h1; simp at h1
  exact ⟨hne, h2, not_leT_nil hne⟩
theorem may1 {l : List Txt} {k : Nat} (h0 : 0 < k) (h1 : 1 ≤ (l.getD k []).length) (h2 : (l.getD k []).length ≤ 25) : leT (l.getD k []) (l.getD (k - 1) []) ↔ ¬ mayT (prvT l k) (l.getD k []) := by
  have hne : l.getD k [] ≠ [] := fun e => by rw [e] at h1; simp at h1
  have hp : prvT l k = l.getD (k - 1) [] := by unfold prvT; rw [if_neg (by omega)]
  rw [hp]
  exact ⟨fun h hm => hm.2.2 h, fun h => Classical.byContradiction fun hn => h ⟨hne, h2, hn⟩⟩
theorem rmayT_d {l : List Txt} (hb : Bor B w0 F 1 (.slice A l.length c) l.length (strs l)) (hl : l.length ≤ 1000000000000000) :
    Does Try.prog B w0 43 [.slice A l.length c] F (fun r L => r = .bool (decide (RisT l)) ∧ L = F) := by
  refine fn_walk Try.func43 43 rfl rfl rfl [(0, .slice A l.length c)] ⟨⟨rfl, rfl⟩, trivial⟩ ?_
  refine vc_seq ?_
  refine vc_region ?_
  refine vl_det (det_assign rfl) rfl ?_
  refine vl_end [(0, _)] ⟨rfl, trivial⟩ ?_
  refine then_next ?_
  refine vc_seq ?_
  refine vc_seq ?_
  refine vc_region ?_
  refine vl_det (det_move rfl) rfl ?_
  refine vl_det (det_len_sl Try.underlying26 rfl) rfl ?_
  refine vl_det (det_gtr rfl rfl) rfl ?_
  refine vl_end [(0, _), (6, _)] ⟨rfl, rfl, trivial⟩ ?_
  refine then_next ?_
  refine vc_decideU rfl (fun h6 => ?_) (fun h6 => ?_)
  · skip
    refine vc_seq ?_
    refine vc_region ?_
    refine vl_det (det_assign rfl) rfl ?_
    refine vl_end [(2, _)] ⟨rfl, trivial⟩ ?_
    refine then_next ?_
    refine vc_ret ?_
    refine then_ret ?_
    refine ret1 rfl rfl ?_
    exact ⟨by rw [decide_eq_false (fun h => by have := h.2; omega)], rfl⟩
  · skip
    refine vc_skip ?_
    refine then_next ?_
    refine vc_seq ?_
    refine vc_seq ?_
    refine vc_region ?_
    refine vl_det (det_assign rfl) rfl ?_
    refine vl_end [(0, _), (3, _)] ⟨rfl, rfl, trivial⟩ ?_
    refine then_next ?_
    refine vc_block ?_
    refine vc_loopJ (fun zf zL zm => ∃ (k : Nat), (k ≤ l.length ∧ ∀ i, i < k → mayT (prvT l i) (l.getD i [])) ∧ l.length - k = zm ∧ Sub zf [(0, .slice A l.length c), (3, .int .i64 k)] ∧ Wk zL (F)) _ ⟨0, ⟨Nat.zero_le _, fun i h => absurd h (by omega)⟩, rfl, ⟨(by first | rfl | exact int_to (by omega) | exact sl_to (by omega)), (by first | rfl | exact int_to (by omega) | exact sl_to (by omega)), trivial⟩, .refl _⟩ ?_
    rintro _ _ _ ⟨k, ⟨hk, hm⟩, rfl, hs, hp⟩
    refine vc_weaken _ hs (vc_wk hp ?_)
    clear hs hp
    refine vc_seq ?_
    refine vc_seq ?_
    refine vc_region ?_
    refine vl_det (det_move rfl) rfl ?_
    refine vl_det (det_move rfl) rfl ?_
    refine vl_det (det_len_sl Try.underlying26 rfl) rfl ?_
    refine vl_det (det_lss rfl rfl) rfl ?_
    refine vl_end [(0, _), (3, _), (10, _)] ⟨rfl, rfl, rfl, trivial⟩ ?_
    refine then_next ?_
    refine vc_decideU rfl (fun h10 => ?_) (fun h10 => ?_)
    · skip
      refine vc_skip ?_
      refine then_next ?_
      refine vc_seq ?_
      refine vc_block ?_
      refine vc_seq ?_
      refine vq_region (by kernel_rfl) (by kernel_rfl) ?_
      refine vq_cut 30 42 [(0, _), (3, _)] (¬ mayT (prvT l k) (l.getD k [])) ⟨rfl, rfl, trivial⟩ ?_ ?_
      · skip
        refine vq_det (det_move rfl) rfl ?_
        refine vq_det (det_move rfl) rfl ?_
        refine vq_det (det_indexAddr (size := 1) Try.underlying26 (by kernel_rfl) rfl rfl rfl (by omega) (by first | (exact Bor.own (by repeat (first | exact List.Mem.head _ | apply List.Mem.tail))) | (repeat (first | assumption | apply Bor.cons)))) rfl ?_
        refine vq_det (det_load_str (by kernel_rfl) rfl (by first | (exact Bor.own (by repeat (first | exact List.Mem.head _ | apply List.Mem.tail))) | (repeat (first | assumption | apply Bor.cons))) (by omega)) rfl ?_
        refine vq_det (det_len_s Try.underlying9 rfl) rfl ?_
        refine vq_det (det_lss rfl rfl) rfl ?_
        refine vq_det (det_move rfl) rfl ?_
        refine vq_guardn rfl rfl rfl (fun h19 => ?_) (fun h19 => ?_)
        · skip
          refine vq_det (det_move rfl) rfl ?_
          refine vq_guard_t rfl rfl ?_
          refine vq_det (det_move rfl) rfl ?_
          refine vq_guard_t rfl rfl ?_
          refine vq_det (det_indexAddr (size := 1) Try.underlying26 (by kernel_rfl) rfl rfl rfl (by omega) (by first | (exact Bor.own (by repeat (first | exact List.Mem.head _ | apply List.Mem.tail))) | (repeat (first | assumption | apply Bor.cons)))) rfl ?_
          refine vq_guard_t rfl rfl ?_
          refine vq_det (det_load_str (by kernel_rfl) rfl (by first | (exact Bor.own (by repeat (first | exact List.Mem.head _ | apply List.Mem.tail))) | (repeat (first | assumption | apply Bor.cons))) (by omega)) rfl ?_
          refine vq_guard_t rfl rfl ?_
          refine vq_det (det_len_s Try.underlying9 rfl) rfl ?_
          refine vq_guard_t rfl rfl ?_
          refine vq_det (det_gtr rfl rfl) rfl ?_
          refine vq_det (det_pick_f rfl rfl) rfl ?_
          refine vq_det (det_move rfl) rfl ?_
          refine vq_guardn rfl rfl rfl (fun h27 => ?_) (fun h27 => ?_)
          · skip
            refine vq_det (det_move rfl) rfl ?_
            refine vq_guard_t rfl rfl ?_
            refine vq_det (det_gtr rfl rfl) rfl ?_
            refine vq_guard_t rfl rfl ?_
            refine vq_det (det_move rfl) rfl ?_
            refine vq_guardp rfl rfl rfl (fun h30 => ?_) (fun h30 => ?_)
            · skip
              refine vq_det (det_move rfl) rfl ?_
              refine vq_guard_t rfl rfl ?_
              refine vq_det (det_move rfl) rfl ?_
              refine vq_guard_t rfl rfl ?_
              refine vq_det (det_indexAddr (size := 1) Try.underlying26 (by kernel_rfl) rfl rfl rfl (by omega) (by first | (exact Bor.own (by repeat (first | exact List.Mem.head _ | apply List.Mem.tail))) | (repeat (first | assumption | apply Bor.cons)))) rfl ?_
              refine vq_guard_t rfl rfl ?_
              refine vq_det (det_load_str (by kernel_rfl) rfl (by first | (exact Bor.own (by repeat (first | exact List.Mem.head _ | apply List.Mem.tail))) | (repeat (first | assumption | apply Bor.cons))) (by omega)) rfl ?_
              refine vq_guard_t rfl rfl ?_
              refine vq_det (det_move rfl) rfl ?_
              refine vq_guard_t rfl rfl ?_
              refine vq_det (det_move rfl) rfl ?_
              refine vq_guard_t rfl rfl ?_
              refine vq_det (det_sub rfl rfl (w_i64 (by omega) (by omega))) rfl ?_
              refine vq_guard_t rfl rfl ?_
              refine vq_det (det_indexAddr (i := k - 1) (size := 1) Try.underlying26 (by kernel_rfl) rfl rfl (by omega) (by omega) (by first | (exact Bor.own (by repeat (first | exact List.Mem.head _ | apply List.Mem.tail))) | (repeat (first | assumption | apply Bor.cons)))) rfl ?_
              refine vq_guard_t rfl rfl ?_
              refine vq_det (det_load_str (b := l) (j := k - 1) (by kernel_rfl) rfl (by first | (exact Bor.own (by repeat (first | exact List.Mem.head _ | apply List.Mem.tail))) | (repeat (first | assumption | apply Bor.cons))) (by omega)) rfl ?_
              refine vq_guard_t rfl rfl ?_
              refine vq_det (det_s_leqD rfl rfl) rfl ?_
              refine vq_guard_t rfl rfl ?_
              refine vq_det (det_pick_t rfl rfl) rfl ?_
              refine vq_det (det_pick_f rfl rfl) rfl ?_
              exact vq_cut_end ⟨rfl, rfl, trivial⟩ (by first | rfl | exact bool_to_t (by first | exact fun h => h.1 (List.length_eq_zero_iff.1 (by omega)) | exact fun h => absurd h.2.1 (by omega) | exact fun h => h (may0 (by omega) (by omega) (by omega)) | exact may1 (by omega) (by omega) (by omega)) | exact bool_to_f (by first | exact fun h => h.1 (List.length_eq_zero_iff.1 (by omega)) | exact fun h => absurd h.2.1 (by omega) | exact fun h => h (may0 (by omega) (by omega) (by omega)) | exact may1 (by omega) (by omega) (by omega)) | exact bool_to (by first | exact fun h => h.1 (List.length_eq_zero_iff.1 (by omega)) | exact fun h => absurd h.2.1 (by omega) | exact fun h => h (may0 (by omega) (by omega) (by omega)) | exact may1 (by omega) (by omega) (by omega)) | exact bool_to_b (by first | exact fun h => h.1 (List.length_eq_zero_iff.1 (by omega)) | exact fun h => absurd h.2.1 (by omega) | exact fun h => h (may0 (by omega) (by omega) (by omega)) | exact may1 (by omega) (by omega) (by omega)))
            · skip
              refine vq_guard_f rfl rfl rfl rfl ?_
              refine vq_guard_f rfl rfl rfl rfl ?_
              refine vq_guard_f rfl rfl rfl rfl ?_
              refine vq_guard_f rfl rfl rfl rfl ?_
              refine vq_guard_f rfl rfl rfl rfl ?_
              refine vq_guard_f rfl rfl rfl rfl ?_
              refine vq_guard_f rfl rfl rfl rfl ?_
              refine vq_guard_f rfl rfl rfl rfl ?_
              refine vq_guard_f rfl rfl rfl rfl ?_
              refine vq_guard_t rfl rfl ?_
              refine vq_det (det_pick_f rfl rfl) rfl ?_
              refine vq_det (det_pick_f rfl rfl) rfl ?_
              exact vq_cut_end ⟨rfl, rfl, trivial⟩ (by first | rfl | exact bool_to_t (by first | exact fun h => h.1 (List.length_eq_zero_iff.1 (by omega)) | exact fun h => absurd h.2.1 (by omega) | exact fun h => h (may0 (by omega) (by omega) (by omega)) | exact may1 (by omega) (by omega) (by omega)) | exact bool_to_f (by first | exact fun h => h.1 (List.length_eq_zero_iff.1 (by omega)) | exact fun h => absurd h.2.1 (by omega) | exact fun h => h (may0 (by omega) (by omega) (by omega)) | exact may1 (by omega) (by omega) (by omega)) | exact bool_to (by first | exact fun h => h.1 (List.length_eq_zero_iff.1 (by omega)) | exact fun h => absurd h.2.1 (by omega) | exact fun h => h (may0 (by omega) (by omega) (by omega)) | exact may1 (by omega) (by omega) (by omega)) | exact bool_to_b (by first | exact fun h => h.1 (List.length_eq_zero_iff.1 (by omega)) | exact fun h => absurd h.2.1 (by omega) | exact fun h => h (may0 (by omega) (by omega) (by omega)) | exact may1 (by omega) (by omega) (by omega)))
          · skip
            refine vq_guard_f rfl rfl rfl rfl ?_
            refine vq_guard_f rfl rfl rfl rfl ?_
            refine vq_guard_u rfl rfl rfl ?_
            refine vq_guard_u rfl rfl rfl ?_
            refine vq_guard_u rfl rfl rfl ?_
            refine vq_guard_u rfl rfl rfl ?_
            refine vq_guard_u rfl rfl rfl ?_
            refine vq_guard_u rfl rfl rfl ?_
            refine vq_guard_u rfl rfl rfl ?_
            refine vq_guard_u rfl rfl rfl ?_
            refine vq_guard_u rfl rfl rfl ?_
            refine vq_guard_u rfl rfl rfl ?_
            refine vq_guard_f rfl rfl rfl rfl ?_
            refine vq_det (det_pick_t rfl rfl) rfl ?_
            exact vq_cut_end ⟨rfl, rfl, trivial⟩ (by first | rfl | exact bool_to_t (by first | exact fun h => h.1 (List.length_eq_zero_iff.1 (by omega)) | exact fun h => absurd h.2.1 (by omega) | exact fun h => h (may0 (by omega) (by omega) (by omega)) | exact may1 (by omega) (by omega) (by omega)) | exact bool_to_f (by first | exact fun h => h.1 (List.length_eq_zero_iff.1 (by omega)) | exact fun h => absurd h.2.1 (by omega) | exact fun h => h (may0 (by omega) (by omega) (by omega)) | exact may1 (by omega) (by omega) (by omega)) | exact bool_to (by first | exact fun h => h.1 (List.length_eq_zero_iff.1 (by omega)) | exact fun h => absurd h.2.1 (by omega) | exact fun h => h (may0 (by omega) (by omega) (by omega)) | exact may1 (by omega) (by omega) (by omega)) | exact bool_to_b (by first | exact fun h => h.1 (List.length_eq_zero_iff.1 (by omega)) | exact fun h => absurd h.2.1 (by omega) | exact fun h => h (may0 (by omega) (by omega) (by omega)) | exact may1 (by omega) (by omega) (by omega)))
        · skip
          refine vq_guard_f rfl rfl rfl rfl ?_
          refine vq_guard_f rfl rfl rfl rfl ?_
          refine vq_guard_f rfl rfl rfl rfl ?_
          refine vq_guard_f rfl rfl rfl rfl ?_
          refine vq_guard_f rfl rfl rfl rfl ?_
          refine vq_det (det_pick_t rfl rfl) rfl ?_
          refine vq_det (det_move rfl) rfl ?_
          refine vq_guard_f rfl rfl rfl rfl ?_
          refine vq_guard_f rfl rfl rfl rfl ?_
          refine vq_guard_f rfl rfl rfl rfl ?_
          refine vq_guard_u rfl rfl rfl ?_
          refine vq_guard_u rfl rfl rfl ?_
          refine vq_guard_u rfl rfl rfl ?_
          refine vq_guard_u rfl rfl rfl ?_
          refine vq_guard_u rfl rfl rfl ?_
          refine vq_guard_u rfl rfl rfl ?_
          refine vq_guard_u rfl rfl rfl ?_
          refine vq_guard_u rfl rfl rfl ?_
          refine vq_guard_u rfl rfl rfl ?_
          refine vq_guard_u rfl rfl rfl ?_
          refine vq_guard_f rfl rfl rfl rfl ?_
          refine vq_det (det_pick_t rfl rfl) rfl ?_
          exact vq_cut_end ⟨rfl, rfl, trivial⟩ (by first | rfl | exact bool_to_t (by first | exact fun h => h.1 (List.length_eq_zero_iff.1 (by omega)) | exact fun h => absurd h.2.1 (by omega) | exact fun h => h (may0 (by omega) (by omega) (by omega)) | exact may1 (by omega) (by omega) (by omega)) | exact bool_to_f (by first | exact fun h => h.1 (List.length_eq_zero_iff.1 (by omega)) | exact fun h => absurd h.2.1 (by omega) | exact fun h => h (may0 (by omega) (by omega) (by omega)) | exact may1 (by omega) (by omega) (by omega)) | exact bool_to (by first | exact fun h => h.1 (List.length_eq_zero_iff.1 (by omega)) | exact fun h => absurd h.2.1 (by omega) | exact fun h => h (may0 (by omega) (by omega) (by omega)) | exact may1 (by omega) (by omega) (by omega)) | exact bool_to_b (by first | exact fun h => h.1 (List.length_eq_zero_iff.1 (by omega)) | exact fun h => absurd h.2.1 (by omega) | exact fun h => h (may0 (by omega) (by omega) (by omega)) | exact may1 (by omega) (by omega) (by omega)))
      · skip
        refine vq_end [(0, _), (3, _), (42, _)] ⟨rfl, rfl, rfl, trivial⟩ ?_
        refine then_next ?_
        refine vc_decideU rfl (fun h42 => ?_) (fun h42 => ?_)
        · skip
          refine vc_seq ?_
          refine vc_region ?_
          refine vl_det (det_assign rfl) rfl ?_
          refine vl_end [(2, _)] ⟨rfl, trivial⟩ ?_
          refine then_next ?_
          refine vc_ret ?_
          refine in_ret ?_
          refine then_ret ?_
          refine loop_ret ?_
          refine in_ret ?_
          refine then_ret ?_
          refine ret1 rfl rfl ?_
          exact ⟨by rw [decide_eq_false (fun h => h42 (h.1 k (by omega)))], rfl⟩
        · skip
          refine vc_skip ?_
          refine in_normal ?_
          refine then_next ?_
          refine vc_region ?_
          refine vl_det (det_move rfl) rfl ?_
          refine vl_det (det_add rfl rfl (w_i64 (by omega) (by omega))) rfl ?_
          refine vl_det (det_assign rfl) rfl ?_
          refine vl_end [(0, _), (3, _)] ⟨rfl, rfl, trivial⟩ ?_
          refine in_loop_ ⟨_, by omega, k + 1, ⟨by omega, fun i hi => by
            by_cases e : i = k
            · rw [e]; exact Classical.not_not.1 h42
            · exact hm i (by omega)⟩, rfl, ⟨(by first | rfl | exact int_to (by omega) | exact sl_to (by omega)), (by first | rfl | exact int_to (by omega) | exact sl_to (by omega)), trivial⟩, .refl _⟩
    · skip
      refine vc_exit ?_
      refine then_exit ?_
      refine loop_exit ?_
      refine in_eq ?_
      refine then_next ?_
      refine vc_seq ?_
      refine vc_region ?_
      refine vl_det (det_assign rfl) rfl ?_
      refine vl_end [(2, _)] ⟨rfl, trivial⟩ ?_
      refine then_next ?_
      refine vc_ret ?_
      refine ret1 rfl rfl ?_
      have e : k = l.length := by omega
      subst e
      exact ⟨by rw [decide_eq_true ⟨hm, by omega⟩], rfl⟩
end Go.Proofs.Ytpamjobiohbibaa
namespace Go.Proofs.Ytpamjobiohbibaa
open Go.RowKit
set_option linter.unusedVariables false
set_option maxRecDepth 20000
variable {B : Nat} {w0 : World} {F : List Ch} {A A1 A2 : Option Addr} {n c c1 c2 g : Nat}
theorem rdwrite_bad {size : Int} {l : List Txt} (hb : Bor B w0 F 1 (.slice A l.length c) l.length (strs l)) (hl : l.length ≤ 1000000000000000) (hE : size < 1 ∨ 64 < size ∨ ¬ RisT l) :
    Does Try.prog B w0 41 [.int .i64 size, .slice A l.length c] F (fun r L => ∃ A' c', r = .tuple #[.slice A' 0 c', .int .i64 13] ∧ L = .own 5 1 A' 0 c' [] :: F) := by
  refine fn_walk Try.func41 90 rfl rfl rfl [(0, .int .i64 size), (1, .slice A l.length c)] ⟨⟨rfl, rfl⟩, ⟨rfl, rfl⟩, trivial⟩ ?_
  refine vc_seq ?_
  refine vc_region ?_
  refine vl_det (det_assign rfl) rfl ?_
  refine vl_det (det_assign rfl) rfl ?_
  refine vl_end [(0, _), (1, _)] ⟨rfl, rfl, trivial⟩ ?_
  refine then_next ?_
  refine vc_seq ?_
  refine vc_seq ?_
  refine vc_region ?_
  refine vl_cut 11 22 [(0, _), (1, _)] (size < 1 ∨ 64 < size ∨ ¬ RisT l) ⟨rfl, rfl, trivial⟩ ?_ ?_
  · skip
    refine vl_det (det_move rfl) rfl ?_
    refine vl_det (det_lss rfl rfl) rfl ?_
    refine vl_det (det_move rfl) rfl ?_
    refine vl_guardn rfl rfl rfl (fun h14 => ?_) (fun h14 => ?_)
    · skip
      refine vl_det (det_move rfl) rfl ?_
      refine vl_guard_t rfl rfl ?_
      refine vl_det (det_gtr rfl rfl) rfl ?_
      refine vl_det (det_pick_f rfl rfl) rfl ?_
      refine vl_det (det_move rfl) rfl ?_
      refine vl_guardn rfl rfl rfl (fun h18 => ?_) (fun h18 => ?_)
      · skip
        refine vl_det (det_move rfl) rfl ?_
        refine vl_guard_t rfl rfl ?_
        refine vl_call co43 rfl (rmayT_d hb hl) rfl ?_
        rintro _ _ ⟨rfl, hLL⟩
        obtain rfl := hLL.symm
        refine vl_guard_t rfl rfl ?_
        refine vl_det (det_notd rfl) rfl ?_
        refine vl_det (det_pick_f rfl rfl) rfl ?_
        exact vl_cut_end ⟨rfl, rfl, trivial⟩ (by first | rfl | exact bool_to_t (by first | exact .inl (by omega) | exact .inr (.inl (by omega)) | exact ⟨fun h => .inr (.inr h), fun h => by rcases h with h | h | h <;> first | omega | exact h⟩) | exact bool_to_f (by first | exact .inl (by omega) | exact .inr (.inl (by omega)) | exact ⟨fun h => .inr (.inr h), fun h => by rcases h with h | h | h <;> first | omega | exact h⟩) | exact bool_to (by first | exact .inl (by omega) | exact .inr (.inl (by omega)) | exact ⟨fun h => .inr (.inr h), fun h => by rcases h with h | h | h <;> first | omega | exact h⟩) | exact bool_to_b (by first | exact .inl (by omega) | exact .inr (.inl (by omega)) | exact ⟨fun h => .inr (.inr h), fun h => by rcases h with h | h | h <;> first | omega | exact h⟩))
      · skip
        refine vl_guard_f rfl rfl rfl rfl ?_
        refine vl_guard_f rfl rfl rfl rfl ?_
        refine vl_det (det_pick_t rfl rfl) rfl ?_
        exact vl_cut_end ⟨rfl, rfl, trivial⟩ (by first | rfl | exact bool_to_t (by first | exact .inl (by omega) | exact .inr (.inl (by omega)) | exact ⟨fun h => .inr (.inr h), fun h => by rcases h with h | h | h <;> first | omega | exact h⟩) | exact bool_to_f (by first | exact .inl (by omega) | exact .inr (.inl (by omega)) | exact ⟨fun h => .inr (.inr h), fun h => by rcases h with h | h | h <;> first | omega | exact h⟩) | exact bool_to (by first | exact .inl (by omega) | exact .inr (.inl (by omega)) | exact ⟨fun h => .inr (.inr h), fun h => by rcases h with h | h | h <;> first | omega | exact h⟩) | exact bool_to_b (by first | exact .inl (by omega) | exact .inr (.inl (by omega)) | exact ⟨fun h => .inr (.inr h), fun h => by rcases h with h | h | h <;> first | omega | exact h⟩))
    · skip
      refine vl_guard_f rfl rfl rfl rfl ?_
      refine vl_det (det_pick_t rfl rfl) rfl ?_
      refine vl_det (det_move rfl) rfl ?_
      refine vl_guard_f rfl rfl rfl rfl ?_
      refine vl_guard_f rfl rfl rfl rfl ?_
      refine vl_guard_f rfl rfl rfl rfl ?_
      refine vl_det (det_pick_t rfl rfl) rfl ?_
      exact vl_cut_end ⟨rfl, rfl, trivial⟩ (by first | rfl | exact bool_to_t (by first | exact .inl (by omega) | exact .inr (.inl (by omega)) | exact ⟨fun h => .inr (.inr h), fun h => by rcases h with h | h | h <;> first | omega | exact h⟩) | exact bool_to_f (by first | exact .inl (by omega) | exact .inr (.inl (by omega)) | exact ⟨fun h => .inr (.inr h), fun h => by rcases h with h | h | h <;> first | omega | exact h⟩) | exact bool_to (by first | exact .inl (by omega) | exact .inr (.inl (by omega)) | exact ⟨fun h => .inr (.inr h), fun h => by rcases h with h | h | h <;> first | omega | exact h⟩) | exact bool_to_b (by first | exact .inl (by omega) | exact .inr (.inl (by omega)) | exact ⟨fun h => .inr (.inr h), fun h => by rcases h with h | h | h <;> first | omega | exact h⟩))
  · skip
    refine vl_end [(0, _), (1, _), (22, _)] ⟨rfl, rfl, rfl, trivial⟩ ?_
    refine then_next ?_
    refine vc_decideU rfl (fun h22 => ?_) (fun h22 => ?_)
    · skip
      refine vc_seq ?_
      refine vc_region ?_
      refine vl_det (det_assign rfl) rfl ?_
      refine vl_det (det_assign rfl) rfl ?_
      refine vl_end [(4, _), (5, _)] ⟨rfl, rfl, trivial⟩ ?_
      refine then_next ?_
      refine vc_ret ?_
      refine then_ret ?_
      refine ret_nil_row 5 1 none ?_
      refine ret2 rfl rfl rfl ?_
      exact ⟨none, 0, rfl, rfl⟩
    · skip
      exfalso; exact h22 hE
theorem ck_get {l : List Txt} {sz i j : Nat} (h : j < (ck l sz i).length) : (ck l sz i).getD j [] = l.getD (i * sz + j) [] := by
  rw [ck_len] at h
  unfold chE at h
  unfold ck
  rw [List.getD_eq_getElem?_getD, List.getD_eq_getElem?_getD, List.getElem?_take, if_pos (by omega), List.getElem?_drop]
theorem rdwrite_ok {sz : Nat} {l : List Txt} (hb : Bor B w0 F 1 (.slice A l.length c) l.length (strs l)) (hs1 : 1 ≤ sz) (hs2 : sz ≤ 64) (hR : RisT l) :
    Does Try.prog B w0 41 [.int .i64 sz, .slice A l.length c] F (fun r L => ∃ A' c', r = .tuple #[.slice A' (dictB sz l).length c', .int .i64 0] ∧ L = .own 5 1 A' (dictB sz l).length c' (bv (dictB sz l)) :: F) := by
  have hlen := hR.2
  have h25 := hR.le
  have hnl : (encN l.length).length ≤ 10 := encN_len10 (by omega)
  have hNl : chN sz l.length ≤ 1048639 := by
    unfold chN
    exact Nat.le_trans (Nat.div_le_self _ _) (by omega)
  have e0 : (encN l.length ++ headT l sz (List.range 0)).length = (encN l.length).length := by simp [headT]
  refine fn_walk Try.func41 90 rfl rfl rfl [(0, .int .i64 sz), (1, .slice A l.length c)] ⟨⟨rfl, rfl⟩, ⟨rfl, rfl⟩, trivial⟩ ?_
  refine vc_seq ?_
  refine vc_region ?_
  refine vl_det (det_assign rfl) rfl ?_
  refine vl_det (det_assign rfl) rfl ?_
  refine vl_end [(0, _), (1, _)] ⟨rfl, rfl, trivial⟩ ?_
  refine then_next ?_
  refine vc_seq ?_
  refine vc_seq ?_
  refine vc_region ?_
  refine vl_cut 11 22 [(0, _), (1, _)] ((sz : Int) < 1 ∨ 64 < (sz : Int) ∨ ¬ RisT l) ⟨rfl, rfl, trivial⟩ ?_ ?_
  · skip
    refine vl_det (det_move rfl) rfl ?_
    refine vl_det (det_lss rfl rfl) rfl ?_
    refine vl_det (det_move rfl) rfl ?_
    refine vl_guardn rfl rfl rfl (fun h14 => ?_) (fun h14 => ?_)
    · skip
      refine vl_det (det_move rfl) rfl ?_
      refine vl_guard_t rfl rfl ?_
      refine vl_det (det_gtr rfl rfl) rfl ?_
      refine vl_det (det_pick_f rfl rfl) rfl ?_
      refine vl_det (det_move rfl) rfl ?_
      refine vl_guardn rfl rfl rfl (fun h18 => ?_) (fun h18 => ?_)
      · skip
        refine vl_det (det_move rfl) rfl ?_
        refine vl_guard_t rfl rfl ?_
        refine vl_call co43 rfl (rmayT_d hb (by omega)) rfl ?_
        rintro _ _ ⟨rfl, hLL⟩
        obtain rfl := hLL.symm
        refine vl_guard_t rfl rfl ?_
        refine vl_det (det_notd rfl) rfl ?_
        refine vl_det (det_pick_f rfl rfl) rfl ?_
        exact vl_cut_end ⟨rfl, rfl, trivial⟩ (by first | rfl | exact bool_to_t (by first | exact .inl (by omega) | exact .inr (.inl (by omega)) | exact ⟨fun h => .inr (.inr h), fun h => by rcases h with h | h | h <;> first | omega | exact h⟩) | exact bool_to_f (by first | exact .inl (by omega) | exact .inr (.inl (by omega)) | exact ⟨fun h => .inr (.inr h), fun h => by rcases h with h | h | h <;> first | omega | exact h⟩) | exact bool_to (by first | exact .inl (by omega) | exact .inr (.inl (by omega)) | exact ⟨fun h => .inr (.inr h), fun h => by rcases h with h | h | h <;> first | omega | exact h⟩) | exact bool_to_b (by first | exact .inl (by omega) | exact .inr (.inl (by omega)) | exact ⟨fun h => .inr (.inr h), fun h => by rcases h with h | h | h <;> first | omega | exact h⟩))
      · skip
        refine vl_guard_f rfl rfl rfl rfl ?_
        refine vl_guard_f rfl rfl rfl rfl ?_
        refine vl_det (det_pick_t rfl rfl) rfl ?_
        exact vl_cut_end ⟨rfl, rfl, trivial⟩ (by first | rfl | exact bool_to_t (by first | exact .inl (by omega) | exact .inr (.inl (by omega)) | exact ⟨fun h => .inr (.inr h), fun h => by rcases h with h | h | h <;> first | omega | exact h⟩) | exact bool_to_f (by first | exact .inl (by omega) | exact .inr (.inl (by omega)) | exact ⟨fun h => .inr (.inr h), fun h => by rcases h with h | h | h <;> first | omega | exact h⟩) | exact bool_to (by first | exact .inl (by omega) | exact .inr (.inl (by omega)) | exact ⟨fun h => .inr (.inr h), fun h => by rcases h with h | h | h <;> first | omega | exact h⟩) | exact bool_to_b (by first | exact .inl (by omega) | exact .inr (.inl (by omega)) | exact ⟨fun h => .inr (.inr h), fun h => by rcases h with h | h | h <;> first | omega | exact h⟩))
    · skip
      refine vl_guard_f rfl rfl rfl rfl ?_
      refine vl_det (det_pick_t rfl rfl) rfl ?_
      refine vl_det (det_move rfl) rfl ?_
      refine vl_guard_f rfl rfl rfl rfl ?_
      refine vl_guard_f rfl rfl rfl rfl ?_
      refine vl_guard_f rfl rfl rfl rfl ?_
      refine vl_det (det_pick_t rfl rfl) rfl ?_
      exact vl_cut_end ⟨rfl, rfl, trivial⟩ (by first | rfl | exact bool_to_t (by first | exact .inl (by omega) | exact .inr (.inl (by omega)) | exact ⟨fun h => .inr (.inr h), fun h => by rcases h with h | h | h <;> first | omega | exact h⟩) | exact bool_to_f (by first | exact .inl (by omega) | exact .inr (.inl (by omega)) | exact ⟨fun h => .inr (.inr h), fun h => by rcases h with h | h | h <;> first | omega | exact h⟩) | exact bool_to (by first | exact .inl (by omega) | exact .inr (.inl (by omega)) | exact ⟨fun h => .inr (.inr h), fun h => by rcases h with h | h | h <;> first | omega | exact h⟩) | exact bool_to_b (by first | exact .inl (by omega) | exact .inr (.inl (by omega)) | exact ⟨fun h => .inr (.inr h), fun h => by rcases h with h | h | h <;> first | omega | exact h⟩))
  · skip
    refine vl_end [(0, _), (1, _), (22, _)] ⟨rfl, rfl, rfl, trivial⟩ ?_
    refine then_next ?_
    refine vc_decideU rfl (fun h22 => ?_) (fun h22 => ?_)
    · skip
      exfalso; rcases h22 with h | h | h <;> first | omega | exact h hR
    · skip
      refine vc_skip ?_
      refine then_next ?_
      refine vc_seq ?_
      refine vc_region ?_
      refine vl_det (det_move rfl) rfl ?_
      refine vl_det (det_len_sl Try.underlying26 rfl) rfl ?_
      refine vl_det (det_conv Try.underlying3 Try.underlying33 rfl (w_u64 (by omega) (by omega))) rfl ?_
      refine vl_call co72 rfl (rnum_d l.length (by omega)) rfl ?_
      rintro _ _ ⟨A26, c26, rfl, hLL⟩
      obtain rfl := hLL.symm
      refine vl_det (det_assign rfl) rfl ?_
      refine vl_end [(0, _), (1, _), (6, _)] ⟨rfl, rfl, rfl, trivial⟩ ?_
      refine then_next ?_
      refine vc_seq ?_
      refine vc_nil_row 5 1 none ?_
      refine vc_region ?_
      refine vl_det (det_assign rfl) rfl ?_
      refine vl_end [(0, _), (1, _), (6, _), (7, _)] ⟨rfl, rfl, rfl, rfl, trivial⟩ ?_
      refine then_next ?_
      refine vc_seq ?_
      refine vc_seq ?_
      refine vc_region ?_
      refine vl_det (det_assign rfl) rfl ?_
      refine vl_end [(0, _), (1, _), (6, _), (7, _), (8, _)] ⟨rfl, rfl, rfl, rfl, rfl, trivial⟩ ?_
      refine then_next ?_
      refine vc_block ?_
      refine vc_loopJ (fun zf zL zm => ∃ (i q : Nat) (A6 A7 : Option Addr) (c6 c7 : Nat), (i ≤ chN sz l.length ∧ q = i * sz) ∧ chN sz l.length - i = zm ∧ Sub zf [(0, .int .i64 sz), (1, .slice A l.length c), (6, .slice A6 (encN l.length ++ headT l sz (List.range i)).length c6), (7, .slice A7 (bodyT l sz (List.range i)).length c7), (8, .int .i64 (q : Nat))] ∧ Wk zL (.own 5 1 A7 (bodyT l sz (List.range i)).length c7 (bv (bodyT l sz (List.range i))) :: .own 5 1 A6 (encN l.length ++ headT l sz (List.range i)).length c6 (bv (encN l.length ++ headT l sz (List.range i))) :: F)) _ ⟨0, 0, A26, none, c26, 0, ⟨Nat.zero_le _, (Nat.zero_mul _).symm⟩, rfl, ⟨(by first | rfl | exact int_to (by omega) | exact sl_to (by omega)), (by first | rfl | exact int_to (by omega) | exact sl_to (by omega)), (by first | rfl | exact int_to (by omega) | exact sl_to (by omega)), (by first | rfl | exact int_to (by omega) | exact sl_to (by omega)), (by first | rfl | exact int_to (by omega) | exact sl_to (by omega)), trivial⟩, wk_own rfl rfl (wk_own (by simp [headT]) (by simp [headT]) (.refl _))⟩ ?_
      rintro _ _ _ ⟨i, q, A6, A7, c6, c7, ⟨hi, hq⟩, rfl, hs, hp⟩
      refine vc_weaken _ hs (vc_wk hp ?_)
      clear hs hp
      refine vc_seq ?_
      refine vc_seq ?_
      refine vc_region ?_
      refine vl_det (det_move rfl) rfl ?_
      refine vl_det (det_move rfl) rfl ?_
      refine vl_det (det_len_sl Try.underlying26 rfl) rfl ?_
      refine vl_det (det_lss rfl rfl) rfl ?_
      refine vl_end [(0, _), (1, _), (6, _), (7, _), (8, _), (30, _)] ⟨rfl, rfl, rfl, rfl, rfl, rfl, trivial⟩ ?_
      refine then_next ?_
      refine vc_decideU rfl (fun h30 => ?_) (fun h30 => ?_)
      · skip
        have hin : i * sz < l.length := by omega
        have hiN := (chN_lt hs1).2 hin
        have hB1 := bodyT_len hs2 h25 (List.range i)
        have hH1 := headT_len hs2 h25 (List.range i)
        rw [List.length_range] at hB1 hH1
        have hX := ck_len l sz i
        have hget := @ck_get l sz i
        have h25X : ∀ s ∈ ck l sz i, s.length ≤ 25 := fun s hs => h25 s (ck_mem hs)
        have hsB := bodyT_snoc l sz (List.range i) i
        have hsH := headT_snoc l sz (List.range i) i
        rw [← List.range_succ] at hsB hsH
        have hss : (i + 1) * sz = i * sz + sz := Nat.succ_mul i sz
        unfold chE at hX
        have hbl := bucketT_len (l := ck l sz i) (by omega) h25X
        have hln : (encN l.length ++ headT l sz (List.range i)).length = (encN l.length).length + (headT l sz (List.range i)).length := List.length_append
        have hi10 : i * 10 ≤ 1048639 * 10 := Nat.mul_le_mul_right _ (by omega)
        have hi30 : i * 3000 ≤ 1048639 * 3000 := Nat.mul_le_mul_right _ (by omega)
        obtain ⟨t, r, htr⟩ : ∃ t r, ck l sz i = t :: r := by
          cases h : ck l sz i with
          | nil => rw [h] at hX; simp at hX; omega
          | cons t r => exact ⟨t, r, rfl⟩
        rw [htr] at hX hget h25X hsB hsH hbl
        have ht0 : l.getD (i * sz) [] = t := by have := hget (j := 0) (by simp); simpa using this.symm
        have ht25 := h25X t (by simp)
        have eT : (encT t ++ tailT t (r.take 0)).length = (encT t).length := by simp [tailT]
        rw [List.length_cons] at hX
        clear htr
        rw [← hq] at hin hX hget hss ht0
        refine vc_skip ?_
        refine then_next ?_
        refine vc_seq ?_
        refine vc_block ?_
        refine vc_seq ?_
        refine vc_region ?_
        refine vl_det (det_move rfl) rfl ?_
        refine vl_det (det_move rfl) rfl ?_
        refine vl_det (det_indexAddr (i := q) (size := 1) Try.underlying26 (by kernel_rfl) rfl rfl rfl (by omega) (by first | (exact Bor.own (by repeat (first | exact List.Mem.head _ | apply List.Mem.tail))) | (repeat (first | assumption | apply Bor.cons)))) rfl ?_
        refine vl_det (det_load_str (b := l) (by kernel_rfl) rfl (by first | (exact Bor.own (by repeat (first | exact List.Mem.head _ | apply List.Mem.tail))) | (repeat (first | assumption | apply Bor.cons))) (by omega)) rfl ?_
        rw [ht0]
        refine vl_call co73 rfl (rtext_d t (by omega)) rfl ?_
        rintro _ _ ⟨A38, c38, rfl, hLL⟩
        obtain rfl := hLL.symm
        refine vl_det (det_assign rfl) rfl ?_
        refine vl_end [(0, _), (1, _), (6, _), (7, _), (8, _), (9, _)] ⟨rfl, rfl, rfl, rfl, rfl, rfl, trivial⟩ ?_
        refine then_next ?_
        refine vc_seq ?_
        refine vc_seq ?_
        refine vc_region ?_
        refine vl_det (det_move rfl) rfl ?_
        refine vl_det (det_add rfl rfl (w_i64 (by omega) (by omega))) rfl ?_
        refine vl_det (det_assign rfl) rfl ?_
        refine vl_end [(0, _), (1, _), (6, _), (7, _), (8, _), (9, _), (10, _)] ⟨rfl, rfl, rfl, rfl, rfl, rfl, rfl, trivial⟩ ?_
        refine then_next ?_
        refine vc_block ?_
        refine vc_loopJ (fun zf zL zm => ∃ (j : Nat) (A9 : Option Addr) (c9 : Nat), (j ≤ r.length) ∧ r.length - j = zm ∧ Sub zf [(0, .int .i64 sz), (1, .slice A l.length c), (6, .slice A6 (encN l.length ++ headT l sz (List.range i)).length c6), (7, .slice A7 (bodyT l sz (List.range i)).length c7), (8, .int .i64 (q : Nat)), (9, .slice A9 (encT t ++ tailT t (r.take j)).length c9), (10, .int .i64 ((q + 1 + j : Nat) : Int))] ∧ Wk zL (.own 5 1 A9 (encT t ++ tailT t (r.take j)).length c9 (bv (encT t ++ tailT t (r.take j))) :: .own 5 1 A7 (bodyT l sz (List.range i)).length c7 (bv (bodyT l sz (List.range i))) :: .own 5 1 A6 (encN l.length ++ headT l sz (List.range i)).length c6 (bv (encN l.length ++ headT l sz (List.range i))) :: F)) _ ⟨0, A38, c38, Nat.zero_le _, rfl, ⟨(by first | rfl | exact int_to (by omega) | exact sl_to (by omega)), (by first | rfl | exact int_to (by omega) | exact sl_to (by omega)), (by first | rfl | exact int_to (by omega) | exact sl_to (by omega)), (by first | rfl | exact int_to (by omega) | exact sl_to (by omega)), (by first | rfl | exact int_to (by omega) | exact sl_to (by omega)), (by first | rfl | exact int_to (by omega) | exact sl_to (by omega)), (by first | rfl | exact int_to (by omega) | exact sl_to (by omega)), trivial⟩, wk_own (by simp [tailT]) (by simp [tailT]) (.refl _)⟩ ?_
        rintro _ _ _ ⟨j, A9, c9, hj, rfl, hs, hp⟩
        refine vc_weaken _ hs (vc_wk hp ?_)
        clear hs hp
        refine vc_seq ?_
        refine vc_seq ?_
        refine vc_region ?_
        refine vl_cut 11 51 [(0, _), (1, _), (6, _), (7, _), (8, _), (9, _), (10, _)] (j < r.length) ⟨rfl, rfl, rfl, rfl, rfl, rfl, rfl, trivial⟩ ?_ ?_
        · skip
          refine vl_det (det_move rfl) rfl ?_
          refine vl_det (det_move rfl) rfl ?_
          refine vl_det (det_move rfl) rfl ?_
          refine vl_det (det_add rfl rfl (w_i64 (by omega) (by omega))) rfl ?_
          refine vl_det (det_lss rfl rfl) rfl ?_
          refine vl_det (det_move rfl) rfl ?_
          refine vl_guardp rfl rfl rfl (fun h46 => ?_) (fun h46 => ?_)
          · skip
            refine vl_det (det_move rfl) rfl ?_
            refine vl_guard_t rfl rfl ?_
            refine vl_det (det_move rfl) rfl ?_
            refine vl_guard_t rfl rfl ?_
            refine vl_det (det_len_sl Try.underlying26 rfl) rfl ?_
            refine vl_guard_t rfl rfl ?_
            refine vl_det (det_lss rfl rfl) rfl ?_
            refine vl_det (det_pick_t rfl rfl) rfl ?_
            exact vl_cut_end ⟨rfl, rfl, rfl, rfl, rfl, rfl, rfl, trivial⟩ (by first | rfl | exact bool_to_t (by first | exact fun h => absurd h (by omega) | exact ⟨fun h => by omega, fun h => by omega⟩) | exact bool_to_f (by first | exact fun h => absurd h (by omega) | exact ⟨fun h => by omega, fun h => by omega⟩) | exact bool_to (by first | exact fun h => absurd h (by omega) | exact ⟨fun h => by omega, fun h => by omega⟩) | exact bool_to_b (by first | exact fun h => absurd h (by omega) | exact ⟨fun h => by omega, fun h => by omega⟩))
          · skip
            refine vl_guard_f rfl rfl rfl rfl ?_
            refine vl_guard_f rfl rfl rfl rfl ?_
            refine vl_guard_f rfl rfl rfl rfl ?_
            refine vl_det (det_pick_f rfl rfl) rfl ?_
            exact vl_cut_end ⟨rfl, rfl, rfl, rfl, rfl, rfl, rfl, trivial⟩ (by first | rfl | exact bool_to_t (by first | exact fun h => absurd h (by omega) | exact ⟨fun h => by omega, fun h => by omega⟩) | exact bool_to_f (by first | exact fun h => absurd h (by omega) | exact ⟨fun h => by omega, fun h => by omega⟩) | exact bool_to (by first | exact fun h => absurd h (by omega) | exact ⟨fun h => by omega, fun h => by omega⟩) | exact bool_to_b (by first | exact fun h => absurd h (by omega) | exact ⟨fun h => by omega, fun h => by omega⟩))
        · skip
          refine vl_end [(0, _), (1, _), (6, _), (7, _), (8, _), (9, _), (10, _), (51, _)] ⟨rfl, rfl, rfl, rfl, rfl, rfl, rfl, rfl, trivial⟩ ?_
          refine then_next ?_
          refine vc_decideU rfl (fun h51 => ?_) (fun h51 => ?_)
          · skip
            have hr45 : j * 45 ≤ 64 * 45 := Nat.mul_le_mul_right _ (by omega)
            have hp1 : l.getD (q + j) [] = (t :: r).getD j [] := (hget (j := j) (by simp; omega)).symm
            have hp2 : l.getD (q + 1 + j) [] = r.getD j [] := by
              have := (hget (j := j + 1) (by simp; omega)).symm
              rw [show q + 1 + j = q + (j + 1) by omega, this]; simp
            have hl1 : ((t :: r).getD j []).length ≤ 25 := h25X _ (by rw [List.getD_eq_getElem?_getD, List.getElem?_eq_getElem (show j < (t :: r).length by simp; omega)]; exact List.getElem_mem _)
            have hl2 : (r.getD j []).length ≤ 25 := h25X _ (by rw [List.getD_eq_getElem?_getD, List.getElem?_eq_getElem (show j < r.length by omega)]; exact List.mem_cons_of_mem _ (List.getElem_mem _))
            have hle := lcp_le ((t :: r).getD j []) (r.getD j [])
            have htl := tailT_len t (r.take j) (fun s hs => h25X s (List.mem_cons_of_mem _ (List.mem_of_mem_take hs)))
            rw [List.length_take, Nat.min_eq_left (by omega)] at htl
            have het := encT_len (s := t) (by omega)
            have hbl9 : (encT t ++ tailT t (r.take j)).length = (encT t).length + (tailT t (r.take j)).length := List.length_append
            have htk := tailT_take t r j (by omega)
            have hlk : (encT t ++ tailT t (r.take (j + 1))).length = (encT t ++ tailT t (r.take j)).length + (encN (lcp ((t :: r).getD j []) (r.getD j []))).length + (encT ((r.getD j []).drop (lcp ((t :: r).getD j []) (r.getD j [])))).length := by rw [htk, List.length_append, List.length_append, List.length_append, List.length_append]; omega
            refine vc_skip ?_
            refine then_next ?_
            refine vc_seq ?_
            refine vc_block ?_
            refine vc_seq ?_
            refine vq_region (by kernel_rfl) (by kernel_rfl) ?_
            refine vq_det (det_move rfl) rfl ?_
            refine vq_det (det_move rfl) rfl ?_
            refine vq_det (det_sub rfl rfl (w_i64 (by omega) (by omega))) rfl ?_
            refine vq_det (det_indexAddr (i := q + j) (size := 1) Try.underlying26 (by kernel_rfl) rfl rfl (by omega) (by omega) (by first | (exact Bor.own (by repeat (first | exact List.Mem.head _ | apply List.Mem.tail))) | (repeat (first | assumption | apply Bor.cons)))) rfl ?_
            refine vq_det (det_load_str (b := l) (j := q + j) (by kernel_rfl) rfl (by first | (exact Bor.own (by repeat (first | exact List.Mem.head _ | apply List.Mem.tail))) | (repeat (first | assumption | apply Bor.cons))) (by omega)) rfl ?_
            refine vq_det (det_move rfl) rfl ?_
            refine vq_det (det_move rfl) rfl ?_
            refine vq_det (det_indexAddr (i := q + 1 + j) (size := 1) Try.underlying26 (by kernel_rfl) rfl rfl (by omega) (by omega) (by first | (exact Bor.own (by repeat (first | exact List.Mem.head _ | apply List.Mem.tail))) | (repeat (first | assumption | apply Bor.cons)))) rfl ?_
            refine vq_det (det_load_str (b := l) (j := q + 1 + j) (by kernel_rfl) rfl (by first | (exact Bor.own (by repeat (first | exact List.Mem.head _ | apply List.Mem.tail))) | (repeat (first | assumption | apply Bor.cons))) (by omega)) rfl ?_
            rw [hp1, hp2]
            refine vq_call co74 rfl (rlike_d ((t :: r).getD j []) (r.getD j []) (by omega)) (by rintro _ _ ⟨rfl, rfl⟩; exact ⟨rfl, List.Sublist.refl _⟩) rfl ?_
            refine vq_det (det_assign rfl) rfl ?_
            refine vq_end [(0, _), (1, _), (6, _), (7, _), (8, _), (9, _), (10, _), (11, _)] ⟨rfl, rfl, rfl, rfl, rfl, rfl, rfl, rfl, trivial⟩ ?_
            refine then_next ?_
            refine vc_seq ?_
            refine vc_region ?_
            refine vl_det (det_move rfl) rfl ?_
            refine vl_det (det_move rfl) rfl ?_
            refine vl_det (det_conv Try.underlying3 Try.underlying33 rfl (w_u64 (by omega) (by omega))) rfl ?_
            refine vl_call co72 rfl (rnum_d (lcp ((t :: r).getD j []) (r.getD j [])) (by omega)) rfl ?_
            rintro _ _ ⟨A67, c67, rfl, hLL⟩
            obtain rfl := hLL.symm
            have hn67 : (encN (lcp ((t :: r).getD j []) (r.getD j []))).length ≤ 10 := encN_len10 (by omega)
            refine vl_eff (eff_app slT41 rfl (by repeat (first | exact .hd | apply Sel.tl)) rfl (by first | (exact Bor.own (by repeat (first | exact List.Mem.head _ | apply List.Mem.tail))) | (repeat (first | assumption | apply Bor.cons))) (by first | exact bv_one _ | exact strs_one _ | exact ints_one _ _ | (simp; done) | (simp [Value.oneCell']; done) | assumption) (by omega) (by omega)) rfl ?_
            rintro _ _ ⟨A68, c68, rfl, rfl⟩
            refine vl_det (det_assign rfl) rfl ?_
            refine vl_end [(0, _), (1, _), (6, _), (7, _), (8, _), (9, _), (10, _), (11, _)] ⟨rfl, rfl, rfl, rfl, rfl, rfl, rfl, rfl, trivial⟩ ?_
            refine then_next ?_
            refine vc_region ?_
            refine vl_det (det_move rfl) rfl ?_
            refine vl_det (det_move rfl) rfl ?_
            refine vl_det (det_move rfl) rfl ?_
            refine vl_det (det_indexAddr (i := q + 1 + j) (size := 1) Try.underlying26 (by kernel_rfl) rfl rfl (by omega) (by omega) (by first | (exact Bor.own (by repeat (first | exact List.Mem.head _ | apply List.Mem.tail))) | (repeat (first | assumption | apply Bor.cons)))) rfl ?_
            refine vl_det (det_load_str (b := l) (j := q + 1 + j) (by kernel_rfl) rfl (by first | (exact Bor.own (by repeat (first | exact List.Mem.head _ | apply List.Mem.tail))) | (repeat (first | assumption | apply Bor.cons))) (by omega)) rfl ?_
            rw [hp2]
            refine vl_det (det_move rfl) rfl ?_
            refine vl_det (det_str_lo Try.underlying9 rfl rfl rfl (by omega)) rfl ?_
            refine vl_call co73 rfl (rtext_d ((r.getD j []).drop (lcp ((t :: r).getD j []) (r.getD j []))) (by rw [List.length_drop]; omega)) rfl ?_
            rintro _ _ ⟨A76, c76, rfl, hLL⟩
            obtain rfl := hLL.symm
            have hn76 := encT_len (s := (r.getD j []).drop (lcp ((t :: r).getD j []) (r.getD j []))) (by rw [List.length_drop]; omega)
            rw [List.length_drop] at hn76
            refine vl_eff (eff_app slT41 rfl (by repeat (first | exact .hd | apply Sel.tl)) rfl (by first | (exact Bor.own (by repeat (first | exact List.Mem.head _ | apply List.Mem.tail))) | (repeat (first | assumption | apply Bor.cons))) (by first | exact bv_one _ | exact strs_one _ | exact ints_one _ _ | (simp; done) | (simp [Value.oneCell']; done) | assumption) (by omega) (by omega)) rfl ?_
            rintro _ _ ⟨A77, c77, rfl, rfl⟩
            refine vl_det (det_assign rfl) rfl ?_
            refine vl_end [(0, _), (1, _), (6, _), (7, _), (8, _), (9, _), (10, _)] ⟨rfl, rfl, rfl, rfl, rfl, rfl, rfl, trivial⟩ ?_
            refine in_normal ?_
            refine then_next ?_
            refine vc_region ?_
            refine vl_det (det_move rfl) rfl ?_
            refine vl_det (det_add rfl rfl (w_i64 (by omega) (by omega))) rfl ?_
            refine vl_det (det_assign rfl) rfl ?_
            refine vl_end [(0, _), (1, _), (6, _), (7, _), (8, _), (9, _), (10, _)] ⟨rfl, rfl, rfl, rfl, rfl, rfl, rfl, trivial⟩ ?_
            refine in_loop_ ⟨_, by omega, j + 1, A77, c77, by omega, rfl, ⟨(by first | rfl | exact int_to (by omega) | exact sl_to (by omega)), (by first | rfl | exact int_to (by omega) | exact sl_to (by omega)), (by first | rfl | exact int_to (by omega) | exact sl_to (by omega)), (by first | rfl | exact int_to (by omega) | exact sl_to (by omega)), (by first | rfl | exact int_to (by omega) | exact sl_to (by omega)), (by first | rfl | exact int_to (by omega) | exact sl_to (by omega)), (by first | rfl | exact int_to (by omega) | exact sl_to (by omega)), trivial⟩, .skip (.skip (wk_own (by rw [htk]; simp [Nat.add_assoc]) (by rw [htk]; simp [List.append_assoc]) (.refl _)))⟩
          · skip
            obtain rfl : j = r.length := by omega
            rw [List.take_length, show encT t ++ tailT t r = bucketT (t :: r) from rfl]
            refine vc_exit ?_
            refine then_exit ?_
            refine loop_exit ?_
            refine in_eq ?_
            refine then_next ?_
            refine vc_seq ?_
            refine vc_region ?_
            refine vl_det (det_move rfl) rfl ?_
            refine vl_det (det_move rfl) rfl ?_
            refine vl_det (det_len_sl Try.underlying41 rfl) rfl ?_
            refine vl_det (det_conv Try.underlying3 Try.underlying33 rfl (w_u64 (by omega) (by omega))) rfl ?_
            refine vl_call co72 rfl (rnum_d (bucketT (t :: r)).length (by omega)) rfl ?_
            rintro _ _ ⟨A82, c82, rfl, hLL⟩
            obtain rfl := hLL.symm
            have hn82 : (encN (bucketT (t :: r)).length).length ≤ 10 := encN_len10 (by omega)
            refine vl_eff (eff_app slT41 rfl (by repeat (first | exact .hd | apply Sel.tl)) rfl (by first | (exact Bor.own (by repeat (first | exact List.Mem.head _ | apply List.Mem.tail))) | (repeat (first | assumption | apply Bor.cons))) (by first | exact bv_one _ | exact strs_one _ | exact ints_one _ _ | (simp; done) | (simp [Value.oneCell']; done) | assumption) (by omega) (by omega)) rfl ?_
            rintro _ _ ⟨A83, c83, rfl, rfl⟩
            refine vl_det (det_assign rfl) rfl ?_
            refine vl_end [(0, _), (1, _), (6, _), (7, _), (8, _), (9, _)] ⟨rfl, rfl, rfl, rfl, rfl, rfl, trivial⟩ ?_
            refine then_next ?_
            refine vc_region ?_
            refine vl_det (det_move rfl) rfl ?_
            refine vl_det (det_move rfl) rfl ?_
            refine vl_eff (eff_app slT41 rfl (by repeat (first | exact .hd | apply Sel.tl)) rfl (by first | (exact Bor.own (by repeat (first | exact List.Mem.head _ | apply List.Mem.tail))) | (repeat (first | assumption | apply Bor.cons))) (by first | exact bv_one _ | exact strs_one _ | exact ints_one _ _ | (simp; done) | (simp [Value.oneCell']; done) | assumption) (by omega) (by omega)) rfl ?_
            rintro _ _ ⟨A86, c86, rfl, rfl⟩
            refine vl_det (det_assign rfl) rfl ?_
            refine vl_end [(0, _), (1, _), (6, _), (7, _), (8, _)] ⟨rfl, rfl, rfl, rfl, rfl, trivial⟩ ?_
            refine in_normal ?_
            refine then_next ?_
            refine vc_region ?_
            refine vl_det (det_move rfl) rfl ?_
            refine vl_det (det_move rfl) rfl ?_
            refine vl_det (det_add rfl rfl (w_i64 (by omega) (by omega))) rfl ?_
            refine vl_det (det_assign rfl) rfl ?_
            refine vl_end [(0, _), (1, _), (6, _), (7, _), (8, _)] ⟨rfl, rfl, rfl, rfl, rfl, trivial⟩ ?_
            have hlB : (bodyT l sz (List.range (i + 1))).length = (bodyT l sz (List.range i)).length + (bucketT (t :: r)).length := by rw [hsB, List.length_append]
            have hlH : (encN l.length ++ headT l sz (List.range (i + 1))).length = (encN l.length ++ headT l sz (List.range i)).length + (encN (bucketT (t :: r)).length).length := by rw [hsH, List.length_append, List.length_append, List.length_append]; omega
            refine in_loop_ ⟨_, by omega, i + 1, q + sz, A83, A86, c83, c86, ⟨by omega, hss.symm⟩, rfl, ⟨(by first | rfl | exact int_to (by omega) | exact sl_to (by omega)), (by first | rfl | exact int_to (by omega) | exact sl_to (by omega)), (by first | rfl | exact int_to (by omega) | exact sl_to (by omega)), (by first | rfl | exact int_to (by omega) | exact sl_to (by omega)), (by first | rfl | exact int_to (by omega) | exact sl_to (by omega)), trivial⟩, .skip (.skip (wk_own (by rw [hsB]; simp) (by rw [hsB]; simp) (wk_own (by rw [hsH]; simp [Nat.add_assoc]) (by rw [hsH]; simp) (.refl _))))⟩
      · skip
        have hge : i = chN sz l.length := by
          by_cases e : i < chN sz l.length
          · exact absurd ((chN_lt hs1).1 e) (by omega)
          · omega
        subst hge
        have hB1 := bodyT_len hs2 h25 (List.range (chN sz l.length))
        have hH1 := headT_len hs2 h25 (List.range (chN sz l.length))
        rw [List.length_range] at hB1 hH1
        have hln : (encN l.length ++ headT l sz (List.range (chN sz l.length))).length = (encN l.length).length + (headT l sz (List.range (chN sz l.length))).length := List.length_append
        have hi10 := Nat.mul_le_mul_right 10 hNl
        have hi30 := Nat.mul_le_mul_right 3000 hNl
        refine vc_exit ?_
        refine then_exit ?_
        refine loop_exit ?_
        refine in_eq ?_
        refine then_next ?_
        refine vc_seq ?_
        refine vc_region ?_
        refine vl_det (det_move rfl) rfl ?_
        refine vl_det (det_move rfl) rfl ?_
        refine vl_eff (eff_app slT41 rfl (by repeat (first | exact .hd | apply Sel.tl)) rfl (by first | (exact Bor.own (by repeat (first | exact List.Mem.head _ | apply List.Mem.tail))) | (repeat (first | assumption | apply Bor.cons))) (by first | exact bv_one _ | exact strs_one _ | exact ints_one _ _ | (simp; done) | (simp [Value.oneCell']; done) | assumption) (by omega) (by omega)) rfl ?_
        rintro _ _ ⟨A89, c89, rfl, rfl⟩
        refine vl_det (det_assign rfl) rfl ?_
        refine vl_det (det_assign rfl) rfl ?_
        refine vl_end [(4, _), (5, _)] ⟨rfl, rfl, trivial⟩ ?_
        refine then_next ?_
        refine vc_ret ?_
        refine ret_wk (L' := .own 5 1 A89 (dictB sz l).length c89 (bv (dictB sz l)) :: F) (.skip (wk_own (by simp [dictB, Nat.add_assoc]) (by simp [dictB]) (.refl _))) ?_
        refine ret2 rfl rfl rfl ?_
        exact ⟨A89, c89, by rw [show (dictB sz l).length = (encN l.length ++ headT l sz (List.range (chN sz l.length))).length + (bodyT l sz (List.range (chN sz l.length))).length by simp [dictB, Nat.add_assoc]], rfl⟩
end Go.Proofs.Ytpamjobiohbibaa

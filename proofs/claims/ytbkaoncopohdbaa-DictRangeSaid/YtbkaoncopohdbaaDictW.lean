/-
  dict.Write by the law of a range over a function. Condition: texts to 2^20.
-/
import Derived.Test.YtbkaoncopohdbaaDictB
namespace Go.Proofs.Ytbkaoncopohdbaa
open Go.RowKit
set_option linter.unusedVariables false
set_option maxRecDepth 20000
variable {B : Nat} {w0 : World} {F : List Ch} {A A1 A2 : Option Addr} {n c c1 c2 g : Nat}
def ck (l : List Txt) (sz i : Nat) : List Txt := (l.drop (i * sz)).take sz
def headT (l : List Txt) (sz : Nat) (ks : List Nat) : List UInt8 := ks.flatMap fun i => encN (bucketT (ck l sz i)).length
def bodyT (l : List Txt) (sz : Nat) (ks : List Nat) : List UInt8 := ks.flatMap fun i => bucketT (ck l sz i)
def dictB (sz : Nat) (l : List Txt) : List UInt8 := (encN l.length ++ headT l sz (List.range (chN sz l.length))) ++ bodyT l sz (List.range (chN sz l.length))
def dictW (size : Int) (l : List Txt) : List UInt8 × Int := if size < 1 ∨ 64 < size ∨ ¬ RisT l then ([], 13) else (dictB size.toNat l, 0)
theorem dictW_bad {size : Int} {l : List Txt} (h : size < 1 ∨ 64 < size ∨ ¬ RisT l) : dictW size l = ([], 13) := if_pos h
theorem dictW_ok {sz : Nat} {l : List Txt} (h : ¬ ((sz : Int) < 1 ∨ 64 < (sz : Int) ∨ ¬ RisT l)) : dictW sz l = (dictB sz l, 0) := by unfold dictW; rw [if_neg h, Int.toNat_natCast]
theorem ck_len (l : List Txt) (sz i : Nat) : (ck l sz i).length = chE sz l.length i := by simp [ck, chE]
theorem RisT.le {l : List Txt} (h : RisT l) : ∀ s ∈ l, s.length ≤ 25 := fun s hs => by
  obtain ⟨i, hi, rfl⟩ := List.getElem_of_mem hs
  have := (h.1 i hi).2.1
  rwa [List.getD_eq_getElem?_getD, List.getElem?_eq_getElem hi] at this
theorem ck_mem {l : List Txt} {sz i : Nat} {s : Txt} (h : s ∈ ck l sz i) : s ∈ l := List.mem_of_mem_drop (List.mem_of_mem_take h)
theorem bucketT_len {l : List Txt} (hl : l.length ≤ 64) (h : ∀ s ∈ l, s.length ≤ 25) : (bucketT l).length ≤ 3000 := by
  cases l with
  | nil => simp [bucketT]
  | cons t r =>
    have h1 := tailT_len t r (fun s hs => h s (by simp [hs]))
    have h2 := encT_len (s := t) (by have := h t (by simp); omega)
    have h3 := h t (by simp)
    have : r.length * 45 ≤ 64 * 45 := Nat.mul_le_mul_right _ (by simp at hl; omega)
    rw [bucketT, List.length_append]
    omega
theorem bodyT_len {l : List Txt} {sz : Nat} (hsz : sz ≤ 64) (h : ∀ s ∈ l, s.length ≤ 25) : ∀ ks : List Nat, (bodyT l sz ks).length ≤ ks.length * 3000
  | [] => by simp [bodyT]
  | k :: ks => by
    have h1 := bodyT_len hsz h ks
    have h2 := bucketT_len (l := ck l sz k) (by rw [ck_len]; unfold chE; omega) (fun s hs => h s (ck_mem hs))
    simp only [bodyT, List.flatMap_cons, List.length_append, List.length_cons, Nat.succ_mul] at h1 ⊢
    omega
theorem headT_len {l : List Txt} {sz : Nat} (hsz : sz ≤ 64) (h : ∀ s ∈ l, s.length ≤ 25) : ∀ ks : List Nat, (headT l sz ks).length ≤ ks.length * 10
  | [] => by simp [headT]
  | k :: ks => by
    have h1 := headT_len hsz h ks
    have h2 := bucketT_len (l := ck l sz k) (by rw [ck_len]; unfold chE; omega) (fun s hs => h s (ck_mem hs))
    have h3 : (encN (bucketT (ck l sz k)).length).length ≤ 10 := encN_len10 (by omega)
    simp only [headT, List.flatMap_cons, List.length_append, List.length_cons, Nat.succ_mul] at h1 ⊢
    omega
theorem bodyT_snoc (l : List Txt) (sz : Nat) (ks : List Nat) (k : Nat) : bodyT l sz (ks ++ [k]) = bodyT l sz ks ++ bucketT (ck l sz k) := by simp [bodyT]
theorem headT_snoc (l : List Txt) (sz : Nat) (ks : List Nat) (k : Nat) : headT l sz (ks ++ [k]) = headT l sz ks ++ encN (bucketT (ck l sz k)).length := by simp [headT]
theorem obj_own {q : Ch} {e : TypeId} {size n c : Nat} {A : Option Addr} {xs : List Value} {L : List Ch} (h : q.isObj = true) : q ∈ Ch.own e size A n c xs :: L ↔ q ∈ L :=
  ⟨fun hm => (List.mem_cons.1 hm).resolve_left fun e => (by rw [e] at h; cases h), fun hm => List.mem_cons_of_mem _ hm⟩
theorem obj_blk {q : Ch} {g : Nat} {t : TypeId} {xs : List Value} {L : List Ch} (h : q.isObj = true) : q ∈ Ch.blk g t xs :: L ↔ q ∈ L :=
  ⟨fun hm => (List.mem_cons.1 hm).resolve_left fun e => (by rw [e] at h; cases h), fun hm => List.mem_cons_of_mem _ hm⟩
theorem bucket_dl {X : List Txt} {c : Nat} (hne : X ≠ []) (hb : Bor B w0 F 1 (.slice A X.length c) X.length (strs X)) (hl : X.length ≤ 64) (h25 : ∀ s ∈ X, s.length ≤ 25) :
    Does Try.prog B w0 28 [.slice A X.length c] F (fun v L => ∃ A' c', v = .slice A' (bucketT X).length c' ∧ L = .own 5 1 A' (bucketT X).length c' (bv (bucketT X)) :: F) := by
  cases X with
  | nil => exact absurd rfl hne
  | cons t r => exact bucket_d hb (by simp at hl; omega) h25
/-- a part reads -/
theorem bor_ck {l : List Txt} (hb : Bor B w0 F 1 (.slice A l.length c) l.length (strs l)) {sz i : Nat} (hi : i * sz < l.length) : Bor B w0 F 1 (.slice (A.map (·.add (i * sz))) (ck l sz i).length (ck l sz i).length) (ck l sz i).length (strs (ck l sz i)) := fun w hs => by
  obtain ⟨A', c', e, h1, h2, h3⟩ := hb w hs
  obtain ⟨rfl, _, rfl⟩ : A = A' ∧ True ∧ c = c' := by injection e with a b d; exact ⟨a, trivial, d⟩
  obtain ⟨ad, rfl, h4, h5⟩ := h3 (by omega)
  refine ⟨_, _, rfl, Nat.le_refl _, by simp, fun _ => ⟨_, rfl, by show (ad.add (i * sz)).block < _; unfold Addr.add; split <;> exact h4, fun j u hu => ?_⟩⟩
  have hu' : (strs l)[i * sz + j]? = some u := by
    unfold ck strs at hu
    unfold strs
    rw [List.getElem?_map] at hu ⊢
    rw [List.getElem?_take] at hu
    split at hu
    · rw [List.getElem?_drop] at hu; exact hu
    · cases hu
  have := h5 _ _ hu'
  show w.cell? ((ad.add (i * sz)).add j) = some u
  rw [add_of_add]; exact this
theorem dwrite_bad {size : Int} {l : List Txt} (hb : Bor B w0 F 1 (.slice A l.length c) l.length (strs l)) (hl : l.length ≤ 1000000000000000) (hE : size < 1 ∨ 64 < size ∨ ¬ RisT l) :
    Does Try.prog B w0 11 [.int .i64 size, .slice A l.length c] F (fun r L => ∃ A' c', r = .tuple #[.slice A' 0 c', .int .i64 13] ∧ L = .own 5 1 A' 0 c' [] :: F) := by
  refine fn_marks Try.func11 44 rfl rfl rfl [(0, .int .i64 size), (1, .slice A l.length c)] ⟨⟨rfl, rfl⟩, ⟨rfl, rfl⟩, trivial⟩ ?_
  refine vg_seq ?_
  refine vc_region ?_
  refine vl_det (det_assign rfl) rfl ?_
  refine vl_det (det_assign rfl) rfl ?_
  refine vl_end [(0, _), (1, _)] ⟨rfl, rfl, trivial⟩ ?_
  refine tg_next ?_
  refine vg_seq ?_
  refine vc_seq ?_
  refine vc_region ?_
  refine vl_cut 11 20 [(0, _), (1, _)] (size < 1 ∨ 64 < size ∨ ¬ RisT l) ⟨rfl, rfl, trivial⟩ ?_ ?_
  · skip
    refine vl_det (det_move rfl) rfl ?_
    refine vl_det (det_lss rfl rfl) rfl ?_
    refine vl_det (det_move rfl) rfl ?_
    refine vl_guardn rfl rfl rfl (fun h12 => ?_) (fun h12 => ?_)
    · skip
      refine vl_det (det_move rfl) rfl ?_
      refine vl_guard_t rfl rfl ?_
      refine vl_det (det_gtr rfl rfl) rfl ?_
      refine vl_det (det_pick_f rfl rfl) rfl ?_
      refine vl_det (det_move rfl) rfl ?_
      refine vl_guardn rfl rfl rfl (fun h16 => ?_) (fun h16 => ?_)
      · skip
        refine vl_det (det_move rfl) rfl ?_
        refine vl_guard_t rfl rfl ?_
        refine vl_call co25 rfl (drises_d hb hl) rfl ?_
        rintro _ _ ⟨rfl, hLL⟩
        obtain rfl := hLL.symm
        refine vl_guard_t rfl rfl ?_
        refine vl_det (det_notd rfl) rfl ?_
        refine vl_det (det_pick_f rfl rfl) rfl ?_
        exact vl_cut_end ⟨rfl, rfl, trivial⟩ (by first | rfl | exact bool_to_t (by first | exact .inl (by omega) | exact .inr (.inl (by omega)) | exact ⟨fun h => .inr (.inr h), fun h => by rcases h with h | h | h <;> first | omega | exact h⟩) | exact bool_to_f (by first | exact .inl (by omega) | exact .inr (.inl (by omega)) | exact ⟨fun h => .inr (.inr h), fun h => by rcases h with h | h | h <;> first | omega | exact h⟩) | exact bool_to (by first | exact .inl (by omega) | exact .inr (.inl (by omega)) | exact ⟨fun h => .inr (.inr h), fun h => by rcases h with h | h | h <;> first | omega | exact h⟩) | exact bool_to_b (by first | exact .inl (by omega) | exact .inr (.inl (by omega)) | exact ⟨fun h => .inr (.inr h), fun h => by rcases h with h | h | h <;> first | omega | exact h⟩))
      · skip
        refine vl_guard_f rfl rfl rfl rfl ?_
        refine vl_guard_f rfl rfl rfl rfl ?_
        refine vl_det (det_pick_t rfl rfl) rfl ?_
        exact vl_cut_end ⟨rfl, rfl, trivial⟩ (by first | rfl | exact bool_to_t (by first | exact .inl (by omega) | exact .inr (.inl (by omega)) | exact ⟨fun h => .inr (.inr h), fun h => by rcases h with h | h | h <;> first | omega | exact h⟩) | exact bool_to_f (by first | exact .inl (by omega) | exact .inr (.inl (by omega)) | exact ⟨fun h => .inr (.inr h), fun h => by rcases h with h | h | h <;> first | omega | exact h⟩) | exact bool_to (by first | exact .inl (by omega) | exact .inr (.inl (by omega)) | exact ⟨fun h => .inr (.inr h), fun h => by rcases h with h | h | h <;> first | omega | exact h⟩) | exact bool_to_b (by first | exact .inl (by omega) | exact .inr (.inl (by omega)) | exact ⟨fun h => .inr (.inr h), fun h => by rcases h with h | h | h <;> first | omega | exact h⟩))
    · skip
      refine vl_guard_f rfl rfl rfl rfl ?_
      refine vl_det (det_pick_t rfl rfl) rfl ?_
      refine vl_det (det_move rfl) rfl ?_
      refine vl_guard_f rfl rfl rfl rfl ?_
      refine vl_guard_f rfl rfl rfl rfl ?_
      refine vl_guard_f rfl rfl rfl rfl ?_
      refine vl_det (det_pick_t rfl rfl) rfl ?_
      exact vl_cut_end ⟨rfl, rfl, trivial⟩ (by first | rfl | exact bool_to_t (by first | exact .inl (by omega) | exact .inr (.inl (by omega)) | exact ⟨fun h => .inr (.inr h), fun h => by rcases h with h | h | h <;> first | omega | exact h⟩) | exact bool_to_f (by first | exact .inl (by omega) | exact .inr (.inl (by omega)) | exact ⟨fun h => .inr (.inr h), fun h => by rcases h with h | h | h <;> first | omega | exact h⟩) | exact bool_to (by first | exact .inl (by omega) | exact .inr (.inl (by omega)) | exact ⟨fun h => .inr (.inr h), fun h => by rcases h with h | h | h <;> first | omega | exact h⟩) | exact bool_to_b (by first | exact .inl (by omega) | exact .inr (.inl (by omega)) | exact ⟨fun h => .inr (.inr h), fun h => by rcases h with h | h | h <;> first | omega | exact h⟩))
  · skip
    refine vl_end [(0, _), (1, _), (20, _)] ⟨rfl, rfl, rfl, trivial⟩ ?_
    refine then_next ?_
    refine vc_decideU rfl (fun h20 => ?_) (fun h20 => ?_)
    · skip
      refine vc_seq ?_
      refine vc_region ?_
      refine vl_det (det_assign rfl) rfl ?_
      refine vl_det (det_assign rfl) rfl ?_
      refine vl_end [(4, _), (5, _)] ⟨rfl, rfl, trivial⟩ ?_
      refine then_next ?_
      refine vc_ret ?_
      refine tg_ret rfl ?_
      refine ret_nil_row 5 1 none ?_
      refine ret2 rfl rfl rfl ?_
      exact ⟨none, 0, rfl, rfl⟩
    · skip
      exfalso; exact h20 hE
theorem dwrite_ok {sz : Nat} {l : List Txt} (hb : Bor B w0 F 1 (.slice A l.length c) l.length (strs l)) (hlc : l.length ≤ c) (hs1 : 1 ≤ sz) (hs2 : sz ≤ 64) (hR : RisT l) :
    Does Try.prog B w0 11 [.int .i64 sz, .slice A l.length c] F (fun r L => ∃ A' c', r = .tuple #[.slice A' (dictB sz l).length c', .int .i64 0] ∧ L = .own 5 1 A' (dictB sz l).length c' (bv (dictB sz l)) :: F) := by
  have hlen := hR.2
  have h25 := hR.le
  have hNl : chN sz l.length ≤ 1048639 := by
    unfold chN
    exact Nat.le_trans (Nat.div_le_self _ _) (by omega)
  have hnl : (encN l.length).length ≤ 10 := encN_len10 (by omega)
  refine fn_marks Try.func11 44 rfl rfl rfl [(0, .int .i64 sz), (1, .slice A l.length c)] ⟨⟨rfl, rfl⟩, ⟨rfl, rfl⟩, trivial⟩ ?_
  refine vg_seq ?_
  refine vc_region ?_
  refine vl_det (det_assign rfl) rfl ?_
  refine vl_det (det_assign rfl) rfl ?_
  refine vl_end [(0, _), (1, _)] ⟨rfl, rfl, trivial⟩ ?_
  refine tg_next ?_
  refine vg_seq ?_
  refine vc_seq ?_
  refine vc_region ?_
  refine vl_cut 11 20 [(0, _), (1, _)] ((sz : Int) < 1 ∨ 64 < (sz : Int) ∨ ¬ RisT l) ⟨rfl, rfl, trivial⟩ ?_ ?_
  · skip
    refine vl_det (det_move rfl) rfl ?_
    refine vl_det (det_lss rfl rfl) rfl ?_
    refine vl_det (det_move rfl) rfl ?_
    refine vl_guardn rfl rfl rfl (fun h12 => ?_) (fun h12 => ?_)
    · skip
      refine vl_det (det_move rfl) rfl ?_
      refine vl_guard_t rfl rfl ?_
      refine vl_det (det_gtr rfl rfl) rfl ?_
      refine vl_det (det_pick_f rfl rfl) rfl ?_
      refine vl_det (det_move rfl) rfl ?_
      refine vl_guardn rfl rfl rfl (fun h16 => ?_) (fun h16 => ?_)
      · skip
        refine vl_det (det_move rfl) rfl ?_
        refine vl_guard_t rfl rfl ?_
        refine vl_call co25 rfl (drises_d hb (by omega)) rfl ?_
        rintro _ _ ⟨rfl, hLL⟩
        obtain rfl := hLL.symm
        refine vl_guard_t rfl rfl ?_
        refine vl_det (det_notd rfl) rfl ?_
        refine vl_det (det_pick_f rfl rfl) rfl ?_
        exact vl_cut_end ⟨rfl, rfl, trivial⟩ (by first | rfl | exact bool_to_t (by first | exact .inl (by omega) | exact .inr (.inl (by omega)) | exact ⟨fun h => .inr (.inr h), fun h => by rcases h with h | h | h <;> first | omega | exact h⟩) | exact bool_to_f (by first | exact .inl (by omega) | exact .inr (.inl (by omega)) | exact ⟨fun h => .inr (.inr h), fun h => by rcases h with h | h | h <;> first | omega | exact h⟩) | exact bool_to (by first | exact .inl (by omega) | exact .inr (.inl (by omega)) | exact ⟨fun h => .inr (.inr h), fun h => by rcases h with h | h | h <;> first | omega | exact h⟩) | exact bool_to_b (by first | exact .inl (by omega) | exact .inr (.inl (by omega)) | exact ⟨fun h => .inr (.inr h), fun h => by rcases h with h | h | h <;> first | omega | exact h⟩))
      · skip
        refine vl_guard_f rfl rfl rfl rfl ?_
        refine vl_guard_f rfl rfl rfl rfl ?_
        refine vl_det (det_pick_t rfl rfl) rfl ?_
        exact vl_cut_end ⟨rfl, rfl, trivial⟩ (by first | rfl | exact bool_to_t (by first | exact .inl (by omega) | exact .inr (.inl (by omega)) | exact ⟨fun h => .inr (.inr h), fun h => by rcases h with h | h | h <;> first | omega | exact h⟩) | exact bool_to_f (by first | exact .inl (by omega) | exact .inr (.inl (by omega)) | exact ⟨fun h => .inr (.inr h), fun h => by rcases h with h | h | h <;> first | omega | exact h⟩) | exact bool_to (by first | exact .inl (by omega) | exact .inr (.inl (by omega)) | exact ⟨fun h => .inr (.inr h), fun h => by rcases h with h | h | h <;> first | omega | exact h⟩) | exact bool_to_b (by first | exact .inl (by omega) | exact .inr (.inl (by omega)) | exact ⟨fun h => .inr (.inr h), fun h => by rcases h with h | h | h <;> first | omega | exact h⟩))
    · skip
      refine vl_guard_f rfl rfl rfl rfl ?_
      refine vl_det (det_pick_t rfl rfl) rfl ?_
      refine vl_det (det_move rfl) rfl ?_
      refine vl_guard_f rfl rfl rfl rfl ?_
      refine vl_guard_f rfl rfl rfl rfl ?_
      refine vl_guard_f rfl rfl rfl rfl ?_
      refine vl_det (det_pick_t rfl rfl) rfl ?_
      exact vl_cut_end ⟨rfl, rfl, trivial⟩ (by first | rfl | exact bool_to_t (by first | exact .inl (by omega) | exact .inr (.inl (by omega)) | exact ⟨fun h => .inr (.inr h), fun h => by rcases h with h | h | h <;> first | omega | exact h⟩) | exact bool_to_f (by first | exact .inl (by omega) | exact .inr (.inl (by omega)) | exact ⟨fun h => .inr (.inr h), fun h => by rcases h with h | h | h <;> first | omega | exact h⟩) | exact bool_to (by first | exact .inl (by omega) | exact .inr (.inl (by omega)) | exact ⟨fun h => .inr (.inr h), fun h => by rcases h with h | h | h <;> first | omega | exact h⟩) | exact bool_to_b (by first | exact .inl (by omega) | exact .inr (.inl (by omega)) | exact ⟨fun h => .inr (.inr h), fun h => by rcases h with h | h | h <;> first | omega | exact h⟩))
  · skip
    refine vl_end [(0, _), (1, _), (20, _)] ⟨rfl, rfl, rfl, trivial⟩ ?_
    refine then_next ?_
    refine vc_decideU rfl (fun h20 => ?_) (fun h20 => ?_)
    · skip
      exfalso; rcases h20 with h | h | h <;> first | omega | exact h hR
    · skip
      refine vc_skip ?_
      refine tg_next ?_
      refine vg_seq ?_
      refine vc_region ?_
      refine vl_det (det_move rfl) rfl ?_
      refine vl_det (det_len_sl Try.underlying22 rfl) rfl ?_
      refine vl_det (det_conv Try.underlying3 Try.underlying54 rfl (w_u64 (by omega) (by omega))) rfl ?_
      refine vl_call co26 rfl (num_d l.length (by omega)) rfl ?_
      rintro _ _ ⟨A24, c24, rfl, hLL⟩
      obtain rfl := hLL.symm
      refine vl_eff (eff_alloc_z (zv := (.slice none 0 0)) (by kernel_rfl) rfl) rfl ?_
      rintro _ _ ⟨g6, rfl, rfl⟩
      refine vl_eff0 (eff_store (by kernel_rfl) rfl rfl rfl (by repeat (first | exact .hd | apply Sel.tl)) (by simp)) ?_
      rintro _ _ rfl
      refine vl_end [(0, _), (1, _), (6, _)] ⟨rfl, rfl, rfl, trivial⟩ ?_
      refine tg_next ?_
      refine vg_seq ?_
      refine vc_nil_row 5 1 none ?_
      refine vc_region ?_
      refine vl_eff (eff_alloc_z (zv := (.slice none 0 0)) (by kernel_rfl) rfl) rfl ?_
      rintro _ _ ⟨g7, rfl, rfl⟩
      refine vl_end [(0, _), (1, _), (6, _), (7, _)] ⟨rfl, rfl, rfl, rfl, trivial⟩ ?_
      refine tg_next ?_
      refine vg_seq2 ?_
      refine vc_region ?_
      refine vl_det (det_move rfl) rfl ?_
      refine vl_det (det_move rfl) rfl ?_
      refine vl_call co27 rfl (chunk_d hs1) rfl ?_
      rintro _ _ ⟨g2, g3, rfl, hLL⟩
      obtain rfl := hLL.symm
      refine vl_end [(6, _), (7, _), (27, _)] ⟨rfl, rfl, rfl, trivial⟩ ?_
      refine tg_next ?_
      refine vg_range (N := chN sz l.length) co43 rfl rfl rfl (fun i : Fin (chN sz l.length) => chV A sz l.length i.val) (fun xs => xs.map (·.val) = List.range (chN sz l.length)) (fun _ => True) [.blk g2 22 [.slice A l.length c], .blk g3 3 [.int .i64 sz]]
        (fun w hw => chunk_stops hs1 (by omega) (by omega) hlc (fun e => by have := (List.pairwise_cons.1 hw.apart).1 _ List.mem_cons_self; subst e; rcases this with h | h <;> simp [Ch.fp] at h) w (hw.all _ (List.mem_cons_of_mem _ List.mem_cons_self)) (hw.all _ List.mem_cons_self))
        (fun (_ : List (Fin (chN sz l.length))) (_ : Option Addr × Nat × Option Addr × Nat) => True) (fun pre s => .blk g3 3 [.int .i64 sz] :: .blk g2 22 [.slice A l.length c] :: .blk g7 25 [.slice s.1 (bodyT l sz (pre.map (·.val))).length s.2.1] :: .own 5 1 s.1 (bodyT l sz (pre.map (·.val))).length s.2.1 (bv (bodyT l sz (pre.map (·.val)))) :: .blk g6 25 [.slice s.2.2.1 (encN l.length ++ headT l sz (pre.map (·.val))).length s.2.2.2] :: .own 5 1 s.2.2.1 (encN l.length ++ headT l sz (pre.map (·.val))).length s.2.2.2 (bv (encN l.length ++ headT l sz (pre.map (·.val)))) :: F)
        (fun pre s q hq => by simp only [obj_own hq, obj_blk hq]) (fun q hq => by
          simp only [List.mem_cons, List.not_mem_nil, or_false] at hq
          rcases hq with rfl | rfl
          · exact ⟨rfl, fun pre s => List.mem_cons_of_mem _ List.mem_cons_self⟩
          · exact ⟨rfl, fun pre s => List.mem_cons_self⟩)
        (none, 0, A24, c24) trivial (.cons (.cons (wk_blk (by simp [bodyT]) (wk_own (by simp [bodyT]) (by simp [bodyT]) (wk_blk (by simp [headT]) (wk_own (by simp [headT]) (by simp [headT]) (.refl _))))))) ?_ ?_
      · skip
        rintro l' pre x ⟨A7, c7, A6, c6⟩ w1 _ hpl hbel F'
        have hxn : x.val * sz < l.length := (chN_lt hs1).1 x.isLt
        have hbx := ((bor_ck hb hxn).later hbel).mono (List.sublist_append_left F F')
        have hX := ck_len l sz x.val
        have hXE : chE sz l.length x.val ≤ 64 := by unfold chE; omega
        have hX1 : 1 ≤ chE sz l.length x.val := by unfold chE; omega
        have hvX : chV A sz l.length x.val = .slice (A.map (·.add (x.val * sz))) (ck l sz x.val).length (ck l sz x.val).length := by unfold chV; rw [hX]
        have hB1 := bodyT_len hs2 h25 (pre.map (·.val))
        have hH1 := headT_len hs2 h25 (pre.map (·.val))
        rw [List.length_map] at hB1 hH1
        have hbl := bucketT_len (l := ck l sz x.val) (by omega) (fun s hs => h25 s (ck_mem hs))
        have hsB := bodyT_snoc l sz (pre.map (·.val)) x.val
        have hsH := headT_snoc l sz (pre.map (·.val)) x.val
        have hmp : (pre ++ [x]).map (·.val) = pre.map (·.val) ++ [x.val] := by simp
        simp only [List.cons_append, hvX, hmp, hsB, hsH]
        have hneX : ck l sz x.val ≠ [] := fun e => by rw [e] at hX; simp at hX; omega
        have h25X : ∀ s ∈ ck l sz x.val, s.length ≤ 25 := fun s hs => h25 s (ck_mem hs)
        generalize ck l sz x.val = X at *
        generalize A.map (·.add (x.val * sz)) = A8 at *
        generalize bodyT l sz (pre.map (·.val)) = bd at *
        generalize headT l sz (pre.map (·.val)) = hd at *
        have hln : (encN l.length ++ hd).length = (encN l.length).length + hd.length := List.length_append
        have hbn : (encN (bucketT X).length).length ≤ 10 := encN_len10 (by omega)
        refine vr_block ?_
        refine vr_seq ?_
        refine vr_region (by kernel_rfl) ?_
        refine vl_det (det_move rfl) rfl ?_
        refine vl_call co28 rfl (bucket_dl hneX (by first | (exact Bor.own (by repeat (first | exact List.Mem.head _ | apply List.Mem.tail))) | (repeat (first | assumption | apply Bor.cons))) (by omega) h25X) rfl ?_
        rintro _ _ ⟨A30, c30, rfl, hLL⟩
        obtain rfl := hLL.symm
        refine vl_det (det_assign rfl) rfl ?_
        refine vl_end [(6, _), (7, _), (9, _)] ⟨rfl, rfl, rfl, trivial⟩ ?_
        refine nq ?_
        refine vr_seq ?_
        refine vr_held (S := F ++ F') (by kernel_rfl) (by kernel_rfl) (by repeat (first | exact List.Sublist.refl _ | exact List.nil_sublist _ | apply List.Sublist.cons_cons | apply List.Sublist.cons)) ?_
        refine vh_take 1 rfl (by kernel_rfl) (by kernel_rfl) (by kernel_rfl) (det_move rfl) rfl ?_
        refine vh_take 2 rfl (by kernel_rfl) (by kernel_rfl) (by kernel_rfl) (det_len_sl Try.underlying25 rfl) rfl ?_
        refine vh_take 3 rfl (by kernel_rfl) (by kernel_rfl) (by kernel_rfl) (det_conv Try.underlying3 Try.underlying54 rfl (w_u64 (by omega) (by omega))) rfl ?_
        refine vh_two 0 4 (by kernel_rfl) ?_ ?_
        · skip
          refine st_det rfl .no (det_load_blk (by kernel_rfl) rfl (by repeat (first | exact .hd | apply Sel.tl)) rfl) rfl (by repeat (first | exact List.Sublist.refl _ | exact List.nil_sublist _ | apply List.Sublist.cons_cons | apply List.Sublist.cons)) ?_
          refine vh_one 4 (by kernel_rfl) ?_
          refine st_call rfl .no co26 rfl (num_d (bucketT X).length (by omega)) rfl (by rintro _ _ ⟨A35, c35, rfl, rfl⟩; exact (by repeat (first | exact List.Sublist.refl _ | exact List.nil_sublist _ | apply List.Sublist.cons_cons | apply List.Sublist.cons))) ?_
          rintro _ _ ⟨A35, c35, rfl, hLL⟩
          obtain rfl := hLL.symm
          refine vh_one 5 (by kernel_rfl) ?_
          refine st_eff rfl .no (eff_app slT25 rfl (by repeat (first | exact .hd | apply Sel.tl)) rfl (by first | (exact Bor.own (by repeat (first | exact List.Mem.head _ | apply List.Mem.tail))) | (repeat (first | assumption | apply Bor.cons))) (by first | exact bv_one _ | exact strs_one _ | exact ints_one _ _ | (simp; done) | (simp [Value.oneCell']; done) | assumption) (by omega) (by omega)) rfl (by rintro _ _ ⟨A36, c36, rfl, rfl⟩; exact (by repeat (first | exact List.Sublist.refl _ | exact List.nil_sublist _ | apply List.Sublist.cons_cons | apply List.Sublist.cons))) ?_
          rintro _ _ ⟨A36, c36, rfl, rfl⟩
          refine vh_one 6 (by kernel_rfl) ?_
          refine st_eff0 rfl .no (eff_store (by kernel_rfl) rfl rfl rfl (by repeat (first | exact .hd | apply Sel.tl)) (by simp)) (by rintro _ _ rfl; exact (by repeat (first | exact List.Sublist.refl _ | exact List.nil_sublist _ | apply List.Sublist.cons_cons | apply List.Sublist.cons))) ?_
          rintro _ _ rfl
          refine vh_done [(7, _), (9, _)] ⟨rfl, rfl, trivial⟩ (by kernel_rfl) ?_
          refine nq ?_
          refine vr_region (by kernel_rfl) ?_
          refine vl_det (det_load_blk (by kernel_rfl) rfl (by repeat (first | exact .hd | apply Sel.tl)) rfl) rfl ?_
          refine vl_det (det_move rfl) rfl ?_
          refine vl_eff (eff_app slT25 rfl (by repeat (first | exact .hd | apply Sel.tl)) rfl (by first | (exact Bor.own (by repeat (first | exact List.Mem.head _ | apply List.Mem.tail))) | (repeat (first | assumption | apply Bor.cons))) (by first | exact bv_one _ | exact strs_one _ | exact ints_one _ _ | (simp; done) | (simp [Value.oneCell']; done) | assumption) (by omega) (by omega)) rfl ?_
          rintro _ _ ⟨A39, c39, rfl, rfl⟩
          refine vl_eff0 (eff_store (by kernel_rfl) rfl rfl rfl (by repeat (first | exact .hd | apply Sel.tl)) (by simp)) ?_
          rintro _ _ rfl
          refine vl_end [] trivial ?_
          refine nq ?_
          exact ⟨(A39, c39, A36, c36), trivial, .skip (.skip (.cons (.cons (wk_blk (by simp) (wk_own (by simp) (by simp) (wk_blk (by simp [Nat.add_assoc]) (wk_own (by simp [Nat.add_assoc]) (by simp) (.refl _))))))))⟩
        · skip
          refine st_call rfl .no co26 rfl (num_d (bucketT X).length (by omega)) rfl (by rintro _ _ ⟨A35, c35, rfl, rfl⟩; exact (by repeat (first | exact List.Sublist.refl _ | exact List.nil_sublist _ | apply List.Sublist.cons_cons | apply List.Sublist.cons))) ?_
          rintro _ _ ⟨A35, c35, rfl, hLL⟩
          obtain rfl := hLL.symm
          refine vh_one 0 (by kernel_rfl) ?_
          refine st_det rfl .no (det_load_blk (by kernel_rfl) rfl (by repeat (first | exact .hd | apply Sel.tl)) rfl) rfl (by repeat (first | exact List.Sublist.refl _ | exact List.nil_sublist _ | apply List.Sublist.cons_cons | apply List.Sublist.cons)) ?_
          refine vh_one 5 (by kernel_rfl) ?_
          refine st_eff rfl .no (eff_app slT25 rfl (by repeat (first | exact .hd | apply Sel.tl)) rfl (by first | (exact Bor.own (by repeat (first | exact List.Mem.head _ | apply List.Mem.tail))) | (repeat (first | assumption | apply Bor.cons))) (by first | exact bv_one _ | exact strs_one _ | exact ints_one _ _ | (simp; done) | (simp [Value.oneCell']; done) | assumption) (by omega) (by omega)) rfl (by rintro _ _ ⟨A36, c36, rfl, rfl⟩; exact (by repeat (first | exact List.Sublist.refl _ | exact List.nil_sublist _ | apply List.Sublist.cons_cons | apply List.Sublist.cons))) ?_
          rintro _ _ ⟨A36, c36, rfl, rfl⟩
          refine vh_one 6 (by kernel_rfl) ?_
          refine st_eff0 rfl .no (eff_store (by kernel_rfl) rfl rfl rfl (by repeat (first | exact .hd | apply Sel.tl)) (by simp)) (by rintro _ _ rfl; exact (by repeat (first | exact List.Sublist.refl _ | exact List.nil_sublist _ | apply List.Sublist.cons_cons | apply List.Sublist.cons))) ?_
          rintro _ _ rfl
          refine vh_done [(7, _), (9, _)] ⟨rfl, rfl, trivial⟩ (by kernel_rfl) ?_
          refine nq ?_
          refine vr_region (by kernel_rfl) ?_
          refine vl_det (det_load_blk (by kernel_rfl) rfl (by repeat (first | exact .hd | apply Sel.tl)) rfl) rfl ?_
          refine vl_det (det_move rfl) rfl ?_
          refine vl_eff (eff_app slT25 rfl (by repeat (first | exact .hd | apply Sel.tl)) rfl (by first | (exact Bor.own (by repeat (first | exact List.Mem.head _ | apply List.Mem.tail))) | (repeat (first | assumption | apply Bor.cons))) (by first | exact bv_one _ | exact strs_one _ | exact ints_one _ _ | (simp; done) | (simp [Value.oneCell']; done) | assumption) (by omega) (by omega)) rfl ?_
          rintro _ _ ⟨A39, c39, rfl, rfl⟩
          refine vl_eff0 (eff_store (by kernel_rfl) rfl rfl rfl (by repeat (first | exact .hd | apply Sel.tl)) (by simp)) ?_
          rintro _ _ rfl
          refine vl_end [] trivial ?_
          refine nq ?_
          exact ⟨(A39, c39, A36, c36), trivial, .skip (.skip (.cons (.cons (wk_blk (by simp) (wk_own (by simp) (by simp) (wk_blk (by simp [Nat.add_assoc]) (wk_own (by simp [Nat.add_assoc]) (by simp) (.refl _))))))))⟩
      · skip
        rintro D xs ⟨A7, c7, A6, c6⟩ hS _
        have hB1 := bodyT_len hs2 h25 (xs.map (·.val))
        have hH1 := headT_len hs2 h25 (xs.map (·.val))
        rw [hS] at hB1 hH1
        rw [List.length_range] at hB1 hH1
        simp only [hS]
        have hBl : (dictB sz l).length ≤ 10000000000 := by
          have := Nat.mul_le_mul_right 3000 hNl
          have := Nat.mul_le_mul_right 10 hNl
          unfold dictB
          rw [List.length_append, List.length_append]
          omega
        refine vm_seq ?_
        refine vl_det (det_load_blk (by kernel_rfl) rfl (by repeat (first | exact .hd | apply Sel.tl)) rfl) rfl ?_
        refine vl_det (det_load_blk (by kernel_rfl) rfl (by repeat (first | exact .hd | apply Sel.tl)) rfl) rfl ?_
        refine vl_eff (eff_build_lit slT76 [_, _] rfl rfl (by first | exact bv_one _ | exact strs_one _ | exact ints_one _ _ | (simp; done) | (simp [Value.oneCell']; done) | assumption) (by omega) (by omega)) rfl ?_
        rintro _ _ ⟨A42, rfl, rfl⟩
        refine vl_call co29 rfl (all_d (l := dictB sz l) (P := [(.slice A6 (encN l.length ++ headT l sz (List.range (chN sz l.length))).length c6, encN l.length ++ headT l sz (List.range (chN sz l.length))), (.slice A7 (bodyT l sz (List.range (chN sz l.length))).length c7, bodyT l sz (List.range (chN sz l.length)))]) (by first | (exact Bor.own (by repeat (first | exact List.Mem.head _ | apply List.Mem.tail))) | (repeat (first | assumption | apply Bor.cons))) (by intro y hy; simp only [List.mem_cons, List.not_mem_nil, or_false] at hy; rcases hy with rfl | rfl <;> exact (by first | (exact Bor.own (by repeat (first | exact List.Mem.head _ | apply List.Mem.tail))) | (repeat (first | assumption | apply Bor.cons)))) rfl (by simp [Parts.all, dictB]) (by omega) (by simp)) rfl ?_
        rintro _ _ ⟨A43, c43, rfl, hLL⟩
        obtain rfl := hLL.symm
        refine vl_det (det_assign rfl) rfl ?_
        refine vl_det (det_assign rfl) rfl ?_
        refine vl_end [(4, _), (5, _)] ⟨rfl, rfl, trivial⟩ ?_
        refine nq ?_
        refine vm_ret rfl ((pu2 (pu0 (pu0 (.refl _))))) ?_
        refine ret_wk (L' := .own 5 1 A43 (dictB sz l).length c43 (bv (dictB sz l)) :: F) (.cons (.skip (.skip (.skip (.skip (.skip (.skip (.skip (.refl _))))))))) ?_
        refine ret2 rfl rfl rfl ?_
        exact ⟨A43, c43, rfl, rfl⟩
end Go.Proofs.Ytbkaoncopohdbaa

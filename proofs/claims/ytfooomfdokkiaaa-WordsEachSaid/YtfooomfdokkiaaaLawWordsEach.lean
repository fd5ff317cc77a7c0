/-
  'WordsEach': each word of a text is a word by itself, whose one word it is. No condition.
-/
import Derived.Test.YtfooomfdokkiaaaWd3
import Derived.Test.YtfooomfdokkiaaaOpen
namespace Go.Proofs.Ytfooomfdokkiaaa.lawWordsEach
open Go.ChangeShapes Go.WideShapes Go.ChangeAt Go.RowKit
open Go.ChangeMaps (open_string shut_string)
set_option linter.unusedVariables false
/-- a word of a text -/
theorem small_small : ∀ c : UInt8, small (small c) = small c := by
  have : ∀ x : Fin 256, small (small (UInt8.ofNat x.val)) = small (UInt8.ofNat x.val) := by decide +kernel
  intro c
  have := this ⟨c.toNat, c.toNat_lt⟩
  simpa using this
def RowOk (t : List UInt8) : Prop := ∀ c ∈ t, small c ≠ 0 ∧ small c = c
def WordOk (t : List UInt8) : Prop := 1 ≤ t.length ∧ t.length ≤ 24 ∧ RowOk t
theorem emit_ok {row : List UInt8} (h : RowOk row) : ∀ t ∈ emit row, WordOk t := by
  intro t ht
  unfold emit at ht
  split at ht
  · cases ht
  · rename_i hne
    simp at ht; subst ht
    have := List.length_pos_iff.2 hne
    exact ⟨by simp; omega, by simp; omega, fun c hc => h c (List.mem_of_mem_take hc)⟩
theorem wst_ok : ∀ (l : List UInt8) (ws : List (List UInt8)) (row : List UInt8), (∀ t ∈ ws, WordOk t) → RowOk row → (∀ t ∈ (l.foldl wstep (ws, row)).1, WordOk t) ∧ RowOk (l.foldl wstep (ws, row)).2
  | [], ws, row, h1, h2 => ⟨h1, h2⟩
  | c :: r, ws, row, h1, h2 => by
    rw [List.foldl_cons]
    by_cases hc : small c = 0
    case neg =>
      rw [wstep_yes hc]
      refine wst_ok r ws _ h1 fun x hx => ?_
      rcases List.mem_append.1 hx with hx | hx
      · exact h2 x hx
      · simp only [List.mem_singleton] at hx
        subst hx
        rw [small_small]; exact ⟨hc, rfl⟩
    case pos =>
      rw [wstep_no hc]
      refine wst_ok r _ [] (fun t ht => ?_) (fun x hx => by cases hx)
      rcases List.mem_append.1 ht with ht | ht
      · exact h1 t ht
      · exact emit_ok h2 t ht
theorem word_ok {l t : List UInt8} (h : t ∈ wordsL l) : WordOk t := by
  have := wst_ok l [] [] (by simp) (fun x hx => by cases hx)
  rcases List.mem_append.1 h with h | h
  · exact this.1 t h
  · exact emit_ok this.2 t h
theorem map_id_of {t : List UInt8} (h : RowOk t) : t.map small = t := by
  induction t with
  | nil => rfl
  | cons c r ih => rw [List.map_cons, (h c (by simp)).2, ih fun x hx => h x (by simp [hx])]
theorem one_ok {t : List UInt8} (h : WordOk t) : oneL t = (t, true) := by
  rw [oneL_yes ⟨h.1, h.2.1⟩ fun c hc => (h.2.2 c hc).1, map_id_of h.2.2]
theorem fold_row : ∀ (t : List UInt8) (row : List UInt8), RowOk t → t.foldl wstep ([], row) = ([], row ++ t)
  | [], row, _ => by simp
  | c :: r, row, h => by
    have hc := h c (by simp)
    rw [List.foldl_cons, wstep_yes hc.1, hc.2, fold_row r _ fun x hx => h x (by simp [hx]), List.append_assoc]
    rfl
theorem words_ok {t : List UInt8} (h : WordOk t) : wordsL t = [t] := by
  have := fold_row t [] h.2.2
  unfold wordsL wst
  rw [this]
  have hne : t ≠ [] := List.length_pos_iff.1 h.1
  simp [emit, hne, List.take_of_length_le h.2.1]
theorem term_ok {t : List UInt8} (h : WordOk t) : termL t = true := by
  have hb : bare t = t := by
    unfold bare
    rw [if_neg]
    intro e
    rcases t with _ | ⟨c, r⟩
    · cases e
    · simp at e; subst e
      exact absurd (h.2.2 64 (by simp)).1 (by decide)
  unfold termL
  rw [hb, one_ok h]; simp
theorem term_at {t : List UInt8} (h : WordOk t) : termL (64 :: t) = true := by
  have hb : bare (64 :: t) = t := rfl
  unfold termL
  rw [hb, one_ok h]; simp
theorem walk (w : World) (s : ByteArray) (hs : s.size ≤ maxLen) (n : Nat) (hn : n < 65536) :
    Calls Try.prog 7 #[.string s, .int .u16 n] w fun e w' => e = .returned (.bool true) ∧ Below w.heap.size w w' := by
  obtain ⟨⟨l⟩⟩ := s
  refine Does.law (args := [.string ⟨l.toArray⟩, .int .u16 n]) ?_
  have hwl := wordsL_len l
  refine fn_walk Try.func7 54 rfl rfl rfl [(0, .string ⟨l.toArray⟩), (1, .int .u16 n)] ⟨⟨rfl, rfl⟩, ⟨rfl, rfl⟩, trivial⟩ ?_
  refine vc_seq ?_
  refine vc_region ?_
  refine vl_det (det_assign rfl) rfl ?_
  refine vl_end [(0, _), (1, _)] ⟨rfl, rfl, trivial⟩ ?_
  refine then_next ?_
  refine vc_seq ?_
  refine vc_seq ?_
  refine vc_region ?_
  refine vl_call co10 rfl (alive_d) rfl ?_
  rintro _ _ ⟨rfl, rfl⟩
  refine vl_det (det_not_t rfl) rfl ?_
  refine vl_end [(0, _), (1, _), (10, _)] ⟨rfl, rfl, rfl, trivial⟩ ?_
  refine then_next ?_
  refine vc_cond_f rfl ?_
  refine vc_skip ?_
  refine then_next ?_
  refine vc_seq ?_
  refine vc_seq ?_
  refine vc_region ?_
  refine vl_det (det_move rfl) rfl ?_
  refine vl_det (det_len_s Try.underlying9 rfl) rfl ?_
  refine vl_det (det_gtr rfl rfl) rfl ?_
  refine vl_end [(0, _), (1, _), (13, _)] ⟨rfl, rfl, rfl, trivial⟩ ?_
  refine then_next ?_
  refine vc_decideU rfl (fun h13 => ?_) (fun h13 => ?_)
  · skip
    refine vc_seq ?_
    refine vc_region ?_
    refine vl_det (det_assign rfl) rfl ?_
    refine vl_end [(4, _)] ⟨rfl, trivial⟩ ?_
    refine then_next ?_
    refine vc_ret ?_
    refine then_ret ?_
    refine ret1 rfl rfl ?_
    first | rfl | simp [term_at hok]
  · skip
    refine vc_skip ?_
    refine then_next ?_
    refine vc_seq ?_
    refine vc_region ?_
    refine vl_det (det_move rfl) rfl ?_
    refine vl_call co12 rfl (words_d _ (by omega)) rfl ?_
    rintro _ _ ⟨A15, c15, rfl, rfl⟩
    refine vl_det (det_assign rfl) rfl ?_
    refine vl_end [(1, _), (5, _)] ⟨rfl, rfl, trivial⟩ ?_
    refine then_next ?_
    refine vc_seq ?_
    refine vc_seq ?_
    refine vc_region ?_
    refine vl_det (det_move rfl) rfl ?_
    refine vl_det (det_len_sl Try.underlying24 rfl) rfl ?_
    refine vl_det (det_eql rfl rfl) rfl ?_
    refine vl_end [(1, _), (5, _), (18, _)] ⟨rfl, rfl, rfl, trivial⟩ ?_
    refine then_next ?_
    refine vc_decideU rfl (fun h18 => ?_) (fun h18 => ?_)
    · skip
      refine vc_seq ?_
      refine vc_region ?_
      refine vl_det (det_assign rfl) rfl ?_
      refine vl_end [(4, _)] ⟨rfl, trivial⟩ ?_
      refine then_next ?_
      refine vc_ret ?_
      refine then_ret ?_
      refine ret1 rfl rfl ?_
      first | rfl | simp [term_at hok]
    · skip
      refine vc_skip ?_
      refine then_next ?_
      refine vc_seq ?_
      refine vc_region ?_
      refine vl_det (det_move rfl) rfl ?_
      refine vl_det (det_move rfl) rfl ?_
      refine vl_det (det_conv Try.underlying34 Try.underlying3 rfl (w_i64 (by omega) (by omega))) rfl ?_
      refine vl_det (det_move rfl) rfl ?_
      refine vl_det (det_len_sl Try.underlying24 rfl) rfl ?_
      have hmod := Nat.mod_lt n (show 0 < (wordsL l).length by omega)
      refine vl_det (det_rem rfl rfl (by omega) rfl) rfl ?_
      refine vl_det (det_indexAddr Try.underlying24 (by kernel_rfl) rfl rfl rfl (by omega) (by first | (exact Bor.own (by repeat (first | exact List.Mem.head _ | apply List.Mem.tail))) | (repeat (first | assumption | refine Bor.cons ?_)))) rfl ?_
      refine vl_det (det_load_str (by kernel_rfl) rfl (by first | (exact Bor.own (by repeat (first | exact List.Mem.head _ | apply List.Mem.tail))) | (repeat (first | assumption | refine Bor.cons ?_))) (by omega)) rfl ?_
      have hok := word_ok (getD_mem hmod [])
      generalize (wordsL l).getD (n % (wordsL l).length) [] = t at hok ⊢
      have hone : ∀ F, Does Try.prog w.heap.size w 15 [.string ⟨t.toArray⟩] F (fun r L => r = .tuple #[.string ⟨t.toArray⟩, .bool true] ∧ L = F) := fun F => by have h := one_d (B := w.heap.size) (w0 := w) (F := F) t; rwa [one_ok hok] at h
      have htl := hok.2.1
      have hwt : ∀ F, Does Try.prog w.heap.size w 12 [.string ⟨t.toArray⟩] F (fun r L => ∃ A c, r = .slice A 1 c ∧ L = .own 9 1 A 1 c (strs [t]) :: F) := fun F => by have h := words_d (B := w.heap.size) (w0 := w) (F := F) t (by omega); rwa [words_ok hok] at h
      refine vl_det (det_assign rfl) rfl ?_
      refine vl_end [(6, _)] ⟨rfl, trivial⟩ ?_
      refine then_next ?_
      refine vc_seq ?_
      refine vc_region ?_
      refine vl_det (det_move rfl) rfl ?_
      refine vl_call co15 rfl (hone _) rfl ?_
      rintro _ _ ⟨rfl, rfl⟩
      refine vl_det (det_move rfl) rfl ?_
      refine vl_det (det_extract rfl rfl) rfl ?_
      refine vl_det (det_extract rfl rfl) rfl ?_
      refine vl_det (det_assign rfl) rfl ?_
      refine vl_det (det_assign rfl) rfl ?_
      refine vl_end [(6, _), (7, _), (8, _)] ⟨rfl, rfl, rfl, trivial⟩ ?_
      refine then_next ?_
      refine vc_seq ?_
      refine vc_region ?_
      refine vl_det (det_move rfl) rfl ?_
      refine vl_det (det_move rfl) rfl ?_
      refine vl_guard_t rfl rfl ?_
      refine vl_det (det_move rfl) rfl ?_
      refine vl_guard_t rfl rfl ?_
      refine vl_det (det_move rfl) rfl ?_
      refine vl_guard_t rfl rfl ?_
      refine vl_det (det_s_eql rfl rfl) rfl ?_
      refine vl_det (det_pick_t rfl rfl) rfl ?_
      refine vl_det (det_move rfl) rfl ?_
      refine vl_guardp rfl rfl rfl (fun h38 => ?_) (fun h38 => ?_)
      · skip
        refine vl_det (det_move rfl) rfl ?_
        refine vl_guard_t rfl rfl ?_
        refine vl_call co12 rfl (hwt _) rfl ?_
        rintro _ _ ⟨A40, c40, rfl, rfl⟩
        refine vl_guard_t rfl rfl ?_
        refine vl_det (det_move rfl) rfl ?_
        refine vl_guard_t rfl rfl ?_
        refine vl_eff (eff_build_lit slT24 [_] rfl rfl (by first | exact bv_one _ | exact strs_one _ | exact ints_one _ _ | (simp; done) | (simp [Value.oneCell']; done) | assumption) (by omega) (by omega)) rfl ?_
        rintro _ _ ⟨A42, rfl, rfl⟩
        refine vl_guard_t rfl rfl ?_
        refine vl_call co11 rfl (same_d (l1 := [t]) (l2 := [t]) (by first | (exact Bor.own (by repeat (first | exact List.Mem.head _ | apply List.Mem.tail))) | (repeat (first | assumption | refine Bor.cons ?_))) (by first | (exact Bor.own (by repeat (first | exact List.Mem.head _ | apply List.Mem.tail))) | (repeat (first | assumption | refine Bor.cons ?_))) (by simp)) rfl ?_
        rintro _ _ ⟨rfl, rfl⟩
        refine vl_det (det_pick_t rfl rfl) rfl ?_
        refine vl_det (det_move rfl) rfl ?_
        refine vl_guardp rfl rfl rfl (fun h45 => ?_) (fun h45 => ?_)
        · skip
          refine vl_det (det_move rfl) rfl ?_
          refine vl_guard_t rfl rfl ?_
          refine vl_call co17 rfl (term_d _) rfl ?_
          rintro _ _ ⟨rfl, rfl⟩
          refine vl_det (det_pick_t rfl rfl) rfl ?_
          refine vl_det (det_move rfl) rfl ?_
          refine vl_guard rfl rfl rfl (fun h49 => ?_) (fun h49 => ?_)
          · skip
            refine vl_det (det_move rfl) rfl ?_
            refine vl_guard_t rfl rfl ?_
            refine vl_det (det_s_add rfl rfl (by first | omega | (simp; omega))) rfl ?_
            refine vl_guard_t rfl rfl ?_
            refine vl_call co17 rfl (term_d _) rfl ?_
            rintro _ _ ⟨rfl, rfl⟩
            refine vl_det (det_pick_t rfl rfl) rfl ?_
            refine vl_det (det_assign rfl) rfl ?_
            refine vl_end [(4, _)] ⟨rfl, trivial⟩ ?_
            refine then_next ?_
            refine vc_ret ?_
            refine ret1 rfl rfl ?_
            first | rfl | simp [term_at hok]
          · skip
            exfalso; simp [term_ok hok] at h49
        · skip
          exfalso; exact h45 rfl
      · skip
        exfalso; exact h38 rfl
theorem own : ownKnob Try.prog.godebug = none := by kernel_rfl
theorem laidOut : laidOutB Try.prog = true := by kernel_rfl
set_option maxRecDepth 100000 in
theorem lifted (os : Os) (started : os.Started) (H : Type) (enc : TypeId × Value → H) :
    ReturnsInHanded {} Try.checked os 7 .any (Rows.wordsEachSpec.pre6 enc Try.prog Try.f7 Rows.wordsEachRow.domain false) (Rows.wordsEachSpec.post enc Try.prog Try.f7 false true false false) := by
  refine returnsInHanded_of_change (C := Try.checked) own started (by kernel_rfl) Try.func7
    (ChangeSpec.witness6 (enc := enc) (C := Try.checked) false ⟨#[], #[.string ByteArray.empty, .int .u16 0], []⟩ 8 (by kernel_rfl) (by kernel_rfl) (by kernel_rfl) (by kernel_rfl)) ?_
  intro W base args ds gs before hval0 hW hcnd _
  have hval : ∀ (j : Nat) t v, Try.f7.params[j]? = some t → args[j]? = some v → Value.okWide Try.prog W .any base t v := hval0
  have hW' := hW
  obtain ⟨p, q, hA0, hV, rfl, hfz, hnd⟩ := hW
  have hA : DataW.TrodAll enc Try.prog W 0 (fun _ => true) true Try.f7.params.toList args.toList ds p := hA0
  rw [Try.params7] at hA hval
  obtain ⟨v0', vs0, d0, ds0, p0, q0, hargs, rfl, rfl, h0', r0⟩ := trodAll_cons hA
  obtain ⟨v1', vs1, d1, ds1, p1, q1, rfl, rfl, rfl, h1', r1⟩ := trodAll_cons r0
  obtain ⟨rfl, rfl, rfl⟩ := trodAll_nil r1
  obtain rfl : args = #[v0', v1'] := by cases args; simp_all
  obtain ⟨rfl, rfl⟩ := trodVars_none hV
  have k0 := h0'
  have lt0 : ∀ x ∈ p0, x.block < W.heap.size := by obtain ⟨m, hm⟩ := k0; exact DataW.trod_lt m _ _ _ hm
  obtain ⟨a0, rfl, hd0, hp0, w0⟩ := open_string Try.underlying9 (hval 0 9 v0' rfl rfl) h0'
  have k1 := h1'
  have lt1 : ∀ x ∈ p1, x.block < W.heap.size := by obtain ⟨m, hm⟩ := k1; exact DataW.trod_lt m _ _ _ hm
  obtain ⟨a1, rfl, hd1, hp1, w1⟩ := open_int Try.underlying34 (hval 1 34 v1' rfl rfl) h1'
  have bd1 := bounds_u16 w1
  obtain ⟨n1, rfl⟩ := Int.eq_ofNat_of_zero_le bd1.1
  clear hA0 hval0
  refine (walk W a0 w0 n1 (by omega)).mono fun e W' ⟨he, bel⟩ => ?_
  subst he
  exact ⟨_, rfl, _, _, _, [], _, [], hW', trodAll_mk1 (shut_bool Try.underlying4 _), (trodAll_cons_mk (Below.trod laidOut (by kernel_rfl) (of_decide_eq_true (by kernel_rfl)) k0 bel lt0) (trodAll_cons_mk (Below.trod laidOut (by kernel_rfl) (of_decide_eq_true (by kernel_rfl)) k1 bel lt1) trodAll_mk0)), rfl, bel.frame _, fun h => by cases h⟩

theorem over : Rows.wordsEachRow.holds Try.pinned (OpenSpec.ofChange Rows.wordsEachSpec) :=
  OpenClaim.holds_of_wide 7 Try.f7 rfl rfl rfl rfl rfl rfl rfl ⟨rfl, rfl, rfl, rfl, rfl⟩ rfl rfl rfl rfl rfl (by kernel_rfl) Try.func7 (by kernel_rfl)
    (of_decide_eq_true (by kernel_rfl)) (by unfold Func.isWrapper; first | (rw [if_pos (by decide +kernel)]; kernel_rfl) | (rw [if_neg (by decide +kernel)]; exact ⟨rfl, rfl⟩))
    (fun os started H enc _ => lifted os started H enc)

theorem proved : Rows.WordsEachSaid := over
#print axioms proved
end Go.Proofs.Ytfooomfdokkiaaa.lawWordsEach

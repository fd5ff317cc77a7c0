/-
  Texts of one proof, joined: part 10. No condition.
-/
import Derived.Test.YtpamjobiohbibaaGreatGb9
namespace Go.Proofs.YtpamjobiohbibaaGreat
open Go.RowKit
set_option linter.unusedVariables false
set_option maxRecDepth 20000
variable {B : Nat} {w0 : World} {F : List Ch} {A A1 A2 : Option Addr} {n c c1 c2 g : Nat} {s : Cs}
/-- the buckets' sizes: so many are asked for -/
def sizF : Nat → Cs → List Nat → Cs × List Nat
  | 0, s, out => (s, out)
  | k + 1, s, out => if s.e ≠ 0 then (s, out) else sizF k (s.int' 2000) (out ++ [s.int 2000])
/-- the buckets: texts, cursor, error -/
def bodyF (sz n : Nat) : List Nat → Cs → List Txt → List Txt × Cs × Int
  | [], s, out => if s.e ≠ 0 then ([], s, s.e) else (out, s, 0)
  | k :: r, s, out =>
    if (s.take' k).e ≠ 0 then ([], s, (s.take' k).e)
    else if (fillF (min sz (n - out.length)) true ⟨s.take k, 0, 0⟩ out).2 ≠ 0 then ([], s, (fillF (min sz (n - out.length)) true ⟨s.take k, 0, 0⟩ out).2)
    else bodyF sz n r (s.take' k) (fillF (min sz (n - out.length)) true ⟨s.take k, 0, 0⟩ out).1
def dictN (b : List UInt8) : Nat := Cs.int ⟨b, 0, 0⟩ 1048576
def dictS (sz : Nat) (b : List UInt8) : Cs × List Nat := sizF (chN sz (dictN b)) (Cs.int' ⟨b, 0, 0⟩ 1048576) []
def dictF (sz : Nat) (b : List UInt8) : List Txt × Cs × Int := bodyF sz (dictN b) (dictS sz b).2 (dictS sz b).1 []
/-- the dictionary that bytes begin with: texts, bytes taken, error -/
def dictR (size : Int) (b : List UInt8) : List Txt × Nat × Int :=
  if size < 1 ∨ 64 < size then ([], 0, 13)
  else if (dictF size.toNat b).2.2 ≠ 0 then ([], 0, (dictF size.toNat b).2.2) else ((dictF size.toNat b).1, (dictF size.toNat b).2.1.at_, 0)
theorem dictR_bad {size : Int} {b : List UInt8} (h : size < 1 ∨ 64 < size) : dictR size b = ([], 0, 13) := if_pos h
theorem dictR_err {sz : Nat} {b : List UInt8} (h : ¬ ((sz : Int) < 1 ∨ 64 < (sz : Int))) (he : (dictF sz b).2.2 ≠ 0) : dictR sz b = ([], 0, (dictF sz b).2.2) := by unfold dictR; rw [if_neg h, Int.toNat_natCast, if_pos he]
theorem dictR_ok {sz : Nat} {b : List UInt8} (h : ¬ ((sz : Int) < 1 ∨ 64 < (sz : Int))) (he : (dictF sz b).2.2 = 0) : dictR sz b = ((dictF sz b).1, (dictF sz b).2.1.at_, 0) := by unfold dictR; rw [if_neg h, Int.toNat_natCast, if_neg (by simpa using he)]
theorem Cs.int_le (s : Cs) {m : Int} (h0 : 0 ≤ m) (hm : m ≤ 9223372036854775807) : (s.int m : Int) ≤ m := by
  unfold Cs.int; split
  · simpa using h0
  · by_cases h : (limS s.rest m).2.2 = 0
    · exact (limS_facts s.rest m hm).2.2.2 h
    · rw [(limS_err h).1]; simpa using h0
theorem Cs.take'_b (s : Cs) (m : Int) : (s.take' m).b = s.b := Cs.moved_b s _ _
theorem Cs.moved_e0' {s : Cs} {k : Nat} {er : Int} (h : (s.moved k er).e = 0) : s.e = 0 := by
  unfold Cs.moved at h
  split at h
  · exact h
  · split at h
    · rename_i h1 h2; exact absurd h h2
    · exact h
theorem fillF_app : ∀ (m : Nat) (f : Bool) (s : Cs) (o : List Txt), (fillF m f s o).2 = 0 → ∃ t, (fillF m f s o).1 = o ++ t ∧ t.length = m
  | 0, f, s, o, h => by
    unfold fillF at h ⊢
    split at h
    · rename_i q; exact absurd h q
    · rename_i q; rw [if_neg q]; exact ⟨[], by simp⟩
  | k + 1, f, s, o, h => by
    unfold fillF at h ⊢
    split at h
    · rename_i q; exact absurd h q
    · rename_i q
      rw [if_neg q]
      obtain ⟨t, h1, h2⟩ := fillF_app k _ _ _ h
      exact ⟨nxT s (prvT o o.length) f :: t, by rw [h1]; simp, by simp [h2]⟩
/-- the texts that the buckets begin with -/
def hdS (sz : Nat) (o : List Txt) : List Txt := (List.range (chN sz o.length)).map fun j => o.getD (j * sz) []
theorem chN_ge {sz n : Nat} (h : 1 ≤ sz) : n ≤ chN sz n * sz := by
  rcases Nat.lt_or_ge (chN sz n * sz) n with h1 | h1
  · exact absurd ((chN_lt h).2 h1) (by omega)
  · exact h1
theorem heads_step {i z sz N : Nat} {o t : List Txt} (hz : z = i * sz) (hs1 : 1 ≤ sz) (ho : o.length = min z N) (hzN : z < N) : (List.range i).map (fun j => o.getD (j * sz) []) ++ [(o ++ t).getD o.length []] = (List.range (i + 1)).map (fun j => (o ++ t).getD (j * sz) []) := by
  rw [List.range_succ, List.map_append, List.map_singleton]
  congr 1
  · apply List.map_congr_left
    intro j hj
    have hji := List.mem_range.1 hj
    have : (j + 1) * sz ≤ i * sz := Nat.mul_le_mul_right sz (by omega)
    rw [Nat.add_mul, Nat.one_mul] at this
    exact (getD_app (by omega)).symm
  · rw [show i * sz = o.length by omega]
theorem drop_getT {l : List Nat} {i : Nat} (h : i < l.length) : l.drop i = l.getD i 0 :: l.drop (i + 1) := by
  rw [List.drop_eq_getElem_cons h]; simp [List.getD, List.getElem?_eq_getElem h]
def DictQ (size : Int) (b : List UInt8) (F : List Ch) (r : Value) (L : List Ch) : Prop :=
  ((dictR size b).2.2 ≠ 0 ∧ r = .tuple #[.pointer none, .int .i64 0, .int .i64 (dictR size b).2.2] ∧ L = F) ∨
  ((dictR size b).2.2 = 0 ∧ 1 ≤ size ∧ size ≤ 64 ∧ Le25 (dictR size b).1 ∧ (dictR size b).1.length ≤ 1048576 ∧ ∃ g A1 c1 A2 c2, r = .tuple #[.pointer (some ⟨g, 0, none⟩), .int .i64 (dictR size b).2.1, .int .i64 0] ∧ L = Dd g size A1 c1 A2 c2 (dictR size b).1 (hdS size.toNat (dictR size b).1) F)
theorem dread_bad {size : Int} {b : List UInt8} (hE : size < 1 ∨ 64 < size) :
    Does Tryz.prog B w0 15 [.int .i64 size, .slice A n c] F (DictQ size b F) := by
  refine fn_walk Tryz.func15 84 rfl rfl rfl [(0, .int .i64 size), (1, .slice A n c)] ⟨⟨rfl, rfl⟩, ⟨rfl, rfl⟩, trivial⟩ ?_
  refine vc_seq ?_
  refine vc_region ?_
  refine vl_det (det_assign rfl) rfl ?_
  refine vl_det (det_assign rfl) rfl ?_
  refine vl_det (det_assign rfl) rfl ?_
  refine vl_end [(0, _), (1, _)] ⟨rfl, rfl, trivial⟩ ?_
  refine then_next ?_
  refine vc_seq ?_
  refine vc_seq ?_
  refine vc_region ?_
  refine vl_cut 6 23 [(0, _), (1, _)] (size < 1 ∨ 64 < size) ⟨rfl, rfl, trivial⟩ ?_ ?_
  · skip
    refine vl_det (det_move rfl) rfl ?_
    refine vl_det (det_lss rfl rfl) rfl ?_
    refine vl_det (det_move rfl) rfl ?_
    refine vl_guardn rfl rfl rfl (fun h20 => ?_) (fun h20 => ?_)
    · skip
      refine vl_det (det_move rfl) rfl ?_
      refine vl_guard_t rfl rfl ?_
      refine vl_det (det_gtr rfl rfl) rfl ?_
      refine vl_det (det_pick_f rfl rfl) rfl ?_
      exact vl_cut_end ⟨rfl, rfl, trivial⟩ (by first | rfl | exact bool_to_t (by first | omega | simp_all) | exact bool_to_f (by first | omega | simp_all) | exact bool_to (by first | omega | simp_all) | exact bool_to_b (by first | omega | simp_all))
    · skip
      refine vl_guard_f rfl rfl rfl rfl ?_
      refine vl_det (det_pick_t rfl rfl) rfl ?_
      exact vl_cut_end ⟨rfl, rfl, trivial⟩ (by first | rfl | exact bool_to_t (by first | omega | simp_all) | exact bool_to_f (by first | omega | simp_all) | exact bool_to (by first | omega | simp_all) | exact bool_to_b (by first | omega | simp_all))
  · skip
    refine vl_end [(0, _), (1, _), (23, _)] ⟨rfl, rfl, rfl, trivial⟩ ?_
    refine then_next ?_
    refine vc_decideU rfl (fun h23 => ?_) (fun h23 => ?_)
    · skip
      refine vc_seq ?_
      refine vc_region ?_
      refine vl_det (det_assign rfl) rfl ?_
      refine vl_det (det_assign rfl) rfl ?_
      refine vl_det (det_assign rfl) rfl ?_
      refine vl_end [(4, _), (5, _), (6, _)] ⟨rfl, rfl, rfl, trivial⟩ ?_
      refine then_next ?_
      refine vc_ret ?_
      refine then_ret ?_
      refine ret3_ rfl rfl rfl rfl ?_
      exact .inl ⟨by rw [dictR_bad hE]; decide, by rw [dictR_bad hE], rfl⟩
    · skip
      exfalso; exact h23 hE
theorem dread_ok {sz : Nat} {b : List UInt8} (hs1 : 1 ≤ sz) (hs2 : sz ≤ 64) (hb : Bor B w0 F 1 (.slice A b.length c) b.length (bv b)) (hbl : b.length ≤ 1000000000) :
    Does Tryz.prog B w0 15 [.int .i64 sz, .slice A b.length c] F (DictQ sz b F) := by
  have hR1 := @dictR_err sz b (by omega)
  have hR2 := @dictR_ok sz b (by omega)
  have hN1 := Cs.int_le ⟨b, 0, 0⟩ (m := 1048576) (by omega) (by omega)
  have hDS : dictS sz b = sizF (chN sz (dictN b)) (Cs.int' ⟨b, 0, 0⟩ 1048576) [] := rfl
  have hDF : dictF sz b = bodyF sz (dictN b) (dictS sz b).2 (dictS sz b).1 [] := rfl
  have hNe : Cs.int ⟨b, 0, 0⟩ 1048576 = dictN b := rfl
  rw [hNe] at hN1
  have hdN : ∀ l : List Txt, dictF sz b = dictF sz b := fun _ => rfl
  obtain ⟨N, hN⟩ : ∃ N, N = dictN b := ⟨_, rfl⟩
  rw [← hN] at hN1 hDS hDF hNe
  have hcN : chN sz N ≤ 1048639 := by
    unfold chN
    exact Nat.le_trans (Nat.div_le_self _ _) (by omega)
  have hcz : chN sz N * sz ≤ 1048639 * 64 := Nat.mul_le_mul hcN hs2
  have ho1 : CsOk (Cs.int' ⟨b, 0, 0⟩ 1048576) := CsOk.int' ⟨Nat.zero_le _, by simp only; omega⟩ (by omega)
  refine fn_walk Tryz.func15 84 rfl rfl rfl [(0, .int .i64 sz), (1, .slice A b.length c)] ⟨⟨rfl, rfl⟩, ⟨rfl, rfl⟩, trivial⟩ ?_
  refine vc_seq ?_
  refine vc_region ?_
  refine vl_det (det_assign rfl) rfl ?_
  refine vl_det (det_assign rfl) rfl ?_
  refine vl_det (det_assign rfl) rfl ?_
  refine vl_end [(0, _), (1, _)] ⟨rfl, rfl, trivial⟩ ?_
  refine then_next ?_
  refine vc_seq ?_
  refine vc_seq ?_
  refine vc_region ?_
  refine vl_cut 6 23 [(0, _), (1, _)] ((sz : Int) < 1 ∨ 64 < (sz : Int)) ⟨rfl, rfl, trivial⟩ ?_ ?_
  · skip
    refine vl_det (det_move rfl) rfl ?_
    refine vl_det (det_lss rfl rfl) rfl ?_
    refine vl_det (det_move rfl) rfl ?_
    refine vl_guardn rfl rfl rfl (fun h20 => ?_) (fun h20 => ?_)
    · skip
      refine vl_det (det_move rfl) rfl ?_
      refine vl_guard_t rfl rfl ?_
      refine vl_det (det_gtr rfl rfl) rfl ?_
      refine vl_det (det_pick_f rfl rfl) rfl ?_
      exact vl_cut_end ⟨rfl, rfl, trivial⟩ (by first | rfl | exact bool_to_t (by first | omega | simp_all) | exact bool_to_f (by first | omega | simp_all) | exact bool_to (by first | omega | simp_all) | exact bool_to_b (by first | omega | simp_all))
    · skip
      refine vl_guard_f rfl rfl rfl rfl ?_
      refine vl_det (det_pick_t rfl rfl) rfl ?_
      exact vl_cut_end ⟨rfl, rfl, trivial⟩ (by first | rfl | exact bool_to_t (by first | omega | simp_all) | exact bool_to_f (by first | omega | simp_all) | exact bool_to (by first | omega | simp_all) | exact bool_to_b (by first | omega | simp_all))
  · skip
    refine vl_end [(0, _), (1, _), (23, _)] ⟨rfl, rfl, rfl, trivial⟩ ?_
    refine then_next ?_
    refine vc_decideU rfl (fun h23 => ?_) (fun h23 => ?_)
    · skip
      exfalso; omega
    · skip
      refine vc_skip ?_
      refine then_next ?_
      refine vc_seq ?_
      refine vc_region ?_
      refine vl_det (det_move rfl) rfl ?_
      refine vl_call co37 rfl (cnew_d hb (by omega)) rfl ?_
      rintro _ _ ⟨g25, A25, c25, rfl, hLL⟩
      obtain rfl := hLL.symm
      refine vl_det (det_assign rfl) rfl ?_
      refine vl_end [(0, _), (7, _)] ⟨rfl, rfl, trivial⟩ ?_
      refine then_next ?_
      refine vc_seq ?_
      refine vc_region ?_
      refine vl_det (det_move rfl) rfl ?_
      refine vl_call co38 rfl (cint_d (s := ⟨b, 0, 0⟩) ⟨Nat.zero_le _, by simp only; omega⟩ (by first | (exact Bor.own (by repeat (first | exact List.Mem.head _ | apply List.Mem.tail))) | (repeat (first | assumption | apply Bor.cons))) (most := 1048576) (by omega) (by omega)) rfl ?_
      rintro _ _ ⟨rfl, hLL⟩
      obtain rfl := hLL.symm
      rw [hNe]
      refine vl_det (det_assign rfl) rfl ?_
      refine vl_end [(0, _), (7, _), (8, _)] ⟨rfl, rfl, rfl, trivial⟩ ?_
      refine then_next ?_
      refine vc_seq ?_
      refine vc_nil_row 3 1 none ?_
      refine vc_region ?_
      refine vl_det (det_assign rfl) rfl ?_
      refine vl_end [(0, _), (7, _), (8, _), (9, _)] ⟨rfl, rfl, rfl, rfl, trivial⟩ ?_
      refine then_next ?_
      refine vc_seq ?_
      refine vc_seq ?_
      refine vc_region ?_
      refine vl_det (det_assign rfl) rfl ?_
      refine vl_end [(0, _), (7, _), (8, _), (9, _), (10, _)] ⟨rfl, rfl, rfl, rfl, rfl, trivial⟩ ?_
      refine then_next ?_
      refine vc_block ?_
      refine vc_loopJ (fun zf zL zm => ∃ (j q : Nat) (s : Cs) (S : List Nat) (A9 : Option Addr) (c9 : Nat), (j ≤ chN sz N ∧ q = j * sz ∧ S.length = j ∧ CsOk s ∧ s.b = b ∧ (∀ i, i < S.length → S.getD i 0 ≤ 2000) ∧ sizF (chN sz N - j) s S = dictS sz b) ∧ chN sz N - j = zm ∧ Sub zf [(0, .int .i64 sz), (7, .pointer (some ⟨g25, 0, none⟩)), (8, .int .i64 N), (9, .slice A9 S.length c9), (10, .int .i64 q)] ∧ Wk zL (Cv g25 A25 c25 s :: .own 5 1 A25 b.length c25 (bv b) :: .own 3 1 A9 S.length c9 (natv S) :: F)) _ ⟨0, 0, Cs.int' ⟨b, 0, 0⟩ 1048576, [], none, 0, ⟨Nat.zero_le _, (Nat.zero_mul _).symm, rfl, ho1, Cs.int'_b _ _, fun i h => absurd h (by simp), hDS.symm⟩, rfl, ⟨(by first | rfl | exact int_to (by omega) | exact sl_to (by omega)), (by first | rfl | exact int_to (by omega) | exact sl_to (by omega)), (by first | rfl | exact int_to (by omega) | exact sl_to (by omega)), (by first | rfl | exact int_to (by omega) | exact sl_to (by omega)), (by first | rfl | exact int_to (by omega) | exact sl_to (by omega)), trivial⟩, (wu1 (wu1 (wu0 (.refl _))))⟩ ?_
      rintro _ _ _ ⟨j, q, s, S, A9, c9, ⟨hj, hq, hSl, ho, hsb, hS2, hS⟩, rfl, hs, hp⟩
      refine vc_weaken _ hs (vc_wk hp ?_)
      clear hs hp
      refine vc_seq ?_
      refine vc_seq ?_
      refine vc_region ?_
      refine vl_cut 8 35 [(0, _), (7, _), (8, _), (9, _), (10, _)] ((q : Int) < N ∧ s.e = 0) ⟨rfl, rfl, rfl, rfl, rfl, trivial⟩ ?_ ?_
      · skip
        refine vl_det (det_move rfl) rfl ?_
        refine vl_det (det_move rfl) rfl ?_
        refine vl_det (det_lss rfl rfl) rfl ?_
        refine vl_det (det_move rfl) rfl ?_
        refine vl_guardp rfl rfl rfl (fun h31 => ?_) (fun h31 => ?_)
        · skip
          refine vl_det (det_move rfl) rfl ?_
          refine vl_guard_t rfl rfl ?_
          refine vl_call co39 rfl (cerr_d) rfl ?_
          rintro _ _ ⟨rfl, hLL⟩
          obtain rfl := hLL.symm
          refine vl_guard_t rfl rfl ?_
          refine vl_det (det_eql rfl rfl) rfl ?_
          refine vl_det (det_pick_t rfl rfl) rfl ?_
          exact vl_cut_end ⟨rfl, rfl, rfl, rfl, rfl, trivial⟩ (by first | rfl | exact bool_to_t (by first | omega | simp_all) | exact bool_to_f (by first | omega | simp_all) | exact bool_to (by first | omega | simp_all) | exact bool_to_b (by first | omega | simp_all))
        · skip
          refine vl_guard_f rfl rfl rfl rfl ?_
          refine vl_guard_f rfl rfl rfl rfl ?_
          refine vl_det (det_pick_f rfl rfl) rfl ?_
          exact vl_cut_end ⟨rfl, rfl, rfl, rfl, rfl, trivial⟩ (by first | rfl | exact bool_to_t (by first | omega | simp_all) | exact bool_to_f (by first | omega | simp_all) | exact bool_to (by first | omega | simp_all) | exact bool_to_b (by first | omega | simp_all))
      · skip
        refine vl_end [(0, _), (7, _), (8, _), (9, _), (10, _), (35, _)] ⟨rfl, rfl, rfl, rfl, rfl, rfl, trivial⟩ ?_
        refine then_next ?_
        refine vc_decideU rfl (fun h35 => ?_) (fun h35 => ?_)
        · skip
          have hjN : j < chN sz N := (chN_lt hs1).2 (by omega)
          have hjz : (j + 1) * sz ≤ chN sz N * sz := Nat.mul_le_mul_right sz hjN
          have hjs : (j + 1) * sz = j * sz + sz := Nat.succ_mul j sz
          have hi2 := Cs.int_le s (m := 2000) (by omega) (by omega)
          have hel : S.length + 1 = (S ++ [s.int 2000]).length := by simp
          rw [show chN sz N - j = (chN sz N - (j + 1)) + 1 by omega, sizF, if_neg (by simpa using h35.2)] at hS
          refine vc_skip ?_
          refine then_next ?_
          refine vc_seq ?_
          refine vc_block ?_
          refine vc_region ?_
          refine vl_det (det_move rfl) rfl ?_
          refine vl_det (det_move rfl) rfl ?_
          refine vl_call co38 rfl (cint_d ho (by rw [hsb]; exact (by first | (exact Bor.own (by repeat (first | exact List.Mem.head _ | apply List.Mem.tail))) | (repeat (first | assumption | apply Bor.cons)))) (most := 2000) (by omega) (by omega)) rfl ?_
          rintro _ _ ⟨rfl, hLL⟩
          obtain rfl := hLL.symm
          refine vl_push slT42 rfl rfl rfl rfl rfl (fun _ => rfl) (by repeat (first | exact .hd | apply Sel.tl)) (by omega) (by omega) ?_
          intro _ A43 c43
          refine vl_det (det_assign rfl) rfl ?_
          refine vl_end [(0, _), (7, _), (8, _), (9, _), (10, _)] ⟨rfl, rfl, rfl, rfl, rfl, trivial⟩ ?_
          refine in_normal ?_
          refine then_next ?_
          refine vc_region ?_
          refine vl_det (det_move rfl) rfl ?_
          refine vl_det (det_move rfl) rfl ?_
          refine vl_det (det_add rfl rfl (w_i64 (by omega) (by omega))) rfl ?_
          refine vl_det (det_assign rfl) rfl ?_
          refine vl_end [(0, _), (7, _), (8, _), (9, _), (10, _)] ⟨rfl, rfl, rfl, rfl, rfl, trivial⟩ ?_
          refine in_loop_ ⟨_, by omega, j + 1, q + sz, s.int' 2000, S ++ [s.int 2000], A43, c43, ⟨by omega, by omega, by simp; omega, ho.int' (by omega), by rw [Cs.int'_b]; exact hsb, fun i hi => by
  rcases Nat.lt_or_ge i S.length with h | h
  · rw [show (S ++ [s.int 2000]).getD i 0 = S.getD i 0 by simp [List.getD, List.getElem?_append_left h]]; exact hS2 i h
  · have : i = S.length := by simp at hi; omega
    rw [this]; simp; omega, hS⟩, rfl, ⟨(by first | rfl | exact int_to (by omega) | exact sl_to (by omega)), (by first | rfl | exact int_to (by omega) | exact sl_to (by omega)), (by first | rfl | exact int_to (by omega) | exact sl_to (by omega)), (by first | rfl | exact int_to (by omega) | exact sl_to (by omega)), (by first | rfl | exact int_to (by omega) | exact sl_to (by omega)), trivial⟩, .cons (.cons (wk_own hel (by simp [natv]) (.refl _)))⟩
        · skip
          have hSS : (s, S) = dictS sz b := by
            rw [← hS]
            by_cases h : j = chN sz N
            · rw [h, Nat.sub_self]; rfl
            · rw [show chN sz N - j = (chN sz N - (j + 1)) + 1 by omega, sizF, if_pos]
              intro h0
              exact h35 ⟨by have := (chN_lt hs1).1 (show j < chN sz N by omega); omega, h0⟩
          have hcm : s.e = 0 → S.length = chN sz N := by
            intro h0
            rcases Nat.lt_or_ge j (chN sz N) with h | h
            · exact absurd ⟨by have := (chN_lt hs1).1 h; omega, h0⟩ h35
            · omega
          rw [← hSS] at hDF
          refine vc_exit ?_
          refine then_exit ?_
          refine loop_exit ?_
          refine in_eq ?_
          refine then_next ?_
          refine vc_seq ?_
          refine vc_nil_row 9 1 none ?_
          refine vc_nil_row 9 1 none ?_
          refine vc_region ?_
          refine vl_det (det_move rfl) rfl ?_
          refine vl_det (det_buildp [(1, _)] [.slice none 0 0, .int .i64 0, .slice none 0 0] [1] [_, _, _] rfl rfl (by kernel_rfl)) rfl ?_
          refine vl_eff (eff_box rfl rfl) rfl ?_
          rintro _ _ ⟨g46, rfl, rfl⟩
          refine vl_det (det_assign rfl) rfl ?_
          refine vl_end [(0, _), (7, _), (8, _), (9, _), (11, _)] ⟨rfl, rfl, rfl, rfl, rfl, trivial⟩ ?_
          refine then_next ?_
          refine vc_seq ?_
          refine vc_seq ?_
          refine vc_region ?_
          refine vl_det (det_move rfl) rfl ?_
          refine vl_det (det_len_sl Tryz.underlying42 rfl) rfl ?_
          refine vl_det (det_move rfl) rfl ?_
          refine vl_end [(0, _), (7, _), (8, _), (11, _), (47, _), (48, _), (49, _)] ⟨rfl, rfl, rfl, rfl, rfl, rfl, rfl, trivial⟩ ?_
          refine then_next ?_
          refine vc_block ?_
          refine vc_loopJ (fun zf zL zm => ∃ (i z : Nat) (u : Cs) (o h : List Txt) (P1 : Option Addr) (p1 : Nat) (P2 : Option Addr) (p2 : Nat), (i ≤ S.length ∧ z = i * sz ∧ o.length = min z N ∧ CsOk u ∧ u.b = b ∧ (u.e = 0 → S.length = chN sz N) ∧ Le25 o ∧ h = (List.range i).map (fun j => o.getD (j * sz) []) ∧ bodyF sz N (S.drop i) u o = dictF sz b) ∧ S.length - i = zm ∧ Sub zf [(0, .int .i64 sz), (7, .pointer (some ⟨g25, 0, none⟩)), (8, .int .i64 N), (11, .pointer (some ⟨g46, 0, none⟩)), (47, .slice A9 S.length c9), (48, .int .i64 S.length), (49, .int .i64 i)] ∧ Wk zL (Cv g25 A25 c25 u :: .own 5 1 A25 b.length c25 (bv b) :: Dd g46 sz P1 p1 P2 p2 o h (.own 3 1 A9 S.length c9 (natv S) :: F))) _ ⟨0, 0, s, [], [], none, 0, none, 0, ⟨Nat.zero_le _, (Nat.zero_mul _).symm, by simp, ho, hsb, hcm, fun x hx => absurd hx (by simp), rfl, hDF.symm⟩, rfl, ⟨(by first | rfl | exact int_to (by omega) | exact sl_to (by omega)), (by first | rfl | exact int_to (by omega) | exact sl_to (by omega)), (by first | rfl | exact int_to (by omega) | exact sl_to (by omega)), (by first | rfl | exact int_to (by omega) | exact sl_to (by omega)), (by first | rfl | exact int_to (by omega) | exact sl_to (by omega)), (by first | rfl | exact int_to (by omega) | exact sl_to (by omega)), (by first | rfl | exact int_to (by omega) | exact sl_to (by omega)), trivial⟩, (wu3 (wu3 (wu0 (wu0 (wu0 (wu0 (.refl _)))))))⟩ ?_
          rintro _ _ _ ⟨i, z, u, o, h, P1, p1, P2, p2, ⟨hi, hz, hol, hou, hub, huc, ho25, hh, hB⟩, rfl, hs, hp⟩
          refine vc_weaken _ hs (vc_wk hp ?_)
          clear hs hp
          refine vc_seq ?_
          refine vc_region ?_
          refine vl_det (det_lss rfl rfl) rfl ?_
          refine vl_end [(0, _), (7, _), (8, _), (11, _), (47, _), (48, _), (49, _), (50, _)] ⟨rfl, rfl, rfl, rfl, rfl, rfl, rfl, rfl, trivial⟩ ?_
          refine then_next ?_
          refine vc_seq ?_
          refine vc_decideU rfl (fun h50 => ?_) (fun h50 => ?_)
          · skip
            have hiS : i < S.length := by omega
            have hzN : z < N := by have := (chN_lt hs1).1 (show i < chN sz N by omega); omega
            have hoz : o.length = z := by omega
            have hiz : (i + 1) * sz = i * sz + sz := Nat.succ_mul i sz
            have hizb : i * sz ≤ chN sz N * sz := Nat.mul_le_mul_right sz (by omega)
            have hS2k := hS2 i hiS
            rw [drop_getT hiS, bodyF] at hB
            obtain ⟨k, hk⟩ : ∃ k, k = S.getD i 0 := ⟨_, rfl⟩
            have hld : (natv S)[i * 1]? = some (.int .i64 (k : Int)) := by rw [hk]; simp [natv, List.getD, List.getElem?_eq_getElem hiS]
            rw [← hk] at hB hS2k
            obtain ⟨M, hM⟩ : ∃ M, M = min sz (N - o.length) := ⟨_, rfl⟩
            rw [← hM] at hB
            have hMe : min (sz : Int) ((N - z : Nat) : Int) = (M : Int) := by rw [hM, hoz]; omega
            have htk : (u.take k).length ≤ 1000000 := by
              unfold Cs.take
              split
              · simp
              · split
                · simp
                · simp only [List.length_take]; omega
            refine vc_skip ?_
            refine then_next ?_
            refine vc_seq ?_
            refine vc_block ?_
            refine vc_seq ?_
            refine vc_region ?_
            refine vl_det (det_move rfl) rfl ?_
            refine vl_det (det_indexAddr (size := 1) Tryz.underlying42 (by kernel_rfl) rfl rfl rfl (by omega) (by first | (exact Bor.own (by repeat (first | exact List.Mem.head _ | apply List.Mem.tail))) | (repeat (first | assumption | apply Bor.cons)))) rfl ?_
            refine vl_det (det_load_row (by kernel_rfl) rfl (by first | (exact Bor.own (by repeat (first | exact List.Mem.head _ | apply List.Mem.tail))) | (repeat (first | assumption | apply Bor.cons))) (by omega) hld) rfl ?_
            refine vl_det (det_assign rfl) rfl ?_
            refine vl_det (det_assign rfl) rfl ?_
            refine vl_end [(0, _), (7, _), (8, _), (11, _), (12, _), (13, _), (47, _), (48, _), (49, _)] ⟨rfl, rfl, rfl, rfl, rfl, rfl, rfl, rfl, rfl, trivial⟩ ?_
            refine then_next ?_
            refine vc_seq ?_
            refine vc_region ?_
            refine vl_det (det_move rfl) rfl ?_
            refine vl_det (det_move rfl) rfl ?_
            refine vl_call co40 rfl (ctake_d hou (by rw [hub]; exact (by first | (exact Bor.own (by repeat (first | exact List.Mem.head _ | apply List.Mem.tail))) | (repeat (first | assumption | apply Bor.cons)))) (m := (k : Int)) (by omega) (by omega)) rfl ?_
            rintro _ _ ⟨A56, c56, rfl, hLL⟩
            obtain rfl := hLL.symm
            refine vl_det (det_assign rfl) rfl ?_
            refine vl_end [(0, _), (7, _), (8, _), (11, _), (12, _), (14, _), (47, _), (48, _), (49, _)] ⟨rfl, rfl, rfl, rfl, rfl, rfl, rfl, rfl, rfl, trivial⟩ ?_
            refine then_next ?_
            refine vc_seq ?_
            refine vc_seq ?_
            refine vc_region ?_
            refine vl_det (det_move rfl) rfl ?_
            refine vl_call co39 rfl (cerr_d) rfl ?_
            rintro _ _ ⟨rfl, hLL⟩
            obtain rfl := hLL.symm
            refine vl_det (det_assign rfl) rfl ?_
            refine vl_end [(0, _), (7, _), (8, _), (11, _), (12, _), (14, _), (15, _), (47, _), (48, _), (49, _)] ⟨rfl, rfl, rfl, rfl, rfl, rfl, rfl, rfl, rfl, rfl, trivial⟩ ?_
            refine then_next ?_
            refine vc_seq ?_
            refine vc_region ?_
            refine vl_det (det_move rfl) rfl ?_
            refine vl_det (det_neq rfl rfl) rfl ?_
            refine vl_end [(0, _), (7, _), (8, _), (11, _), (12, _), (14, _), (15, _), (47, _), (48, _), (49, _), (60, _)] ⟨rfl, rfl, rfl, rfl, rfl, rfl, rfl, rfl, rfl, rfl, rfl, trivial⟩ ?_
            refine then_next ?_
            refine vc_decideU rfl (fun h60 => ?_) (fun h60 => ?_)
            · skip
              rw [if_pos h60] at hB
              refine vc_seq ?_
              refine vc_region ?_
              refine vl_det (det_move rfl) rfl ?_
              refine vl_det (det_assign rfl) rfl ?_
              refine vl_det (det_assign rfl) rfl ?_
              refine vl_det (det_assign rfl) rfl ?_
              refine vl_end [(4, _), (5, _), (6, _)] ⟨rfl, rfl, rfl, trivial⟩ ?_
              refine then_next ?_
              refine vc_ret ?_
              refine then_ret ?_
              refine in_ret ?_
              refine then_ret ?_
              refine loop_ret ?_
              refine in_ret ?_
              refine then_ret ?_
              refine ret_wk (L' := F) (.skip (.skip (.skip (.skip (.skip (.skip (.skip (.refl _)))))))) ?_
              refine ret3_ rfl rfl rfl rfl ?_
              have hz2 := hR1 (by rw [← hB]; exact h60)
              rw [← hB] at hz2
              exact .inl ⟨by rw [hz2]; exact h60, by rw [hz2], rfl⟩
            · skip
              rw [if_neg h60] at hB
              refine vc_skip ?_
              refine then_next ?_
              refine vc_seq ?_
              refine vc_region ?_
              refine vl_det (det_move rfl) rfl ?_
              refine vl_det (det_move rfl) rfl ?_
              refine vl_det (det_move rfl) rfl ?_
              refine vl_det (det_move rfl) rfl ?_
              refine vl_det (det_move rfl) rfl ?_
              refine vl_det (det_move rfl) rfl ?_
              refine vl_det (det_mul rfl rfl (r := (z : Int)) ((w_i64 (by rw [← Int.natCast_mul]; omega) (by rw [← Int.natCast_mul]; omega)).trans (by rw [hz]; exact Int.natCast_mul i sz))) rfl ?_
              refine vl_det (det_sub rfl rfl (r := ((N - z : Nat) : Int)) ((w_i64 (by omega) (by omega)).trans (by omega))) rfl ?_
              refine vl_det (det_min rfl rfl) rfl ?_
              rw [hMe]
              refine vl_call co41 rfl ((fill_d (b := u.take k) (m := M) (by omega) (by omega) (by first | (exact Bor.own (by repeat (first | exact List.Mem.head _ | apply List.Mem.tail))) | (repeat (first | assumption | apply Bor.cons))) (by omega) ho25 (by omega) (by rw [hh]; simp; omega)).perm ((pu3 (pu3 (pu3 (pu0 (pu0 (pu0 (.refl _))))))))) rfl ?_
              rintro _ _ ⟨P71, p71, Q71, q71, o2, h2, rfl, hLL, hfo⟩
              obtain rfl := hLL.symm
              refine vl_det (det_assign rfl) rfl ?_
              refine vl_end [(0, _), (7, _), (8, _), (11, _), (16, _), (47, _), (48, _), (49, _)] ⟨rfl, rfl, rfl, rfl, rfl, rfl, rfl, rfl, trivial⟩ ?_
              refine then_next ?_
              refine vc_seq ?_
              refine vc_region ?_
              refine vl_det (det_move rfl) rfl ?_
              refine vl_det (det_neq rfl rfl) rfl ?_
              refine vl_end [(0, _), (7, _), (8, _), (11, _), (16, _), (47, _), (48, _), (49, _), (73, _)] ⟨rfl, rfl, rfl, rfl, rfl, rfl, rfl, rfl, rfl, trivial⟩ ?_
              refine then_next ?_
              refine vc_decideU rfl (fun h73 => ?_) (fun h73 => ?_)
              · skip
                rw [if_pos h73] at hB
                refine vc_seq ?_
                refine vc_region ?_
                refine vl_det (det_move rfl) rfl ?_
                refine vl_det (det_assign rfl) rfl ?_
                refine vl_det (det_assign rfl) rfl ?_
                refine vl_det (det_assign rfl) rfl ?_
                refine vl_end [(4, _), (5, _), (6, _)] ⟨rfl, rfl, rfl, trivial⟩ ?_
                refine then_next ?_
                refine vc_ret ?_
                refine in_ret ?_
                refine then_ret ?_
                refine loop_ret ?_
                refine in_ret ?_
                refine then_ret ?_
                refine ret_wk (L' := F) (.skip (.skip (.skip (.skip (.skip (.skip (.skip (.refl _)))))))) ?_
                refine ret3_ rfl rfl rfl rfl ?_
                have hz2 := hR1 (by rw [← hB]; exact h73)
                rw [← hB] at hz2
                exact .inl ⟨by rw [hz2]; exact h73, by rw [hz2], rfl⟩
              · skip
                rw [if_neg h73] at hB
                have h73' : (fillF M true ⟨u.take k, 0, 0⟩ o).2 = 0 := by simpa using h73
                obtain ⟨ho2, hh2, ho225, ho2l⟩ := hfo h73'
                rw [← ho2] at hB
                obtain ⟨t, ht, htl⟩ := fillF_app _ _ _ _ h73'
                rw [← ho2] at ht
                refine vc_skip ?_
                refine in_normal ?_
                refine then_next ?_
                refine vc_region ?_
                refine vl_det (det_add rfl rfl (w_i64 (by omega) (by omega))) rfl ?_
                refine vl_det (det_move rfl) rfl ?_
                refine vl_end [(0, _), (7, _), (8, _), (11, _), (47, _), (48, _), (49, _)] ⟨rfl, rfl, rfl, rfl, rfl, rfl, rfl, trivial⟩ ?_
                refine in_loop_ ⟨_, by omega, i + 1, z + sz, u.take' k, o2, h2, P71, p71, Q71, q71, ⟨by omega, by omega, by omega, hou.take', by rw [Cs.take'_b]; exact hub, fun q => huc (Cs.moved_e0' q), ho225, by rw [hh2, hh, ht]; exact heads_step hz hs1 hol hzN, hB⟩, rfl, ⟨(by first | rfl | exact int_to (by omega) | exact sl_to (by omega)), (by first | rfl | exact int_to (by omega) | exact sl_to (by omega)), (by first | rfl | exact int_to (by omega) | exact sl_to (by omega)), (by first | rfl | exact int_to (by omega) | exact sl_to (by omega)), (by first | rfl | exact int_to (by omega) | exact sl_to (by omega)), (by first | rfl | exact int_to (by omega) | exact sl_to (by omega)), (by first | rfl | exact int_to (by omega) | exact sl_to (by omega)), trivial⟩, (wu3 (wu4 (wu0 (wu0 (wu0 (wu1 (.skip (.refl _))))))))⟩
          · skip
            have hiS : i = S.length := by omega
            rw [List.drop_of_length_le (by omega), bodyF] at hB
            refine vc_exit ?_
            refine then_exit ?_
            refine loop_exit ?_
            refine in_eq ?_
            refine then_next ?_
            refine vc_seq ?_
            refine vc_seq ?_
            refine vc_region ?_
            refine vl_det (det_move rfl) rfl ?_
            refine vl_call co39 rfl (cerr_d) rfl ?_
            rintro _ _ ⟨rfl, hLL⟩
            obtain rfl := hLL.symm
            refine vl_det (det_assign rfl) rfl ?_
            refine vl_end [(7, _), (11, _), (17, _)] ⟨rfl, rfl, rfl, trivial⟩ ?_
            refine then_next ?_
            refine vc_seq ?_
            refine vc_region ?_
            refine vl_det (det_move rfl) rfl ?_
            refine vl_det (det_neq rfl rfl) rfl ?_
            refine vl_end [(7, _), (11, _), (17, _), (79, _)] ⟨rfl, rfl, rfl, rfl, trivial⟩ ?_
            refine then_next ?_
            refine vc_decideU rfl (fun h79 => ?_) (fun h79 => ?_)
            · skip
              rw [if_pos h79] at hB
              refine vc_seq ?_
              refine vc_region ?_
              refine vl_det (det_move rfl) rfl ?_
              refine vl_det (det_assign rfl) rfl ?_
              refine vl_det (det_assign rfl) rfl ?_
              refine vl_det (det_assign rfl) rfl ?_
              refine vl_end [(4, _), (5, _), (6, _)] ⟨rfl, rfl, rfl, trivial⟩ ?_
              refine then_next ?_
              refine vc_ret ?_
              refine then_ret ?_
              refine ret_wk (L' := F) (.skip (.skip (.skip (.skip (.skip (.skip (.refl _))))))) ?_
              refine ret3_ rfl rfl rfl rfl ?_
              have hz2 := hR1 (by rw [← hB]; exact h79)
              rw [← hB] at hz2
              exact .inl ⟨by rw [hz2]; exact h79, by rw [hz2], rfl⟩
            · skip
              rw [if_neg h79] at hB
              refine vc_skip ?_
              refine then_next ?_
              refine vc_seq ?_
              refine vc_region ?_
              refine vl_det (det_move rfl) rfl ?_
              refine vl_det (det_move rfl) rfl ?_
              refine vl_call co42 rfl (dcat_d) rfl ?_
              rintro _ _ ⟨rfl, hLL⟩
              obtain rfl := hLL.symm
              refine vl_det (det_assign rfl) rfl ?_
              refine vl_det (det_assign rfl) rfl ?_
              refine vl_det (det_assign rfl) rfl ?_
              refine vl_end [(4, _), (5, _), (6, _)] ⟨rfl, rfl, rfl, trivial⟩ ?_
              refine then_next ?_
              refine vc_ret ?_
              have hz2 := hR2 (by rw [← hB])
              rw [← hB] at hz2
              have hn : o.length = N := by have := chN_ge (n := N) hs1; have := huc (by simpa using h79); rw [hol, hz, hiS, this]; omega
              have hhd : h = hdS sz o := by unfold hdS; rw [hn, hh, hiS, huc (by simpa using h79)]
              refine ret_wk (L' := Dd g46 sz P1 p1 P2 p2 o h F) ((wu2 (wu2 (wu2 (.skip (.skip (.skip (.refl _)))))))) ?_
              refine ret3_ rfl rfl rfl rfl ?_
              exact .inr ⟨by rw [hz2], by omega, by omega, by rw [hz2]; exact ho25, by rw [hz2]; simp only; omega, g46, P1, p1, P2, p2, by rw [hz2], by rw [hz2, hhd]; rfl⟩
theorem dread_d {size : Int} {b : List UInt8} (hb : Bor B w0 F 1 (.slice A b.length c) b.length (bv b)) (hbl : b.length ≤ 1000000000) :
    Does Tryz.prog B w0 15 [.int .i64 size, .slice A b.length c] F (DictQ size b F) := by
  by_cases hE : size < 1 ∨ 64 < size
  · exact dread_bad hE
  · obtain ⟨sz, rfl⟩ := Int.eq_ofNat_of_zero_le (show 0 ≤ size by omega)
    exact dread_ok (by omega) (by omega) hb hbl
theorem dread_good {sz k : Nat} {b : List UInt8} {l : List Txt} (hs1 : 1 ≤ sz) (hs2 : sz ≤ 64) (hb : Bor B w0 F 1 (.slice A b.length c) b.length (bv b)) (hbl : b.length ≤ 1000000000) (he : dictR sz b = (l, k, 0)) :
    Does Tryz.prog B w0 15 [.int .i64 sz, .slice A b.length c] F (fun r L => ∃ g A1 c1 A2 c2, r = .tuple #[.pointer (some ⟨g, 0, none⟩), .int .i64 k, .int .i64 0] ∧ L = Dd g sz A1 c1 A2 c2 l (hdS sz l) F) :=
  (dread_ok hs1 hs2 hb hbl).mono fun r L h => by
    rcases h with ⟨h, _⟩ | ⟨_, _, _, _, _, g, A1, c1, A2, c2, h1, h2⟩
    · rw [he] at h; exact absurd rfl h
    · rw [he] at h1 h2; exact ⟨g, A1, c1, A2, c2, h1, h2⟩
theorem dread_err {size : Int} {b : List UInt8} (hb : Bor B w0 F 1 (.slice A b.length c) b.length (bv b)) (hbl : b.length ≤ 1000000000) (he : (dictR size b).2.2 ≠ 0) :
    Does Tryz.prog B w0 15 [.int .i64 size, .slice A b.length c] F (fun r L => r = .tuple #[.pointer none, .int .i64 0, .int .i64 (dictR size b).2.2] ∧ L = F) :=
  (dread_d hb hbl).mono fun r L h => by
    rcases h with ⟨_, h1, h2⟩ | ⟨h, _⟩
    · exact ⟨h1, h2⟩
    · exact absurd h he
end Go.Proofs.YtpamjobiohbibaaGreat
namespace Go.Proofs.YtpamjobiohbibaaGreat
open Go.RowKit
set_option linter.unusedVariables false
set_option maxRecDepth 20000
variable {B : Nat} {w0 : World} {F : List Ch} {A A1 A2 : Option Addr} {n c c1 c2 g : Nat} {s : Cs} {sz : Nat} {o h : List Txt}
theorem Does.bor_nil {P : Program} {B : Nat} {w0 : World} {L : List Ch} {ff : FuncId} {args : List Value} {R : Value → List Ch → Prop} {size nn c : Nat} {xs : List Value} (hb : Bor B w0 L size (.slice none nn c) nn xs) (h : nn = 0 → Does P B w0 ff args L R) : Does P B w0 ff args L R := fun w hw => by
  obtain ⟨A', c', hv, hc, hl, hr⟩ := hb w hw
  injection hv with h1 _ h3
  subst h1
  rcases Nat.eq_zero_or_pos nn with h0 | h0
  · exact h h0 w hw
  · obtain ⟨ad, e, _⟩ := hr h0
    cases e
theorem sclone_d (l : List Txt) (hb : Bor B w0 F 1 (.slice A l.length c) l.length (strs l)) (hn : l.length ≤ 1099511627776) :
    Does Tryz.prog B w0 46 [.slice A l.length c] F (fun r L => ∃ A' c', r = .slice A' l.length c' ∧ L = .own 9 1 A' l.length c' (strs l) :: F) := by
  rcases A with _ | ad
  · refine Does.bor_nil hb fun h0 => ?_
    have : l = [] := List.eq_nil_of_length_eq_zero h0
    subst this
    refine fn_walk Tryz.func46 8 rfl rfl rfl [(0, .slice none 0 c)] ⟨⟨rfl, rfl⟩, trivial⟩ ?_
    refine vc_seq ?_
    refine vc_region ?_
    refine vl_det (det_assign rfl) rfl ?_
    refine vl_end [(0, _)] ⟨rfl, trivial⟩ ?_
    refine then_next ?_
    refine vc_seq ?_
    refine vc_seq ?_
    refine vc_region ?_
    refine vl_det (det_move rfl) rfl ?_
    refine vl_det (det_sl_nil Tryz.underlying22 rfl rfl) rfl ?_
    refine vl_end [(0, _), (4, _)] ⟨rfl, rfl, trivial⟩ ?_
    refine then_next ?_
    refine vc_cond_t rfl ?_
    refine vc_seq ?_
    refine vc_region ?_
    refine vl_det (det_assign rfl) rfl ?_
    refine vl_end [(2, _)] ⟨rfl, trivial⟩ ?_
    refine then_next ?_
    refine vc_ret ?_
    refine then_ret ?_
    refine ret_nil_row 9 1 none ?_
    refine ret1 rfl rfl ?_
    exact ⟨none, 0, rfl, rfl⟩
  · skip
    refine fn_walk Tryz.func46 8 rfl rfl rfl [(0, .slice (some ad) l.length c)] ⟨⟨rfl, rfl⟩, trivial⟩ ?_
    refine vc_seq ?_
    refine vc_region ?_
    refine vl_det (det_assign rfl) rfl ?_
    refine vl_end [(0, _)] ⟨rfl, trivial⟩ ?_
    refine then_next ?_
    refine vc_seq ?_
    refine vc_seq ?_
    refine vc_region ?_
    refine vl_det (det_move rfl) rfl ?_
    refine vl_det (det_sl_nil Tryz.underlying22 rfl rfl) rfl ?_
    refine vl_end [(0, _), (4, _)] ⟨rfl, rfl, trivial⟩ ?_
    refine then_next ?_
    refine vc_cond_f rfl ?_
    refine vc_skip ?_
    refine then_next ?_
    refine vc_seq ?_
    refine vc_region ?_
    refine vl_eff (eff_build_empty slT22) rfl ?_
    rintro _ _ ⟨A5, rfl, rfl⟩
    refine vl_det (det_move rfl) rfl ?_
    refine vl_eff (eff_app slT22 rfl (by repeat (first | exact .hd | apply Sel.tl)) rfl (by first | (exact Bor.own (by repeat (first | exact List.Mem.head _ | apply List.Mem.tail))) | (repeat (first | assumption | apply Bor.cons))) (by first | exact bv_one _ | exact strs_one _ | exact ints_one _ _ | (simp; done) | (simp [Value.oneCell']; done) | assumption) (by omega) (by omega)) rfl ?_
    rintro _ _ ⟨A7, c7, rfl, rfl⟩
    refine vl_det (det_assign rfl) rfl ?_
    refine vl_end [(2, _)] ⟨rfl, trivial⟩ ?_
    refine then_next ?_
    refine vc_ret ?_
    rw [Nat.zero_add, List.nil_append]
    refine ret1 rfl rfl ?_
    exact ⟨_, _, rfl, rfl⟩
theorem dall_d (hn : o.length ≤ 1048576) :
    Does Tryz.prog B w0 18 [.pointer (some ⟨g, 0, none⟩)] (Dd g sz A1 c1 A2 c2 o h F) (fun r L => ∃ A' c', r = .slice A' o.length c' ∧ L = Dd g sz A1 c1 A2 c2 o h (.own 9 1 A' o.length c' (strs o) :: F)) := by
  refine fn_walk Tryz.func18 11 rfl rfl rfl [(0, .pointer (some ⟨g, 0, none⟩))] ⟨⟨rfl, rfl⟩, trivial⟩ ?_
  refine vc_seq ?_
  refine vc_region ?_
  refine vl_det (det_assign rfl) rfl ?_
  refine vl_end [(0, _)] ⟨rfl, trivial⟩ ?_
  refine then_next ?_
  refine vc_seq ?_
  refine vc_seq ?_
  refine vc_region ?_
  refine vl_det (det_move rfl) rfl ?_
  refine vl_det (det_ptr_nil Tryz.underlying47 rfl rfl) rfl ?_
  refine vl_end [(0, _), (4, _)] ⟨rfl, rfl, trivial⟩ ?_
  refine then_next ?_
  refine vc_cond_f rfl ?_
  refine vc_skip ?_
  refine then_next ?_
  refine vc_seq ?_
  refine vc_region ?_
  refine vl_det (det_move rfl) rfl ?_
  refine vl_det (det_nilCheck rfl) rfl ?_
  refine vl_det (det_fieldAddr_ Tryz.underlying90 rfl (by kernel_rfl) rfl rfl) rfl ?_
  refine vl_det (det_fieldAddr_ Tryz.underlying88 rfl (by kernel_rfl) rfl rfl) rfl ?_
  refine vl_det (det_load_blk (by kernel_rfl) rfl (by repeat (first | exact .hd | apply Sel.tl)) rfl) rfl ?_
  refine vl_call co46 rfl (sclone_d o (by first | (exact Bor.own (by repeat (first | exact List.Mem.head _ | apply List.Mem.tail))) | (repeat (first | assumption | apply Bor.cons))) (by omega)) rfl ?_
  rintro _ _ ⟨A10, c10, rfl, hLL⟩
  obtain rfl := hLL.symm
  refine vl_det (det_assign rfl) rfl ?_
  refine vl_end [(2, _)] ⟨rfl, trivial⟩ ?_
  refine then_next ?_
  refine vc_ret ?_
  refine ret_wk (L' := Dd g sz A1 c1 A2 c2 o h (.own 9 1 A10 o.length c10 (strs o) :: F)) ((wu1 (wu1 (wu1 (wu0 (.refl _)))))) ?_
  refine ret1 rfl rfl ?_
  exact ⟨A10, c10, rfl, rfl⟩
theorem dlen_d : Does Tryz.prog B w0 17 [.pointer (some ⟨g, 0, none⟩)] (Dd g sz A1 c1 A2 c2 o h F) (fun r L => r = .int .i64 o.length ∧ L = Dd g sz A1 c1 A2 c2 o h F) := by
  refine fn_walk Tryz.func17 11 rfl rfl rfl [(0, .pointer (some ⟨g, 0, none⟩))] ⟨⟨rfl, rfl⟩, trivial⟩ ?_
  refine vc_seq ?_
  refine vc_region ?_
  refine vl_det (det_assign rfl) rfl ?_
  refine vl_end [(0, _)] ⟨rfl, trivial⟩ ?_
  refine then_next ?_
  refine vc_seq ?_
  refine vc_seq ?_
  refine vc_region ?_
  refine vl_det (det_move rfl) rfl ?_
  refine vl_det (det_ptr_nil Tryz.underlying47 rfl rfl) rfl ?_
  refine vl_end [(0, _), (4, _)] ⟨rfl, rfl, trivial⟩ ?_
  refine then_next ?_
  refine vc_cond_f rfl ?_
  refine vc_skip ?_
  refine then_next ?_
  refine vc_seq ?_
  refine vc_region ?_
  refine vl_det (det_move rfl) rfl ?_
  refine vl_det (det_nilCheck rfl) rfl ?_
  refine vl_det (det_fieldAddr_ Tryz.underlying90 rfl (by kernel_rfl) rfl rfl) rfl ?_
  refine vl_det (det_fieldAddr_ Tryz.underlying88 rfl (by kernel_rfl) rfl rfl) rfl ?_
  refine vl_det (det_load_blk (by kernel_rfl) rfl (by repeat (first | exact .hd | apply Sel.tl)) rfl) rfl ?_
  refine vl_det (det_len_sl Tryz.underlying22 rfl) rfl ?_
  refine vl_det (det_assign rfl) rfl ?_
  refine vl_end [(2, _)] ⟨rfl, trivial⟩ ?_
  refine then_next ?_
  refine vc_ret ?_
  refine ret1 rfl rfl ?_
  exact ⟨rfl, rfl⟩
/-- a text's place -/
def fndK (o : List Txt) (t : Txt) (k : Nat) : Prop := (t ∈ o ∧ k < o.length ∧ o.getD k [] = t) ∨ (t ∉ o ∧ k = 0)
end Go.Proofs.YtpamjobiohbibaaGreat
namespace Go.Proofs.YtpamjobiohbibaaGreat
open Go.RowKit
set_option linter.unusedVariables false
theorem Cs.moved_mk {s : Cs} (h : s.e = 0) {k : Nat} {e : Int} (hk : e ≠ 0 → k = 0) : s.moved k e = ⟨s.b, s.at_ + k, e⟩ := by
  unfold Cs.moved
  rw [if_neg (by simp [h])]
  split
  · rename_i he; rw [hk he]; rfl
  · rename_i he
    have : e = 0 := by simpa using he
    rw [this, ← h]
theorem Cs.int_mk {s : Cs} (h : s.e = 0) (m : Int) : s.int m = (limS s.rest m).1 ∧ s.int' m = ⟨s.b, s.at_ + (limS s.rest m).2.1, (limS s.rest m).2.2⟩ := ⟨by simp [Cs.int, h], Cs.moved_mk h fun he => (limS_err he).2⟩
theorem tex3_err {l : List UInt8} {x k : Nat} {er : Int} (h : (tex3 l x k er).2.2 ≠ 0) : (tex3 l x k er).1 = [] ∧ (tex3 l x k er).2.1 = 0 := by
  unfold tex3 at h ⊢
  split
  · exact ⟨rfl, rfl⟩
  · split
    · exact ⟨rfl, rfl⟩
    · rename_i h1 h2
      rw [if_neg h1, if_neg h2] at h
      exact absurd rfl h
theorem Cs.text_mk {s : Cs} (h : s.e = 0) (m : Int) : s.text m = (textS s.rest m).1 ∧ s.text' m = ⟨s.b, s.at_ + (textS s.rest m).2.1, (textS s.rest m).2.2⟩ := ⟨by simp [Cs.text, h], Cs.moved_mk h fun he => (tex3_err he).2⟩
end Go.Proofs.YtpamjobiohbibaaGreat
namespace Go.Proofs.YtpamjobiohbibaaGreat
theorem Cs.moved_bad {s : Cs} (h : s.e = 0) (n : Nat) {er : Int} (he : er ≠ 0) : s.moved n er = { s with e := er } := by unfold Cs.moved; rw [if_neg (by simp [h]), if_pos he]
theorem Cs.moved_ok {s : Cs} (h : s.e = 0) (n : Nat) : s.moved n 0 = { s with at_ := s.at_ + n } := by unfold Cs.moved; rw [if_neg (by simp [h]), if_neg (by simp)]
theorem Cs.moved_err {s : Cs} (h : s.e ≠ 0) (n : Nat) (er : Int) : s.moved n er = s := by unfold Cs.moved; rw [if_pos h]
theorem Cs.end_err {s : Cs} (h : s.end'.e = 0) : s.e = 0 ∧ s.left = 0 := by
  unfold Cs.end' at h
  split at h
  · unfold Cs.failed at h
    split at h
    · exact absurd h (by simp)
    · rename_i h1 h2
      exact absurd h h2
  · exact ⟨h, by omega⟩
theorem Cs.rest_move {s : Cs} {a r : List UInt8} {n : Nat} (hr : s.rest = a ++ r) (hn : n = a.length) : Cs.rest { s with at_ := s.at_ + n } = r := by
  unfold Cs.rest at hr ⊢
  show s.b.drop (s.at_ + n) = r
  rw [← List.drop_drop, hr, hn, List.drop_left]
/-- a text that stands ahead is read -/
theorem Cs.text_at {s : Cs} {t r : List UInt8} (h0 : s.e = 0) {most : Int} (ht : (t.length : Int) ≤ most) (hm : most ≤ 9223372036854775807) (hr : s.rest = encT t ++ r) :
    s.text most = t ∧ s.text' most = { s with at_ := s.at_ + (encT t).length } := by
  have hs : scanS (encT t ++ r) = (t.length, (encN t.length).length, 0) := by
    unfold encT; rw [List.append_assoc]; exact scanS_back _ (by omega) _
  have hl : limS (encT t ++ r) most = (t.length, (encN t.length).length, 0) := by
    unfold limS; rw [hs]; simp only [ne_eq, not_true_eq_false, if_false]
    rw [if_neg (by omega)]
  have hx : textS (encT t ++ r) most = (t, (encN t.length).length + t.length, 0) := by
    unfold textS; rw [hl]; simp only [ne_eq, not_true_eq_false, if_false]
    rw [if_neg (by simp only [encT, List.length_append]; omega)]
    have e1 : (encT t ++ r).drop (encN t.length).length = t ++ r := by unfold encT; rw [List.append_assoc, List.drop_left]
    rw [e1, List.take_left]
  unfold Cs.text Cs.text'
  rw [hr, hx, if_neg (by simp [h0])]
  refine ⟨rfl, ?_⟩
  rw [Cs.moved_ok h0]
  simp [encT]
theorem Cs.take_at {s : Cs} {t r : List UInt8} (h0 : s.e = 0) {n : Int} (hn : n = t.length) (hr : s.rest = t ++ r) :
    s.take n = t ∧ s.take' n = { s with at_ := s.at_ + t.length } := by
  have ht : takeErr (t ++ r) n = 0 := by
    unfold takeErr
    rw [if_neg (by omega), if_neg (by simp; omega)]
  unfold Cs.take Cs.take'
  rw [hr, ht, if_neg (by simp [h0]), if_neg (by simp), hn, Int.toNat_natCast, List.take_left]
  exact ⟨rfl, Cs.moved_ok h0 _⟩
theorem Cs.end_at {s : Cs} (h0 : s.e = 0) (hr : s.rest = []) : s.end'.e = 0 := by
  unfold Cs.end'
  have : s.left = 0 := by
    have := congrArg List.length hr
    simp [Cs.rest] at this
    unfold Cs.left; omega
  rw [if_neg (by omega)]
  exact h0
/-- p was read -/
structure Rds (s s' : Cs) (p : List UInt8) : Prop where
  e0 : s.e = 0
  eq : s' = ⟨s.b, s.at_ + p.length, 0⟩
  rest : s.rest = p ++ s'.rest
theorem Rds.e1 {s s' : Cs} {p : List UInt8} (h : Rds s s' p) : s'.e = 0 := by rw [h.eq]
theorem Rds.nil {s : Cs} (h : s.e = 0) : Rds s s [] := ⟨h, by cases s; simp at h; simp [h], rfl⟩
theorem Rds.trans {s s' s'' : Cs} {p q : List UInt8} (h : Rds s s' p) (k : Rds s' s'' q) : Rds s s'' (p ++ q) := by
  refine ⟨h.e0, ?_, by rw [h.rest, k.rest, List.append_assoc]⟩
  rw [k.eq, h.eq, List.length_append, Nat.add_assoc]
theorem Rds.of_moved {s : Cs} {k : Nat} {er : Int} {p : List UInt8} (h : (s.moved k er).e = 0) (hp : er = 0 → p = s.rest.take k) (hk : er = 0 → k ≤ s.rest.length) : er = 0 ∧ Rds s (s.moved k er) p := by
  by_cases h0 : s.e = 0
  · by_cases he : er = 0
    · subst he
      have e1 := hp rfl
      have e2 := hk rfl
      have hl : p.length = k := by rw [e1, List.length_take]; omega
      rw [Cs.moved_ok h0]
      refine ⟨rfl, h0, by rw [hl, ← h0], ?_⟩
      rw [e1]
      show s.rest = s.rest.take k ++ s.b.drop (s.at_ + k)
      rw [← List.drop_drop]
      exact (List.take_append_drop k s.rest).symm
    · rw [Cs.moved_bad h0 _ he] at h
      exact absurd h he
  · rw [Cs.moved_err h0] at h
    exact absurd h h0
theorem Rds.rest_eq {s s' : Cs} {p r : List UInt8} (h : Rds s s' p) (hr : s.rest = p ++ r) : s'.rest = r := by
  have := h.rest
  rw [hr] at this
  exact (List.append_cancel_left this).symm
theorem limS_ok {l : List UInt8} {m : Int} (h : (limS l m).2.2 = 0) : (scanS l).2.2 = 0 ∧ limS l m = ((scanS l).1, (scanS l).2.1, 0) ∧ ((scanS l).1 : Int) ≤ m := by
  unfold limS at h ⊢
  by_cases h1 : (scanS l).2.2 ≠ 0
  · rw [if_pos h1] at h; exact absurd h h1
  · rw [if_neg h1] at h ⊢
    by_cases h2 : m < 0 ∨ m < (scanS l).1
    · rw [if_pos h2] at h; simp at h
    · rw [if_neg h2] at h ⊢
      exact ⟨by simpa using h1, rfl, by omega⟩
theorem Cs.moved_e0 {s : Cs} {k : Nat} {er : Int} (h : (s.moved k er).e = 0) : s.e = 0 ∧ er = 0 := by
  by_cases h0 : s.e = 0
  · by_cases he : er = 0
    · exact ⟨h0, he⟩
    · rw [Cs.moved_bad h0 _ he] at h; exact absurd h he
  · rw [Cs.moved_err h0] at h; exact absurd h h0
theorem Cs.int_rds {s : Cs} {m : Int} (h : (s.int' m).e = 0) : Rds s (s.int' m) (encN (s.int m)) ∧ (s.int m : Int) ≤ m ∧ s.int m < 18446744073709551616 := by
  obtain ⟨h0, he⟩ := Cs.moved_e0 h
  obtain ⟨h1, h2, h3⟩ := limS_ok he
  have hi : s.int m = (scanS s.rest).1 := by rw [(Cs.int_mk h0 m).1, h2]
  refine ⟨(Rds.of_moved h (fun _ => by rw [hi, scanS_enc h1, h2]) (fun _ => by rw [h2]; exact (scanS_facts _).2.1)).2, by rw [hi]; exact h3, by rw [hi]; exact (scanS_facts _).1⟩
theorem Cs.int_at' {s : Cs} {x : Nat} {r : List UInt8} (h0 : s.e = 0) {m : Int} (hx : (x : Int) ≤ m) (hm : m ≤ 9223372036854775807) (hr : s.rest = encN x ++ r) : s.int m = x ∧ Rds s (s.int' m) (encN x) := by
  have hs := scanS_back x (by omega) r
  have hl : limS s.rest m = (x, (encN x).length, 0) := by
    unfold limS; rw [hr, hs]; simp only [ne_eq, not_true_eq_false, if_false]
    rw [if_neg (by omega)]
  have h2 := (Cs.int_mk h0 m).2
  rw [hl] at h2
  refine ⟨by rw [(Cs.int_mk h0 m).1, hl], h0, h2, ?_⟩
  rw [h2, hr]
  congr 1
  exact (Cs.rest_move hr rfl).symm
theorem Cs.text_rds {s : Cs} {m : Int} (h : (s.text' m).e = 0) : Rds s (s.text' m) (encT (s.text m)) ∧ ((s.text m).length : Int) ≤ m := by
  obtain ⟨h0, he⟩ := Cs.moved_e0 h
  have e : textS s.rest m = tex3 s.rest (limS s.rest m).1 (limS s.rest m).2.1 (limS s.rest m).2.2 := rfl
  rw [e] at he
  by_cases hl : (limS s.rest m).2.2 = 0
  · obtain ⟨h1, h2, h3⟩ := limS_ok hl
    by_cases hx : s.rest.length - (limS s.rest m).2.1 < (limS s.rest m).1
    · rw [tex3_b (by simpa using hl) hx] at he; simp at he
    · have e2 := tex3_c (l := s.rest) (x := (limS s.rest m).1) (k := (limS s.rest m).2.1) (er := (limS s.rest m).2.2) (by simpa using hl) hx
      rw [← e, h2] at e2
      rw [h2] at hx
      simp only at e2 hx
      have hk := (scanS_facts s.rest).2.1
      have ht : s.text m = (s.rest.drop (scanS s.rest).2.1).take (scanS s.rest).1 := by rw [(Cs.text_mk h0 m).1, e2]
      have htl : (s.text m).length = (scanS s.rest).1 := by rw [ht, List.length_take, List.length_drop]; omega
      refine ⟨(Rds.of_moved h (fun _ => ?_) (fun _ => by rw [e2]; simp only; omega)).2, by rw [htl]; exact h3⟩
      rw [encT, htl, scanS_enc h1, ht, e2]
      simp only
      rw [List.take_add]
  · rw [tex3_a hl] at he; exact absurd he hl
theorem Cs.text_at' {s : Cs} {t r : List UInt8} (h0 : s.e = 0) {m : Int} (ht : (t.length : Int) ≤ m) (hm : m ≤ 9223372036854775807) (hr : s.rest = encT t ++ r) : s.text m = t ∧ Rds s (s.text' m) (encT t) := by
  obtain ⟨h1, h2⟩ := Cs.text_at h0 ht hm hr
  refine ⟨h1, h0, by rw [h2, h0], ?_⟩
  rw [h2, Cs.rest_move hr rfl, hr]
theorem Cs.take_rds {s : Cs} {n : Int} (h : (s.take' n).e = 0) : Rds s (s.take' n) (s.take n) ∧ (s.take n).length = n.toNat ∧ 0 ≤ n := by
  obtain ⟨h0, he⟩ := Cs.moved_e0 h
  have ht := takeErr_le he
  have e : s.take n = s.rest.take n.toNat := by rw [take_of h0, takeT, if_neg (by simpa using he)]
  exact ⟨(Rds.of_moved h (fun _ => e) (fun _ => ht.2)).2, by rw [e, List.length_take]; omega, ht.1⟩
theorem Cs.take_at' {s : Cs} {t r : List UInt8} (h0 : s.e = 0) {n : Int} (hn : n = t.length) (hr : s.rest = t ++ r) : s.take n = t ∧ Rds s (s.take' n) t := by
  obtain ⟨h1, h2⟩ := Cs.take_at h0 hn hr
  refine ⟨h1, h0, by rw [h2, h0], ?_⟩
  rw [h2, Cs.rest_move hr rfl, hr]
end Go.Proofs.YtpamjobiohbibaaGreat
namespace Go.Proofs.YtpamjobiohbibaaGreat
open Go.RowKit
set_option linter.unusedVariables false
set_option maxRecDepth 20000
/-- texts that rise behind another one -/
def ChT : Txt → List Txt → Prop
  | _, [] => True
  | w, s :: r => mayT w s ∧ ChT s r
/-- the last one behind w -/
def endT : Txt → List Txt → Txt
  | w, [] => w
  | _, s :: r => endT s r
theorem endT_snoc : ∀ (w : Txt) (l : List Txt) (x : Txt), endT w (l ++ [x]) = x
  | _, [], _ => rfl
  | _, s :: r, x => endT_snoc s r x
theorem endT_app : ∀ (w : Txt) (a b : List Txt), endT w (a ++ b) = endT (endT w a) b
  | _, [], _ => rfl
  | _, s :: r, b => endT_app s r b
theorem prvT_end : ∀ (l : List Txt), prvT l l.length = endT [] l := by
  intro l
  rcases List.eq_nil_or_concat l with rfl | ⟨l', x, rfl⟩
  · rfl
  · rw [List.concat_eq_append, endT_snoc]
    unfold prvT
    rw [if_neg (by simp)]
    simp
theorem ChT.app : ∀ {w : Txt} {a b : List Txt}, ChT w a → ChT (endT w a) b → ChT w (a ++ b)
  | _, [], _, _, h => h
  | _, s :: r, b, h, k => ⟨h.1, ChT.app h.2 k⟩
theorem ChT.left : ∀ {w : Txt} {a b : List Txt}, ChT w (a ++ b) → ChT w a
  | _, [], _, _ => trivial
  | _, s :: r, b, h => ⟨h.1, ChT.left h.2⟩
theorem ChT.right : ∀ {w : Txt} {a b : List Txt}, ChT w (a ++ b) → ChT (endT w a) b
  | _, [], _, h => h
  | _, s :: r, b, h => ChT.right (a := r) h.2
theorem ChT.get : ∀ {w : Txt} {l : List Txt}, ChT w l → ∀ i, i < l.length → mayT (if i = 0 then w else l.getD (i - 1) []) (l.getD i [])
  | _, [], _, i, hi => absurd hi (by simp)
  | w, s :: r, h, 0, _ => by simpa using h.1
  | w, s :: r, h, i + 1, hi => by
    have := ChT.get h.2 i (by simpa using hi)
    cases i with
    | zero => simpa using this
    | succ i => simpa using this
theorem ChT.of_get : ∀ {w : Txt} {l : List Txt}, (∀ i, i < l.length → mayT (if i = 0 then w else l.getD (i - 1) []) (l.getD i [])) → ChT w l
  | _, [], _ => trivial
  | w, s :: r, h => by
    refine ⟨by simpa using h 0 (by simp), ChT.of_get fun i hi => ?_⟩
    have := h (i + 1) (by simpa using hi)
    cases i with
    | zero => simpa using this
    | succ i => simpa using this
theorem RisT.ch {l : List Txt} (h : RisT l) : ChT [] l := ChT.of_get h.1
theorem ChT.ris {l : List Txt} (h : ChT [] l) (hl : l.length ≤ 1048576) : RisT l := ⟨h.get, hl⟩
theorem lcp_take : ∀ a b : Txt, a.take (lcp a b) = b.take (lcp a b)
  | [], b => by simp [lcp]
  | x :: a, [] => by simp [lcp]
  | x :: a, y :: b => by
    unfold lcp
    split
    · rename_i h; simp [h, lcp_take a b]
    · simp
theorem lcp_lt : ∀ {a b : Txt}, ltT a b → lcp a b < b.length
  | _, [], h => absurd h (not_ltT_nil _)
  | [], y :: b, _ => by simp [lcp]
  | x :: a, y :: b, h => by
    unfold lcp
    rw [ltT_cons] at h
    split
    · rename_i he
      subst he
      rcases h with h | ⟨_, h⟩
      · rw [u8_lt] at h; omega
      · have := lcp_lt h; simp; omega
    · simp
theorem u8len {x : Nat} (h : x < 128) : (encN x).length = 1 := by rw [encN_lt h]; rfl
theorem encT_len1 {t : Txt} (h : t.length < 128) : (encT t).length = t.length + 1 := by
  unfold encT; rw [List.length_append, u8len h]; omega
theorem tailT_27 : ∀ (was : Txt) (r : List Txt), was.length ≤ 25 → (∀ s ∈ r, s.length ≤ 25) → (tailT was r).length ≤ r.length * 27
  | _, [], _, _ => by simp [tailT]
  | was, s :: r, hw, h => by
    have hs := h s (by simp)
    have := tailT_27 s r hs (fun x hx => h x (by simp [hx]))
    have hl := lcp_le was s
    unfold tailT
    rw [List.length_append, List.length_append, u8len (by omega), encT_len1 (by rw [List.length_drop]; omega), List.length_drop, List.length_cons, Nat.add_mul]
    omega
theorem bucketT_27 {X : List Txt} (hl : X.length ≤ 64) (h : ∀ s ∈ X, s.length ≤ 25) : (bucketT X).length ≤ 2000 := by
  cases X with
  | nil => simp [bucketT]
  | cons t r =>
    have ht := h t (by simp)
    have := tailT_27 t r ht (fun x hx => h x (by simp [hx]))
    simp only [List.length_cons] at hl
    unfold bucketT
    rw [List.length_append, encT_len1 (by omega)]
    omega
/-! what was written is read -/
theorem nx_at2 {s : Cs} {was x : Txt} {r : List UInt8} (h0 : s.e = 0) (hw : was.length ≤ 1000) (hm : mayT was x) (hr : s.rest = encN (lcp was x) ++ encT (x.drop (lcp was x)) ++ r) : nxT s was false = x ∧ (nxC s was false).e = 0 ∧ (nxC s was false).rest = r := by
  have hl := lcp_le was x
  have hlt := lcp_lt (not_leT.1 hm.2.2)
  rw [List.append_assoc] at hr
  obtain ⟨h1, h2⟩ := Cs.int_at' h0 (m := was.length) (by omega) (by omega) hr
  have hr1 := h2.rest_eq hr
  obtain ⟨h3, h4⟩ := Cs.text_at' h2.e1 (m := 25) (by rw [List.length_drop]; have := hm.2.1; omega) (by omega) hr1
  have hr2 := h4.rest_eq hr1
  have hX : nxX s was false = x := by
    show was.take (s.int was.length) ++ (s.int' was.length).text 25 = x
    rw [h1, h3, lcp_take, List.take_append_drop]
  have hS : nxS s was false = (s.int' was.length).text' 25 := rfl
  have hB : ¬ nxBad s was false := by
    rintro (h | h | ⟨_, h⟩)
    · have h : (s.int' was.length).text 25 = [] := h
      rw [h3] at h
      have := congrArg List.length h
      rw [List.length_drop] at this
      simp at this; omega
    · rw [hX] at h; exact h hm
    · rw [hX] at h
      exact h h1.symm
  have hC : nxC s was false = (s.int' was.length).text' 25 := by
    unfold nxC
    rw [hS, if_neg (by simpa using h4.e1), if_neg hB]
  refine ⟨?_, by rw [hC]; exact h4.e1, by rw [hC]; exact hr2⟩
  unfold nxT
  rw [hS, if_neg (by simpa using h4.e1), hX]
theorem nx_at1 {s : Cs} {was x : Txt} {r : List UInt8} (h0 : s.e = 0) (hm : mayT was x) (hr : s.rest = encT x ++ r) : nxT s was true = x ∧ (nxC s was true).e = 0 ∧ (nxC s was true).rest = r := by
  obtain ⟨h3, h4⟩ := Cs.text_at' h0 (m := 25) (by have := hm.2.1; omega) (by omega) hr
  have hr2 := h4.rest_eq hr
  have hX : nxX s was true = x := by
    show was.take 0 ++ s.text 25 = x
    rw [h3]; rfl
  have hS : nxS s was true = s.text' 25 := rfl
  have hB : ¬ nxBad s was true := by
    rintro (h | h | ⟨h, _⟩)
    · have h : s.text 25 = [] := h
      rw [h3] at h
      exact hm.1 h
    · rw [hX] at h; exact h hm
    · cases h
  have hC : nxC s was true = s.text' 25 := by
    unfold nxC
    rw [hS, if_neg (by simpa using h4.e1), if_neg hB]
  refine ⟨?_, by rw [hC]; exact h4.e1, by rw [hC]; exact hr2⟩
  unfold nxT
  rw [hS, if_neg (by simpa using h4.e1), hX]
theorem fill_tail : ∀ (r out : List Txt) (s : Cs), s.e = 0 → (prvT out out.length).length ≤ 1000 → s.rest = tailT (prvT out out.length) r → ChT (prvT out out.length) r → fillF r.length false s out = (out ++ r, 0)
  | [], out, s, h0, _, hr, _ => by
    have := Cs.end_at h0 hr
    simp [fillF, this]
  | x :: r, out, s, h0, hw, hr, hc => by
    obtain ⟨h1, h2, h3⟩ := nx_at2 h0 hw hc.1 hr
    have hp : prvT (out ++ [x]) (out ++ [x]).length = x := by rw [prvT_end, endT_snoc]
    show fillF (r.length + 1) false s out = _
    unfold fillF
    rw [if_neg (by simpa using h2), h1, fill_tail r (out ++ [x]) _ h2 (by rw [hp]; have := hc.1.2.1; omega) (by rw [hp]; exact h3) (by rw [hp]; exact hc.2)]
    simp
theorem fill_bucket {X out : List Txt} (hne : X ≠ []) (hc : ChT (prvT out out.length) X) : fillF X.length true ⟨bucketT X, 0, 0⟩ out = (out ++ X, 0) := by
  cases X with
  | nil => exact absurd rfl hne
  | cons x r =>
    obtain ⟨h1, h2, h3⟩ := nx_at1 (s := ⟨bucketT (x :: r), 0, 0⟩) rfl hc.1 (show Cs.rest ⟨bucketT (x :: r), 0, 0⟩ = encT x ++ tailT x r from rfl)
    have hp : prvT (out ++ [x]) (out ++ [x]).length = x := by rw [prvT_end, endT_snoc]
    show fillF (r.length + 1) true _ out = _
    unfold fillF
    rw [if_neg (by simpa using h2), h1, fill_tail r (out ++ [x]) _ h2 (by rw [hp]; have := hc.1.2.1; omega) (by rw [hp]; exact h3) (by rw [hp]; exact hc.2)]
    simp
theorem sizF_at : ∀ (ns : List Nat) (s : Cs) (out : List Nat) (r : List UInt8), s.e = 0 → (∀ n ∈ ns, n ≤ 2000) → s.rest = ns.flatMap encN ++ r → ∃ s', sizF ns.length s out = (s', out ++ ns) ∧ Rds s s' (ns.flatMap encN)
  | [], s, out, r, h0, _, hr => ⟨s, by simp [sizF], Rds.nil h0⟩
  | n :: ns, s, out, r, h0, hn, hr => by
    have hn1 := hn n (by simp)
    rw [List.flatMap_cons, List.append_assoc] at hr
    obtain ⟨h1, h2⟩ := Cs.int_at' h0 (m := 2000) (by omega) (by omega) hr
    obtain ⟨s', h3, h4⟩ := sizF_at ns (s.int' 2000) (out ++ [n]) r h2.e1 (fun x hx => hn x (by simp [hx])) (h2.rest_eq hr)
    refine ⟨s', ?_, ?_⟩
    · show sizF (ns.length + 1) s out = _
      unfold sizF
      rw [if_neg (by simpa using h0), h1, h3]
      simp
    · rw [List.flatMap_cons]; exact h2.trans h4
theorem take_ck (l : List Txt) (sz i : Nat) : l.take (i * sz) ++ ck l sz i = l.take ((i + 1) * sz) := by
  unfold ck
  rw [Nat.add_mul, Nat.one_mul, List.take_add]
theorem bodyF_at {l : List Txt} {sz : Nat} (hR : RisT l) (hs1 : 1 ≤ sz) : ∀ (m i : Nat) (s : Cs) (r : List UInt8), i + m = chN sz l.length → s.e = 0 → s.rest = bodyT l sz (List.range' i m) ++ r →
    ∃ s', bodyF sz l.length ((List.range' i m).map fun j => (bucketT (ck l sz j)).length) s (l.take (i * sz)) = (l, s', 0) ∧ Rds s s' (bodyT l sz (List.range' i m))
  | 0, i, s, r, hi, h0, hr => by
    have hge := chN_ge (sz := sz) (n := l.length) hs1
    refine ⟨s, ?_, Rds.nil h0⟩
    have : i = chN sz l.length := by omega
    simp only [List.range'_zero, List.map_nil, bodyF]
    rw [if_neg (by simpa using h0), this, List.take_of_length_le hge]
  | m + 1, i, s, r, hi, h0, hr => by
    rw [List.range'_succ] at hr ⊢
    have hlt := (chN_lt hs1).1 (show i < chN sz l.length by omega)
    simp only [bodyT, List.flatMap_cons, List.append_assoc] at hr
    obtain ⟨h1, h2⟩ := Cs.take_at' h0 (n := ((bucketT (ck l sz i)).length : Int)) rfl hr
    have hr1 := h2.rest_eq hr
    have htl : (l.take (i * sz)).length = i * sz := by rw [List.length_take]; omega
    have hckl : (ck l sz i).length = min sz (l.length - i * sz) := by simp [ck]
    have hne : ck l sz i ≠ [] := fun h => by have := congrArg List.length h; rw [hckl] at this; simp at this; omega
    have hch : ChT (prvT (l.take (i * sz)) (l.take (i * sz)).length) (ck l sz i) := by
      rw [prvT_end]
      have h := hR.ch
      rw [← List.take_append_drop (i * sz) l] at h
      have h := h.right
      rw [← List.take_append_drop sz (l.drop (i * sz))] at h
      exact h.left
    have hF := fill_bucket (out := l.take (i * sz)) hne hch
    rw [hckl] at hF
    obtain ⟨s', h3, h4⟩ := bodyF_at hR hs1 m (i + 1) _ r (by omega) h2.e1 hr1
    refine ⟨s', ?_, ?_⟩
    · simp only [List.map_cons, bodyF]
      rw [if_neg (by simpa using h2.e1), h1, htl, hF, if_neg (by simp)]
      show bodyF _ _ _ _ (l.take (i * sz) ++ ck l sz i) = _
      rw [take_ck]
      exact h3
    · show Rds s s' (bodyT l sz (i :: List.range' (i + 1) m))
      simp only [bodyT, List.flatMap_cons]
      exact h2.trans h4
theorem dict_back {l : List Txt} {sz : Nat} (hR : RisT l) (hs1 : 1 ≤ sz) (hs2 : sz ≤ 64) (more : List UInt8) : dictR sz (dictB sz l ++ more) = (l, (dictB sz l).length, 0) := by
  have h25 := hR.le
  have hb : (Cs.rest ⟨dictB sz l ++ more, 0, 0⟩) = encN l.length ++ (headT l sz (List.range (chN sz l.length)) ++ (bodyT l sz (List.range (chN sz l.length)) ++ more)) := by simp [Cs.rest, dictB]
  have hl := hR.2
  obtain ⟨h1, h2⟩ := Cs.int_at' (s := ⟨dictB sz l ++ more, 0, 0⟩) rfl (m := 1048576) (x := l.length) (by omega) (by omega) hb
  have hr1 := h2.rest_eq hb
  have hN : dictN (dictB sz l ++ more) = l.length := h1
  have hH : headT l sz (List.range (chN sz l.length)) = ((List.range (chN sz l.length)).map fun j => (bucketT (ck l sz j)).length).flatMap encN := by simp [headT, List.flatMap_map]
  rw [hH] at hr1
  obtain ⟨s2, h3, h4⟩ := sizF_at _ _ [] _ h2.e1 (fun n hn => by
    obtain ⟨j, _, rfl⟩ := List.mem_map.1 hn
    exact bucketT_27 (by simp [ck]; omega) (fun x hx => h25 x (ck_mem hx))) hr1
  have hr2 := h4.rest_eq hr1
  rw [List.range_eq_range'] at hr2
  obtain ⟨s3, h5, h6⟩ := bodyF_at hR hs1 _ 0 s2 more (by omega) h4.e1 hr2
  rw [List.length_map, List.length_range] at h3
  have hS : dictS sz (dictB sz l ++ more) = (s2, (List.range (chN sz l.length)).map fun j => (bucketT (ck l sz j)).length) := by
    unfold dictS; rw [hN, h3]; rfl
  have hF : dictF sz (dictB sz l ++ more) = (l, s3, 0) := by
    unfold dictF
    rw [hN, hS, List.range_eq_range']
    rw [Nat.zero_mul, List.take_zero] at h5
    exact h5
  have hat : s3.at_ = (dictB sz l).length := by
    have h7 := (h2.trans (h4.trans h6)).eq
    rw [h7]
    have hH2 := congrArg List.length hH
    simp only [List.range_eq_range'] at hH2
    simp only [dictB, List.length_append, List.range_eq_range', hH2]
    omega
  rw [dictR_ok (by omega) (by rw [hF]), hF, ← hat]
end Go.Proofs.YtpamjobiohbibaaGreat
namespace Go.Proofs.YtpamjobiohbibaaGreat
open Go.RowKit
set_option linter.unusedVariables false
set_option maxRecDepth 20000
theorem nx_rds {s : Cs} {was : Txt} (hw : was.length ≤ 1000) (h : (nxC s was false).e = 0) : mayT was (nxT s was false) ∧ Rds s (nxC s was false) (encN (lcp was (nxT s was false)) ++ encT ((nxT s was false).drop (lcp was (nxT s was false)))) := by
  have hm := nx_may h
  obtain ⟨h1, h2, h3, h4⟩ := nx_ok h
  have h1' : ((s.int' was.length).text' 25).e = 0 := h1
  have hS : nxC s was false = (s.int' was.length).text' 25 := h3
  obtain ⟨h5, h6⟩ := Cs.text_rds h1'
  obtain ⟨h7, h8, h9⟩ := Cs.int_rds h5.e0
  have hX : nxT s was false = was.take (s.int was.length) ++ (s.int' was.length).text 25 := h4
  have hl : lcp was (nxT s was false) = s.int was.length := by
    refine Classical.not_not.1 fun q => h2 (.inr (.inr ⟨rfl, fun e => q ?_⟩))
    rw [h4]; exact e
  refine ⟨hm, ?_⟩
  rw [hl, hS]
  have hd : (nxT s was false).drop (s.int was.length) = (s.int' was.length).text 25 := by
    rw [hX, List.drop_left' (by rw [List.length_take]; omega)]
  rw [hd]
  exact h7.trans h5
theorem nx_rds1 {s : Cs} {was : Txt} (h : (nxC s was true).e = 0) : mayT was (nxT s was true) ∧ Rds s (nxC s was true) (encT (nxT s was true)) := by
  have hm := nx_may h
  obtain ⟨h1, h2, h3, h4⟩ := nx_ok h
  have h1' : (s.text' 25).e = 0 := h1
  have hS : nxC s was true = s.text' 25 := h3
  obtain ⟨h5, h6⟩ := Cs.text_rds h1'
  have hX : nxT s was true = s.text 25 := h4
  refine ⟨hm, ?_⟩
  rw [hX, hS]
  exact h5
theorem end_rest {s : Cs} (h : s.end'.e = 0) : s.e = 0 ∧ s.rest = [] := by
  obtain ⟨h1, h2⟩ := Cs.end_err h
  refine ⟨h1, ?_⟩
  unfold Cs.left at h2
  unfold Cs.rest
  exact List.drop_of_length_le (by omega)
theorem fillF_one : ∀ (m : Nat) (s : Cs) (out : List Txt), (prvT out out.length).length ≤ 1000 → (fillF m false s out).2 = 0 → ∃ r, (fillF m false s out).1 = out ++ r ∧ r.length = m ∧ s.rest = tailT (prvT out out.length) r ∧ ChT (prvT out out.length) r ∧ s.e = 0
  | 0, s, out, hw, h => by
    unfold fillF at h ⊢
    split at h
    · rename_i q; exact absurd h q
    · rename_i q
      rw [if_neg q]
      obtain ⟨h1, h2⟩ := end_rest (by simpa using q)
      exact ⟨[], by simp, rfl, h2, trivial, h1⟩
  | m + 1, s, out, hw, h => by
    unfold fillF at h ⊢
    split at h
    · rename_i q; exact absurd h q
    · rename_i q
      rw [if_neg q]
      have q' : (nxC s (prvT out out.length) false).e = 0 := by simpa using q
      obtain ⟨h1, h2⟩ := nx_rds hw q'
      have hp : prvT (out ++ [nxT s (prvT out out.length) false]) (out ++ [nxT s (prvT out out.length) false]).length = nxT s (prvT out out.length) false := by rw [prvT_end, endT_snoc]
      obtain ⟨r, h3, h4, h5, h6, h7⟩ := fillF_one m _ (out ++ [nxT s (prvT out out.length) false]) (by rw [hp]; have := h1.2.1; omega) h
      rw [hp] at h5 h6
      refine ⟨nxT s (prvT out out.length) false :: r, by rw [h3]; simp, by simp [h4], ?_, ⟨h1, h6⟩, h2.e0⟩
      rw [h2.rest, h5]
      simp only [tailT]
theorem fill_one1 {m : Nat} {b : List UInt8} {out : List Txt} (hm : 1 ≤ m) (h : (fillF m true ⟨b, 0, 0⟩ out).2 = 0) : ∃ r, (fillF m true ⟨b, 0, 0⟩ out).1 = out ++ r ∧ r.length = m ∧ b = bucketT r ∧ ChT (prvT out out.length) r := by
  obtain ⟨k, rfl⟩ : ∃ k, m = k + 1 := ⟨m - 1, by omega⟩
  unfold fillF at h ⊢
  split at h
  · rename_i q; exact absurd h q
  · rename_i q
    rw [if_neg q]
    have q' : (nxC ⟨b, 0, 0⟩ (prvT out out.length) true).e = 0 := by simpa using q
    obtain ⟨h1, h2⟩ := nx_rds1 q'
    have hp : prvT (out ++ [nxT ⟨b, 0, 0⟩ (prvT out out.length) true]) (out ++ [nxT ⟨b, 0, 0⟩ (prvT out out.length) true]).length = nxT ⟨b, 0, 0⟩ (prvT out out.length) true := by rw [prvT_end, endT_snoc]
    obtain ⟨r, h3, h4, h5, h6, h7⟩ := fillF_one k _ (out ++ [nxT ⟨b, 0, 0⟩ (prvT out out.length) true]) (by rw [hp]; have := h1.2.1; omega) h
    rw [hp] at h5 h6
    refine ⟨nxT ⟨b, 0, 0⟩ (prvT out out.length) true :: r, by rw [h3]; simp, by simp [h4], ?_, ⟨h1, h6⟩⟩
    have := h2.rest
    rw [h5] at this
    simpa [Cs.rest, bucketT] using this
theorem sizF_one : ∀ (k : Nat) (s s' : Cs) (out S : List Nat), sizF k s out = (s', S) → s'.e = 0 → ∃ S', S = out ++ S' ∧ S'.length = k ∧ Rds s s' (S'.flatMap encN)
  | 0, s, s', out, S, h, he => by
    simp only [sizF, Prod.mk.injEq] at h
    obtain ⟨rfl, rfl⟩ := h
    exact ⟨[], by simp, rfl, Rds.nil he⟩
  | k + 1, s, s', out, S, h, he => by
    unfold sizF at h
    split at h
    · rename_i q
      simp only [Prod.mk.injEq] at h
      obtain ⟨rfl, rfl⟩ := h
      exact absurd he q
    · obtain ⟨S', h1, h2, h3⟩ := sizF_one k _ _ _ _ h he
      obtain ⟨h4, h5, h6⟩ := Cs.int_rds h3.e0
      refine ⟨s.int 2000 :: S', by rw [h1]; simp, by simp [h2], ?_⟩
      rw [List.flatMap_cons]
      exact h4.trans h3
theorem bodyF_one {sz n : Nat} (hs1 : 1 ≤ sz) : ∀ (S : List Nat) (i : Nat) (s s' : Cs) (out l : List Txt), out.length = min (i * sz) n → S.length + i = chN sz n → bodyF sz n S s out = (l, s', 0) →
    l.length = n ∧ (∃ t, l = out ++ t ∧ ChT (prvT out out.length) t) ∧ Rds s s' (bodyT l sz (List.range' i S.length)) ∧ S = (List.range' i S.length).map (fun j => (bucketT (ck l sz j)).length)
  | [], i, s, s', out, l, ho, hS, h => by
    unfold bodyF at h
    split at h
    · rename_i q
      simp only [Prod.mk.injEq] at h
      exact absurd h.2.2 q
    · rename_i q
      simp only [Prod.mk.injEq] at h
      obtain ⟨rfl, rfl, _⟩ := h
      have hge := chN_ge (sz := sz) (n := n) hs1
      have hi : i = chN sz n := by simpa using hS
      rw [← hi] at hge
      exact ⟨by omega, ⟨[], by simp, trivial⟩, Rds.nil (by simpa using q), by simp⟩
  | k :: S, i, s, s', out, l, ho, hS, h => by
    simp only [List.length_cons] at hS
    have hlt := (chN_lt hs1).1 (show i < chN sz n by omega)
    have hoi : out.length = i * sz := by omega
    have hsz : (i + 1) * sz = i * sz + sz := Nat.succ_mul i sz
    unfold bodyF at h
    split at h
    · rename_i q
      simp only [Prod.mk.injEq] at h
      exact absurd h.2.2 q
    · rename_i q
      split at h
      · rename_i q2
        simp only [Prod.mk.injEq] at h
        exact absurd h.2.2 q2
      · rename_i q2
        obtain ⟨h1, h2, _⟩ := Cs.take_rds (show (s.take' k).e = 0 by simpa using q)
        obtain ⟨r, h3, h4, h5, h6⟩ := fill_one1 (by omega) (show (fillF (min sz (n - out.length)) true ⟨s.take k, 0, 0⟩ out).2 = 0 by simpa using q2)
        rw [h3] at h
        obtain ⟨h7, ⟨t, h8, h9⟩, h10, h11⟩ := bodyF_one hs1 S (i + 1) _ s' (out ++ r) l (by rw [List.length_append, h4, hsz]; omega) (by omega) h
        have hck : ck l sz i = r := by
          unfold ck
          rw [h8, List.append_assoc, ← hoi, List.drop_left]
          rcases Nat.lt_or_ge (n - out.length) sz with hc | hc
          · have ht : t = [] := by
              apply List.eq_nil_of_length_eq_zero
              have := congrArg List.length h8
              rw [h7, List.length_append, List.length_append, h4] at this
              omega
            rw [ht, List.append_nil, List.take_of_length_le (by omega)]
          · rw [List.take_left' (by rw [h4]; omega)]
        have hpr : prvT (out ++ r) (out ++ r).length = endT (prvT out out.length) r := by rw [prvT_end, prvT_end, endT_app]
        rw [hpr] at h9
        refine ⟨h7, ⟨r ++ t, by rw [h8, List.append_assoc], h6.app h9⟩, ?_, ?_⟩
        · simp only [List.length_cons, List.range'_succ, bodyT, List.flatMap_cons]
          rw [hck, ← h5]
          exact h1.trans h10
        · simp only [List.length_cons, List.range'_succ, List.map_cons]
          rw [hck, ← h5, h2, ← h11]
          simp
theorem dict_one {sz : Nat} {b : List UInt8} (hs1 : 1 ≤ sz) (hs2 : sz ≤ 64) (he : (dictR sz b).2.2 = 0) : RisT (dictR sz b).1 ∧ (dictR sz b).2.1 ≤ b.length ∧ dictB sz (dictR sz b).1 = b.take (dictR sz b).2.1 := by
  have hE : ¬ ((sz : Int) < 1 ∨ 64 < (sz : Int)) := by omega
  have hF : (dictF sz b).2.2 = 0 := Classical.not_not.1 fun h => by
    rw [dictR_err hE h] at he; exact h he
  rw [dictR_ok hE hF]
  obtain ⟨l, s', e⟩ : ∃ l s', dictF sz b = (l, s', 0) := ⟨_, _, Prod.ext rfl (Prod.ext rfl hF)⟩
  have e' := e
  unfold dictF at e'
  have hSl : (dictS sz b).1.e = 0 → (dictS sz b).2.length = chN sz (dictN b) ∧ Rds (Cs.int' ⟨b, 0, 0⟩ 1048576) (dictS sz b).1 ((dictS sz b).2.flatMap encN) := by
    intro h0
    obtain ⟨S', h1, h2, h3⟩ := sizF_one (chN sz (dictN b)) (Cs.int' ⟨b, 0, 0⟩ 1048576) (dictS sz b).1 [] (dictS sz b).2 rfl h0
    rw [List.nil_append] at h1
    rw [h1]
    exact ⟨h2, h3⟩
  have h0 : (dictS sz b).1.e = 0 := by
    generalize (dictS sz b).2 = S at e'
    generalize (dictS sz b).1 = u at e' ⊢
    cases S with
    | nil =>
      unfold bodyF at e'
      split at e'
      · rename_i q
        simp only [Prod.mk.injEq] at e'
        exact absurd e'.2.2 q
      · rename_i q; simpa using q
    | cons k S =>
      unfold bodyF at e'
      split at e'
      · rename_i q
        simp only [Prod.mk.injEq] at e'
        exact absurd e'.2.2 q
      · rename_i q
        exact Cs.moved_e0' (s := u) (k := (k : Int).toNat) (er := takeErr u.rest k) (show (u.take' k).e = 0 by simpa using q)
  obtain ⟨h1, h2⟩ := hSl h0
  obtain ⟨h3, ⟨t, h4, h5⟩, h6, h7⟩ := bodyF_one hs1 _ 0 _ s' [] l (by simp) (by omega) e'
  rw [List.nil_append] at h4
  subst h4
  obtain ⟨h8, h9, _⟩ := Cs.int_rds h2.e0
  have h10 := h8.trans (h2.trans h6)
  rw [h1] at h6 h7 h10
  have hH : headT l sz (List.range (chN sz l.length)) = (dictS sz b).2.flatMap encN := by
    rw [h7, List.range_eq_range', h3]
    simp [headT, List.flatMap_map]
  have hD : dictB sz l = encN (Cs.int ⟨b, 0, 0⟩ 1048576) ++ ((dictS sz b).2.flatMap encN ++ bodyT l sz (List.range' 0 (chN sz (dictN b)))) := by
    unfold dictB
    rw [hH, h3, List.range_eq_range', List.append_assoc]
    rfl
  rw [← hD] at h10
  have hat : s'.at_ = (dictB sz l).length := by rw [h10.eq]; simp
  have hbe : b = dictB sz l ++ s'.rest := by simpa [Cs.rest] using h10.rest
  rw [e]
  simp only
  rw [hat]
  have hN : (dictN b : Int) ≤ 1048576 := h9
  refine ⟨ChT.ris (by simpa [prvT] using h5) (by rw [h3]; omega), ?_, ?_⟩
  · conv => rhs; rw [hbe]
    simp
  · conv => rhs; rw [hbe]
    rw [List.take_left]
end Go.Proofs.YtpamjobiohbibaaGreat
namespace Go.Proofs.YtpamjobiohbibaaGreat
open Go.RowKit
set_option linter.unusedVariables false
set_option maxRecDepth 20000
/-- k lists, with none behind them -/
def lsR (bound : Int) : Nat → List UInt8 → List (List Nat) → List (List Nat) × Int
  | 0, b, out => if b.length ≠ 0 then ([], 2) else (out, 0)
  | k + 1, b, out =>
    if (efRd bound b).2.2 ≠ 0 then ([], (efRd bound b).2.2)
    else if (efRd bound b).1.length = 0 then ([], 2)
    else lsR bound k (b.drop (efRd bound b).2.1) (out ++ [(efRd bound b).1])
def idxL (size bound : Int) (b : List UInt8) : List (List Nat) × Int := lsR bound (dictR size b).1.length (b.drop (dictR size b).2.1) []
/-- the index that bytes are: texts, lists, error -/
def idxRd (size bound : Int) (b : List UInt8) : List Txt × List (List Nat) × Int :=
  if bound < 0 ∨ 20000 < bound then ([], [], 13)
  else if (dictR size b).2.2 ≠ 0 then ([], [], (dictR size b).2.2)
  else if (idxL size bound b).2 ≠ 0 then ([], [], (idxL size bound b).2)
  else ((dictR size b).1, (idxL size bound b).1, 0)
theorem idxRd_a {size bound : Int} {b : List UInt8} (h : bound < 0 ∨ 20000 < bound) : idxRd size bound b = ([], [], 13) := if_pos h
theorem idxRd_b {size bound : Int} {b : List UInt8} (h : ¬ (bound < 0 ∨ 20000 < bound)) (h1 : (dictR size b).2.2 ≠ 0) : idxRd size bound b = ([], [], (dictR size b).2.2) := by unfold idxRd; rw [if_neg h, if_pos h1]
theorem idxRd_c {size bound : Int} {b : List UInt8} (h : ¬ (bound < 0 ∨ 20000 < bound)) (h1 : (dictR size b).2.2 = 0) (h2 : (idxL size bound b).2 ≠ 0) : idxRd size bound b = ([], [], (idxL size bound b).2) := by unfold idxRd; rw [if_neg h, if_neg (by simpa using h1), if_pos h2]
theorem idxRd_d {size bound : Int} {b : List UInt8} (h : ¬ (bound < 0 ∨ 20000 < bound)) (h1 : (dictR size b).2.2 = 0) (h2 : (idxL size bound b).2 = 0) : idxRd size bound b = ((dictR size b).1, (idxL size bound b).1, 0) := by unfold idxRd; rw [if_neg h, if_neg (by simpa using h1), if_neg (by simpa using h2)]
theorem lsR_back {bn : Nat} (hb : bn ≤ 20000) : ∀ (I out : List (List Nat)), (∀ x ∈ I, x ≠ [] ∧ RisN bn x) → lsR bn I.length (I.flatMap (efB bn)) out = (out ++ I, 0)
  | [], out, _ => by simp [lsR]
  | x :: r, out, h => by
    obtain ⟨h1, h2⟩ := h x (by simp)
    have hbk := efRd_back h2 hb (r.flatMap (efB bn))
    rw [List.flatMap_cons, List.length_cons, lsR, hbk, if_neg (by simp), if_neg (by simpa using h1)]
    simp only
    rw [List.drop_left, lsR_back hb r _ fun y hy => h y (by simp [hy])]
    simp
theorem lsR_one {bound : Int} (hbd : bound ≤ 9223372036854775807) : ∀ (k : Nat) (b : List UInt8) (out : List (List Nat)), (lsR bound k b out).2 = 0 → ∃ I, (lsR bound k b out).1 = out ++ I ∧ I.length = k ∧ (∀ x ∈ I, x ≠ [] ∧ RisN bound.toNat x) ∧ I.flatMap (efB bound.toNat) = b
  | 0, b, out, h => by
    unfold lsR at h ⊢
    split at h
    · exact absurd h (by decide)
    · rename_i q
      rw [if_neg q]
      exact ⟨[], by simp, rfl, by simp, by simpa using (List.eq_nil_of_length_eq_zero (by simpa using q)).symm⟩
  | k + 1, b, out, h => by
    unfold lsR at h ⊢
    split at h
    · rename_i q; exact absurd h q
    · rename_i q
      split at h
      · exact absurd h (by decide)
      · rename_i q2
        rw [if_neg q, if_neg q2]
        obtain ⟨bn, rfl, hb2, hR, hB, hl⟩ := efRd_one hbd (by simpa using q)
        obtain ⟨I, h1, h2, h3, h4⟩ := lsR_one hbd k _ _ h
        simp only [Int.toNat_natCast] at h3 h4 ⊢
        refine ⟨(efRd bn b).1 :: I, by rw [h1]; simp, by simp [h2], ?_, ?_⟩
        · intro x hx
          rcases List.mem_cons.1 hx with rfl | hx
          · exact ⟨fun e => q2 (by rw [e]; rfl), hR⟩
          · exact h3 x hx
        · rw [List.flatMap_cons, hB, h4, List.take_append_drop]
theorem idx_back {sz bn : Nat} {T : List Txt} {I : List (List Nat)} (h1 : 1 ≤ sz) (h2 : sz ≤ 64) (hb : bn ≤ 20000) (hR : RisT T) (hl : T.length = I.length) (hI : ∀ x ∈ I, x ≠ [] ∧ RisN bn x) : idxRd sz bn (dictB sz T ++ I.flatMap (efB bn)) = (T, I, 0) := by
  have hd := dict_back hR h1 h2 (I.flatMap (efB bn))
  have hL : idxL sz bn (dictB sz T ++ I.flatMap (efB bn)) = (I, 0) := by
    unfold idxL
    rw [hd]
    simp only
    rw [List.drop_left, hl, lsR_back hb I [] hI]
    simp
  rw [idxRd_d (by omega) (by rw [hd]) (by rw [hL]), hd, hL]
theorem idx_one {size bound : Int} {b : List UInt8} (h : (idxRd size bound b).2.2 = 0) (hs : size ≤ 9223372036854775807) : ∃ sz bn : Nat, size = sz ∧ bound = bn ∧ 1 ≤ sz ∧ sz ≤ 64 ∧ bn ≤ 20000 ∧ RisT (idxRd size bound b).1 ∧ (idxRd size bound b).1.length = (idxRd size bound b).2.1.length ∧
    (∀ x ∈ (idxRd size bound b).2.1, x ≠ [] ∧ RisN bn x) ∧ dictB sz (idxRd size bound b).1 ++ (idxRd size bound b).2.1.flatMap (efB bn) = b := by
  have q1 : ¬ (bound < 0 ∨ 20000 < bound) := fun q1 => by rw [idxRd_a q1] at h; exact absurd h (by decide)
  have q2 : (dictR size b).2.2 = 0 := Classical.byContradiction fun q2 => by rw [idxRd_b q1 q2] at h; exact q2 h
  have q3 : (idxL size bound b).2 = 0 := Classical.byContradiction fun q3 => by rw [idxRd_c q1 q2 q3] at h; exact q3 h
  rw [idxRd_d q1 q2 q3]
  have q4 : ¬ (size < 1 ∨ 64 < size) := fun q => by rw [dictR_bad q] at q2; exact absurd q2 (by decide)
  obtain ⟨sz, rfl⟩ := Int.eq_ofNat_of_zero_le (show 0 ≤ size by omega)
  obtain ⟨bn, rfl⟩ := Int.eq_ofNat_of_zero_le (show 0 ≤ bound by omega)
  obtain ⟨e1, e2, e3⟩ := dict_one (sz := sz) (by omega) (by omega) q2
  obtain ⟨I, f1, f2, f3, f4⟩ := lsR_one (bound := bn) (by omega) _ _ _ q3
  rw [List.nil_append] at f1
  have f1' : (idxL sz bn b).1 = I := f1
  rw [Int.toNat_natCast] at f3 f4
  refine ⟨sz, bn, rfl, rfl, by omega, by omega, by omega, e1, ?_, ?_, ?_⟩
  · simp only; rw [f1', f2]
  · simp only; rw [f1']; exact f3
  · simp only; rw [f1', f4, e3, List.take_append_drop]
/-- numbers' lists as_ lists of whole numbers -/
def castI (I : List (List Nat)) : List (List Int) := I.map fun l => l.map (fun (n : Nat) => (n : Int))
theorem idxOk_cast {bn : Nat} {T : List Txt} {I : List (List Nat)} (hb : bn ≤ 20000) (hR : RisT T) (hl : T.length = I.length) (hI : ∀ x ∈ I, x ≠ [] ∧ RisN bn x) : idxOk bn T (castI I) := by
  refine ⟨⟨by omega, by omega⟩, by simp [castI, hl], hR, fun x hx => ?_⟩
  obtain ⟨y, hy, rfl⟩ := List.mem_map.1 hx
  exact ⟨fun e => (hI y hy).1 (List.map_eq_nil_iff.1 e), (ris_iff _ _).2 (hI y hy).2⟩
theorem lsB_cast {bn : Nat} (hb : bn ≤ 20000) : ∀ I : List (List Nat), (∀ x ∈ I, x ≠ [] ∧ RisN bn x) → lsB bn (castI I) = I.flatMap (efB bn)
  | [], _ => by simp [lsB, castI]
  | x :: r, h => by
    have ih := lsB_cast hb r fun y hy => h y (by simp [hy])
    have e : efW bn (x.map (fun (n : Nat) => (n : Int))) = (efB bn x, 0) := efW_ok (by rintro (q | q | q); omega; omega; exact q ((ris_iff _ _).2 (h x (by simp)).2))
    unfold lsB castI at ih ⊢
    rw [List.map_cons, List.flatMap_cons, List.flatMap_cons, ih, e]
theorem idxW_cast {sz bn : Nat} {T : List Txt} {I : List (List Nat)} (h1 : 1 ≤ sz) (h2 : sz ≤ 64) (hb : bn ≤ 20000) (hR : RisT T) (hl : T.length = I.length) (hI : ∀ x ∈ I, x ≠ [] ∧ RisN bn x) : idxW sz bn T (castI I) = (dictB sz T ++ I.flatMap (efB bn), 0) := by
  rw [idxW_ok h1 h2 (idxOk_cast hb hR hl hI)]
  unfold idxB
  rw [lsB_cast hb I hI]
/-- an index that may be, in numbers that are not below 0 -/
theorem idxOk_nats {bound : Int} {T : List Txt} {I : List (List Int)} (h : idxOk bound T I) : ∃ (bn : Nat) (N : List (List Nat)), bound = bn ∧ bn ≤ 20000 ∧ I = castI N ∧ RisT T ∧ T.length = N.length ∧ ∀ x ∈ N, x ≠ [] ∧ RisN bn x := by
  obtain ⟨⟨h0, h1⟩, h2, h3, h4⟩ := h
  obtain ⟨bn, rfl⟩ := Int.eq_ofNat_of_zero_le h0
  have e : I = castI (I.map fun l => l.map Int.toNat) := by
    unfold castI
    rw [List.map_map]
    conv => lhs; rw [← List.map_id I]
    refine List.map_congr_left fun x hx => ?_
    obtain ⟨xs, rfl⟩ := (h4 x hx).2.nats
    simp [Function.comp_def]
  refine ⟨bn, I.map fun l => l.map Int.toNat, rfl, by omega, e, h3, by simpa using h2, fun x hx => ?_⟩
  obtain ⟨y, hy, rfl⟩ := List.mem_map.1 hx
  obtain ⟨xs, rfl⟩ := (h4 y hy).2.nats
  have e2 : (xs.map (fun (n : Nat) => (n : Int))).map Int.toNat = xs := by simp [Function.comp_def]
  rw [e2]
  exact ⟨fun q => (h4 _ hy).1 (by rw [q]; rfl), (ris_iff _ _).1 (h4 _ hy).2⟩
end Go.Proofs.YtpamjobiohbibaaGreat
namespace Go.Proofs.YtpamjobiohbibaaGreat
set_option linter.unusedVariables false
theorem lastP_all {bound p : Nat} {xs : List Nat} (h : RisN bound xs) (hn : 1 ≤ xs.length) : lastP p 0 xs ≤ (bound - 1) / p := by
  have h1 := lastP_take (p := p) (xs := xs) (k := xs.length - 1) (by omega)
  rw [show xs.length - 1 + 1 = xs.length by omega, List.take_length] at h1
  rw [h1]
  have := (h (xs.length - 1) (by omega)).1
  exact Nat.div_le_div_right (by omega)
theorem ef_short {bound : Nat} {xs : List Nat} (h : RisN bound xs) (hb : bound ≤ 20000) (hn : 1 ≤ xs.length) (hn2 : xs.length ≤ 600) : 8 * (efB bound xs).length ≤ xs.length * (wid bound xs.length + 3) + 31 := by
  have hlen := h.len
  obtain ⟨w, hw⟩ : ∃ w, w = wid bound xs.length := ⟨_, rfl⟩
  obtain ⟨p, hp⟩ : ∃ p, p = 2 ^ w := ⟨_, rfl⟩
  have hq1 : bound / xs.length ≠ 0 := by have := (Nat.le_div_iff_mul_le (x := 1) (y := bound) (k := xs.length) (by omega)).2 (by omega); omega
  have h1 := (Nat.log2_lt hq1 (k := w + 1)).1 (by rw [hw]; exact Nat.lt_succ_self _)
  have h2 : bound < 2 ^ (w + 1) * xs.length := (Nat.div_lt_iff_lt_mul (by omega)).1 h1
  have h3 : bound < p * (2 * xs.length) := by
    rw [Nat.pow_succ, ← hp, Nat.mul_assoc] at h2; exact h2
  have h4 : (bound - 1) / p < 2 * xs.length := Nat.div_lt_of_lt_mul (by omega)
  have h5 := lastP_all (p := p) h hn
  have h6 := unS_length (p := p) h xs.length (Nat.le_refl _)
  rw [List.take_length] at h6
  have h7 := loS_length p w xs
  have hel : (encN xs.length).length ≤ 2 := encN_len 1 _ (by omega)
  unfold efB
  rw [if_neg (by omega), List.length_append, packed_length, ← hw, ← hp]
  unfold efQ
  rw [List.length_append, h7, h6, show xs.length * (w + 3) = xs.length * w + xs.length * 3 from Nat.mul_add ..]
  generalize xs.length * w = z
  omega
end Go.Proofs.YtpamjobiohbibaaGreat

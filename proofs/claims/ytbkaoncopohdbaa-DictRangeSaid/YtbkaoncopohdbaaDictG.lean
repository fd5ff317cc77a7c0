/-
  dict.Read, by frames. Conditions: at most 10^9 bytes.
-/
import Derived.Test.YtbkaoncopohdbaaDictT
import Derived.Test.YtbkaoncopohdbaaNatv
namespace Go.Proofs.Ytbkaoncopohdbaa
open Go.RowKit
set_option linter.unusedVariables false
set_option maxRecDepth 20000
variable {B : Nat} {w0 : World} {F : List Ch} {A A1 A2 : Option Addr} {n c c1 c2 g : Nat} {s : Cs}
/-- the buckets' sizes: so many are asked for -/
def sizF : Nat → Cs → List Nat → Cs × List Nat
  | 0, s, out => (s, out)
  | k + 1, s, out => if s.e ≠ 0 then (s, out) else sizF k (s.int' 2000) (out ++ [s.int 2000])
/-- the buckets: texts, cursor, error -/
def bodyF (sz n : Nat) : List Nat → Cs → List Txt → List Txt × Cs × Int
  | [], s, out => if s.e ≠ 0 then ([], s, s.e) else (out, s, 0)
  | k :: r, s, out =>
    if (s.take' k).e ≠ 0 then ([], s, (s.take' k).e)
    else if (fillF (min sz (n - out.length)) true ⟨s.take k, 0, 0⟩ out).2 ≠ 0 then ([], s, (fillF (min sz (n - out.length)) true ⟨s.take k, 0, 0⟩ out).2)
    else bodyF sz n r (s.take' k) (fillF (min sz (n - out.length)) true ⟨s.take k, 0, 0⟩ out).1
def dictN (b : List UInt8) : Nat := Cs.int ⟨b, 0, 0⟩ 1048576
def dictS (sz : Nat) (b : List UInt8) : Cs × List Nat := sizF (chN sz (dictN b)) (Cs.int' ⟨b, 0, 0⟩ 1048576) []
def dictF (sz : Nat) (b : List UInt8) : List Txt × Cs × Int := bodyF sz (dictN b) (dictS sz b).2 (dictS sz b).1 []
/-- the dictionary that bytes begin with: texts, bytes taken, error -/
def dictR (size : Int) (b : List UInt8) : List Txt × Nat × Int :=
  if size < 1 ∨ 64 < size then ([], 0, 13)
  else if (dictF size.toNat b).2.2 ≠ 0 then ([], 0, (dictF size.toNat b).2.2) else ((dictF size.toNat b).1, (dictF size.toNat b).2.1.at_, 0)
theorem dictR_bad {size : Int} {b : List UInt8} (h : size < 1 ∨ 64 < size) : dictR size b = ([], 0, 13) := if_pos h
theorem dictR_err {sz : Nat} {b : List UInt8} (h : ¬ ((sz : Int) < 1 ∨ 64 < (sz : Int))) (he : (dictF sz b).2.2 ≠ 0) : dictR sz b = ([], 0, (dictF sz b).2.2) := by unfold dictR; rw [if_neg h, Int.toNat_natCast, if_pos he]
theorem dictR_ok {sz : Nat} {b : List UInt8} (h : ¬ ((sz : Int) < 1 ∨ 64 < (sz : Int))) (he : (dictF sz b).2.2 = 0) : dictR sz b = ((dictF sz b).1, (dictF sz b).2.1.at_, 0) := by unfold dictR; rw [if_neg h, Int.toNat_natCast, if_neg (by simpa using he)]
theorem Cs.int_le (s : Cs) {m : Int} (h0 : 0 ≤ m) (hm : m ≤ 9223372036854775807) : (s.int m : Int) ≤ m := by
  unfold Cs.int; split
  · simpa using h0
  · by_cases h : (limS s.rest m).2.2 = 0
    · exact (limS_facts s.rest m hm).2.2.2 h
    · rw [(limS_err h).1]; simpa using h0
theorem Cs.take'_b (s : Cs) (m : Int) : (s.take' m).b = s.b := Cs.moved_b s _ _
theorem Cs.int_bad {s : Cs} {m : Int} (h : s.e = 0) (he : (s.int' m).e ≠ 0) : s.int m = 0 := by
  unfold Cs.int' Cs.moved at he
  unfold Cs.int
  rw [if_neg (by simpa using h)] at he ⊢
  by_cases h1 : (limS s.rest m).2.2 = 0
  · rw [if_neg (by simpa using h1)] at he; exact absurd h he
  · exact (limS_err h1).1
theorem Cs.moved_e0' {s : Cs} {k : Nat} {er : Int} (h : (s.moved k er).e = 0) : s.e = 0 := by
  unfold Cs.moved at h
  split at h
  · exact h
  · split at h
    · rename_i h1 h2; exact absurd h h2
    · exact h
theorem fillF_app : ∀ (m : Nat) (f : Bool) (s : Cs) (o : List Txt), (fillF m f s o).2 = 0 → ∃ t, (fillF m f s o).1 = o ++ t ∧ t.length = m
  | 0, f, s, o, h => by
    unfold fillF at h ⊢
    split at h
    · rename_i q; exact absurd h q
    · rename_i q; rw [if_neg q]; exact ⟨[], by simp⟩
  | k + 1, f, s, o, h => by
    unfold fillF at h ⊢
    split at h
    · rename_i q; exact absurd h q
    · rename_i q
      rw [if_neg q]
      obtain ⟨t, h1, h2⟩ := fillF_app k _ _ _ h
      exact ⟨nxT s (prvT o o.length) f :: t, by rw [h1]; simp, by simp [h2]⟩
/-- the texts that the buckets begin with -/
def hdS (sz : Nat) (o : List Txt) : List Txt := (List.range (chN sz o.length)).map fun j => o.getD (j * sz) []
theorem chN_ge {sz n : Nat} (h : 1 ≤ sz) : n ≤ chN sz n * sz := by
  rcases Nat.lt_or_ge (chN sz n * sz) n with h1 | h1
  · exact absurd ((chN_lt h).2 h1) (by omega)
  · exact h1
theorem heads_step {i z sz N : Nat} {o t : List Txt} (hz : z = i * sz) (hs1 : 1 ≤ sz) (ho : o.length = min z N) (hzN : z < N) : (List.range i).map (fun j => o.getD (j * sz) []) ++ [(o ++ t).getD o.length []] = (List.range (i + 1)).map (fun j => (o ++ t).getD (j * sz) []) := by
  rw [List.range_succ, List.map_append, List.map_singleton]
  congr 1
  · apply List.map_congr_left
    intro j hj
    have hji := List.mem_range.1 hj
    have : (j + 1) * sz ≤ i * sz := Nat.mul_le_mul_right sz (by omega)
    rw [Nat.add_mul, Nat.one_mul] at this
    exact (getD_app (by omega)).symm
  · rw [show i * sz = o.length by omega]
theorem drop_getT {l : List Nat} {i : Nat} (h : i < l.length) : l.drop i = l.getD i 0 :: l.drop (i + 1) := by
  rw [List.drop_eq_getElem_cons h]; simp [List.getD, List.getElem?_eq_getElem h]
def DictQ (size : Int) (b : List UInt8) (F : List Ch) (r : Value) (L : List Ch) : Prop :=
  ((dictR size b).2.2 ≠ 0 ∧ r = .tuple #[.pointer none, .int .i64 0, .int .i64 (dictR size b).2.2] ∧ L = F) ∨
  ((dictR size b).2.2 = 0 ∧ 1 ≤ size ∧ size ≤ 64 ∧ Le25 (dictR size b).1 ∧ (dictR size b).1.length ≤ 1048576 ∧ ∃ g A1 c1 A2 c2, r = .tuple #[.pointer (some ⟨g, 0, none⟩), .int .i64 (dictR size b).2.1, .int .i64 0] ∧ L = Dd g size A1 c1 A2 c2 (dictR size b).1 (hdS size.toNat (dictR size b).1) F)
theorem dread_bad {size : Int} {b : List UInt8} (hE : size < 1 ∨ 64 < size) :
    Does Try.prog B w0 19 [.int .i64 size, .slice A n c] F (DictQ size b F) := by
  refine fn_walk Try.func19 84 rfl rfl rfl [(0, .int .i64 size), (1, .slice A n c)] ⟨⟨rfl, rfl⟩, ⟨rfl, rfl⟩, trivial⟩ ?_
  refine vc_seq ?_
  refine vc_region ?_
  refine vl_det (det_assign rfl) rfl ?_
  refine vl_det (det_assign rfl) rfl ?_
  refine vl_det (det_assign rfl) rfl ?_
  refine vl_end [(0, _), (1, _)] ⟨rfl, rfl, trivial⟩ ?_
  refine then_next ?_
  refine vc_seq ?_
  refine vc_seq ?_
  refine vc_region ?_
  refine vl_cut 6 23 [(0, _), (1, _)] (size < 1 ∨ 64 < size) ⟨rfl, rfl, trivial⟩ ?_ ?_
  · skip
    refine vl_det (det_move rfl) rfl ?_
    refine vl_det (det_lss rfl rfl) rfl ?_
    refine vl_det (det_move rfl) rfl ?_
    refine vl_guardn rfl rfl rfl (fun h20 => ?_) (fun h20 => ?_)
    · skip
      refine vl_det (det_move rfl) rfl ?_
      refine vl_guard_t rfl rfl ?_
      refine vl_det (det_gtr rfl rfl) rfl ?_
      refine vl_det (det_pick_f rfl rfl) rfl ?_
      exact vl_cut_end ⟨rfl, rfl, trivial⟩ (by first | rfl | exact bool_to_t (by first | omega | simp_all) | exact bool_to_f (by first | omega | simp_all) | exact bool_to (by first | omega | simp_all) | exact bool_to_b (by first | omega | simp_all))
    · skip
      refine vl_guard_f rfl rfl rfl rfl ?_
      refine vl_det (det_pick_t rfl rfl) rfl ?_
      exact vl_cut_end ⟨rfl, rfl, trivial⟩ (by first | rfl | exact bool_to_t (by first | omega | simp_all) | exact bool_to_f (by first | omega | simp_all) | exact bool_to (by first | omega | simp_all) | exact bool_to_b (by first | omega | simp_all))
  · skip
    refine vl_end [(0, _), (1, _), (23, _)] ⟨rfl, rfl, rfl, trivial⟩ ?_
    refine then_next ?_
    refine vc_decideU rfl (fun h23 => ?_) (fun h23 => ?_)
    · skip
      refine vc_seq ?_
      refine vc_region ?_
      refine vl_det (det_assign rfl) rfl ?_
      refine vl_det (det_assign rfl) rfl ?_
      refine vl_det (det_assign rfl) rfl ?_
      refine vl_end [(4, _), (5, _), (6, _)] ⟨rfl, rfl, rfl, trivial⟩ ?_
      refine then_next ?_
      refine vc_ret ?_
      refine then_ret ?_
      refine ret3_ rfl rfl rfl rfl ?_
      exact .inl ⟨by rw [dictR_bad hE]; decide, by rw [dictR_bad hE], rfl⟩
    · skip
      exfalso; exact h23 hE
theorem dread_ok {sz : Nat} {b : List UInt8} (hs1 : 1 ≤ sz) (hs2 : sz ≤ 64) (hb : Bor B w0 F 1 (.slice A b.length c) b.length (bv b)) (hbl : b.length ≤ 1000000000) :
    Does Try.prog B w0 19 [.int .i64 sz, .slice A b.length c] F (DictQ sz b F) := by
  have hR1 := @dictR_err sz b (by omega)
  have hR2 := @dictR_ok sz b (by omega)
  have hN1 := Cs.int_le ⟨b, 0, 0⟩ (m := 1048576) (by omega) (by omega)
  have hDS : dictS sz b = sizF (chN sz (dictN b)) (Cs.int' ⟨b, 0, 0⟩ 1048576) [] := rfl
  have hDF : dictF sz b = bodyF sz (dictN b) (dictS sz b).2 (dictS sz b).1 [] := rfl
  have hNe : Cs.int ⟨b, 0, 0⟩ 1048576 = dictN b := rfl
  rw [hNe] at hN1
  have hdN : ∀ l : List Txt, dictF sz b = dictF sz b := fun _ => rfl
  obtain ⟨N, hN⟩ : ∃ N, N = dictN b := ⟨_, rfl⟩
  rw [← hN] at hN1 hDS hDF hNe
  have hcN : chN sz N ≤ 1048639 := by
    unfold chN
    exact Nat.le_trans (Nat.div_le_self _ _) (by omega)
  have hcz : chN sz N * sz ≤ 1048639 * 64 := Nat.mul_le_mul hcN hs2
  have ho1 : CsOk (Cs.int' ⟨b, 0, 0⟩ 1048576) := CsOk.int' ⟨Nat.zero_le _, by simp only; omega⟩ (by omega)
  refine fn_walk Try.func19 84 rfl rfl rfl [(0, .int .i64 sz), (1, .slice A b.length c)] ⟨⟨rfl, rfl⟩, ⟨rfl, rfl⟩, trivial⟩ ?_
  refine vc_seq ?_
  refine vc_region ?_
  refine vl_det (det_assign rfl) rfl ?_
  refine vl_det (det_assign rfl) rfl ?_
  refine vl_det (det_assign rfl) rfl ?_
  refine vl_end [(0, _), (1, _)] ⟨rfl, rfl, trivial⟩ ?_
  refine then_next ?_
  refine vc_seq ?_
  refine vc_seq ?_
  refine vc_region ?_
  refine vl_cut 6 23 [(0, _), (1, _)] ((sz : Int) < 1 ∨ 64 < (sz : Int)) ⟨rfl, rfl, trivial⟩ ?_ ?_
  · skip
    refine vl_det (det_move rfl) rfl ?_
    refine vl_det (det_lss rfl rfl) rfl ?_
    refine vl_det (det_move rfl) rfl ?_
    refine vl_guardn rfl rfl rfl (fun h20 => ?_) (fun h20 => ?_)
    · skip
      refine vl_det (det_move rfl) rfl ?_
      refine vl_guard_t rfl rfl ?_
      refine vl_det (det_gtr rfl rfl) rfl ?_
      refine vl_det (det_pick_f rfl rfl) rfl ?_
      exact vl_cut_end ⟨rfl, rfl, trivial⟩ (by first | rfl | exact bool_to_t (by first | omega | simp_all) | exact bool_to_f (by first | omega | simp_all) | exact bool_to (by first | omega | simp_all) | exact bool_to_b (by first | omega | simp_all))
    · skip
      refine vl_guard_f rfl rfl rfl rfl ?_
      refine vl_det (det_pick_t rfl rfl) rfl ?_
      exact vl_cut_end ⟨rfl, rfl, trivial⟩ (by first | rfl | exact bool_to_t (by first | omega | simp_all) | exact bool_to_f (by first | omega | simp_all) | exact bool_to (by first | omega | simp_all) | exact bool_to_b (by first | omega | simp_all))
  · skip
    refine vl_end [(0, _), (1, _), (23, _)] ⟨rfl, rfl, rfl, trivial⟩ ?_
    refine then_next ?_
    refine vc_decideU rfl (fun h23 => ?_) (fun h23 => ?_)
    · skip
      exfalso; omega
    · skip
      refine vc_skip ?_
      refine then_next ?_
      refine vc_seq ?_
      refine vc_region ?_
      refine vl_det (det_move rfl) rfl ?_
      refine vl_call co36 rfl (cnew_d hb (by omega)) rfl ?_
      rintro _ _ ⟨g25, A25, c25, rfl, hLL⟩
      obtain rfl := hLL.symm
      refine vl_det (det_assign rfl) rfl ?_
      refine vl_end [(0, _), (7, _)] ⟨rfl, rfl, trivial⟩ ?_
      refine then_next ?_
      refine vc_seq ?_
      refine vc_region ?_
      refine vl_det (det_move rfl) rfl ?_
      refine vl_call co37 rfl (cint_d (s := ⟨b, 0, 0⟩) ⟨Nat.zero_le _, by simp only; omega⟩ (by first | (exact Bor.own (by repeat (first | exact List.Mem.head _ | apply List.Mem.tail))) | (repeat (first | assumption | apply Bor.cons))) (most := 1048576) (by omega) (by omega)) rfl ?_
      rintro _ _ ⟨rfl, hLL⟩
      obtain rfl := hLL.symm
      rw [hNe]
      refine vl_det (det_assign rfl) rfl ?_
      refine vl_end [(0, _), (7, _), (8, _)] ⟨rfl, rfl, rfl, trivial⟩ ?_
      refine then_next ?_
      refine vc_seq ?_
      refine vc_nil_row 3 1 none ?_
      refine vc_region ?_
      refine vl_det (det_assign rfl) rfl ?_
      refine vl_end [(0, _), (7, _), (8, _), (9, _)] ⟨rfl, rfl, rfl, rfl, trivial⟩ ?_
      refine then_next ?_
      refine vc_seq ?_
      refine vc_seq ?_
      refine vc_region ?_
      refine vl_det (det_assign rfl) rfl ?_
      refine vl_end [(0, _), (7, _), (8, _), (9, _), (10, _)] ⟨rfl, rfl, rfl, rfl, rfl, trivial⟩ ?_
      refine then_next ?_
      refine vc_block ?_
      refine vc_loopJ (fun zf zL zm => ∃ (j q : Nat) (s : Cs) (S : List Nat) (A9 : Option Addr) (c9 : Nat), (j ≤ chN sz N ∧ q = j * sz ∧ S.length = j ∧ CsOk s ∧ s.b = b ∧ (∀ i, i < S.length → S.getD i 0 ≤ 2000) ∧ sizF (chN sz N - j) s S = dictS sz b) ∧ chN sz N - j = zm ∧ Sub zf [(0, .int .i64 sz), (7, .pointer (some ⟨g25, 0, none⟩)), (8, .int .i64 N), (9, .slice A9 S.length c9), (10, .int .i64 q)] ∧ Wk zL (Cv g25 A25 c25 s :: .own 5 1 A25 b.length c25 (bv b) :: .own 3 1 A9 S.length c9 (natv S) :: F)) _ ⟨0, 0, Cs.int' ⟨b, 0, 0⟩ 1048576, [], none, 0, ⟨Nat.zero_le _, (Nat.zero_mul _).symm, rfl, ho1, Cs.int'_b _ _, fun i h => absurd h (by simp), hDS.symm⟩, rfl, ⟨(by first | rfl | exact int_to (by omega) | exact sl_to (by omega)), (by first | rfl | exact int_to (by omega) | exact sl_to (by omega)), (by first | rfl | exact int_to (by omega) | exact sl_to (by omega)), (by first | rfl | exact int_to (by omega) | exact sl_to (by omega)), (by first | rfl | exact int_to (by omega) | exact sl_to (by omega)), trivial⟩, (wu1 (wu1 (wu0 (.refl _))))⟩ ?_
      rintro _ _ _ ⟨j, q, s, S, A9, c9, ⟨hj, hq, hSl, ho, hsb, hS2, hS⟩, rfl, hs, hp⟩
      refine vc_weaken _ hs (vc_wk hp ?_)
      clear hs hp
      refine vc_seq ?_
      refine vc_seq ?_
      refine vc_region ?_
      refine vl_cut 8 35 [(0, _), (7, _), (8, _), (9, _), (10, _)] ((q : Int) < N ∧ s.e = 0) ⟨rfl, rfl, rfl, rfl, rfl, trivial⟩ ?_ ?_
      · skip
        refine vl_det (det_move rfl) rfl ?_
        refine vl_det (det_move rfl) rfl ?_
        refine vl_det (det_lss rfl rfl) rfl ?_
        refine vl_det (det_move rfl) rfl ?_
        refine vl_guardp rfl rfl rfl (fun h31 => ?_) (fun h31 => ?_)
        · skip
          refine vl_det (det_move rfl) rfl ?_
          refine vl_guard_t rfl rfl ?_
          refine vl_call co38 rfl (cerr_d) rfl ?_
          rintro _ _ ⟨rfl, hLL⟩
          obtain rfl := hLL.symm
          refine vl_guard_t rfl rfl ?_
          refine vl_det (det_eql rfl rfl) rfl ?_
          refine vl_det (det_pick_t rfl rfl) rfl ?_
          exact vl_cut_end ⟨rfl, rfl, rfl, rfl, rfl, trivial⟩ (by first | rfl | exact bool_to_t (by first | omega | simp_all) | exact bool_to_f (by first | omega | simp_all) | exact bool_to (by first | omega | simp_all) | exact bool_to_b (by first | omega | simp_all))
        · skip
          refine vl_guard_f rfl rfl rfl rfl ?_
          refine vl_guard_f rfl rfl rfl rfl ?_
          refine vl_det (det_pick_f rfl rfl) rfl ?_
          exact vl_cut_end ⟨rfl, rfl, rfl, rfl, rfl, trivial⟩ (by first | rfl | exact bool_to_t (by first | omega | simp_all) | exact bool_to_f (by first | omega | simp_all) | exact bool_to (by first | omega | simp_all) | exact bool_to_b (by first | omega | simp_all))
      · skip
        refine vl_end [(0, _), (7, _), (8, _), (9, _), (10, _), (35, _)] ⟨rfl, rfl, rfl, rfl, rfl, rfl, trivial⟩ ?_
        refine then_next ?_
        refine vc_decideU rfl (fun h35 => ?_) (fun h35 => ?_)
        · skip
          have hjN : j < chN sz N := (chN_lt hs1).2 (by omega)
          have hjz : (j + 1) * sz ≤ chN sz N * sz := Nat.mul_le_mul_right sz hjN
          have hjs : (j + 1) * sz = j * sz + sz := Nat.succ_mul j sz
          have hi2 := Cs.int_le s (m := 2000) (by omega) (by omega)
          have hel : S.length + 1 = (S ++ [s.int 2000]).length := by simp
          rw [show chN sz N - j = (chN sz N - (j + 1)) + 1 by omega, sizF, if_neg (by simpa using h35.2)] at hS
          refine vc_skip ?_
          refine then_next ?_
          refine vc_seq ?_
          refine vc_block ?_
          refine vc_region ?_
          refine vl_det (det_move rfl) rfl ?_
          refine vl_det (det_move rfl) rfl ?_
          refine vl_call co37 rfl (cint_d ho (by rw [hsb]; exact (by first | (exact Bor.own (by repeat (first | exact List.Mem.head _ | apply List.Mem.tail))) | (repeat (first | assumption | apply Bor.cons)))) (most := 2000) (by omega) (by omega)) rfl ?_
          rintro _ _ ⟨rfl, hLL⟩
          obtain rfl := hLL.symm
          refine vl_push slT71 rfl rfl rfl rfl rfl (fun _ => rfl) (by repeat (first | exact .hd | apply Sel.tl)) (by omega) (by omega) ?_
          intro _ A43 c43
          refine vl_det (det_assign rfl) rfl ?_
          refine vl_end [(0, _), (7, _), (8, _), (9, _), (10, _)] ⟨rfl, rfl, rfl, rfl, rfl, trivial⟩ ?_
          refine in_normal ?_
          refine then_next ?_
          refine vc_region ?_
          refine vl_det (det_move rfl) rfl ?_
          refine vl_det (det_move rfl) rfl ?_
          refine vl_det (det_add rfl rfl (w_i64 (by omega) (by omega))) rfl ?_
          refine vl_det (det_assign rfl) rfl ?_
          refine vl_end [(0, _), (7, _), (8, _), (9, _), (10, _)] ⟨rfl, rfl, rfl, rfl, rfl, trivial⟩ ?_
          refine in_loop_ ⟨_, by omega, j + 1, q + sz, s.int' 2000, S ++ [s.int 2000], A43, c43, ⟨by omega, by omega, by simp; omega, ho.int' (by omega), by rw [Cs.int'_b]; exact hsb, fun i hi => by
  rcases Nat.lt_or_ge i S.length with h | h
  · rw [show (S ++ [s.int 2000]).getD i 0 = S.getD i 0 by simp [List.getD, List.getElem?_append_left h]]; exact hS2 i h
  · have : i = S.length := by simp at hi; omega
    rw [this]; simp; omega, hS⟩, rfl, ⟨(by first | rfl | exact int_to (by omega) | exact sl_to (by omega)), (by first | rfl | exact int_to (by omega) | exact sl_to (by omega)), (by first | rfl | exact int_to (by omega) | exact sl_to (by omega)), (by first | rfl | exact int_to (by omega) | exact sl_to (by omega)), (by first | rfl | exact int_to (by omega) | exact sl_to (by omega)), trivial⟩, .cons (.cons (wk_own hel (by simp [natv]) (.refl _)))⟩
        · skip
          have hSS : (s, S) = dictS sz b := by
            rw [← hS]
            by_cases h : j = chN sz N
            · rw [h, Nat.sub_self]; rfl
            · rw [show chN sz N - j = (chN sz N - (j + 1)) + 1 by omega, sizF, if_pos]
              intro h0
              exact h35 ⟨by have := (chN_lt hs1).1 (show j < chN sz N by omega); omega, h0⟩
          have hcm : s.e = 0 → S.length = chN sz N := by
            intro h0
            rcases Nat.lt_or_ge j (chN sz N) with h | h
            · exact absurd ⟨by have := (chN_lt hs1).1 h; omega, h0⟩ h35
            · omega
          rw [← hSS] at hDF
          refine vc_exit ?_
          refine then_exit ?_
          refine loop_exit ?_
          refine in_eq ?_
          refine then_next ?_
          refine vc_seq ?_
          refine vc_nil_row 9 1 none ?_
          refine vc_nil_row 9 1 none ?_
          refine vc_region ?_
          refine vl_det (det_move rfl) rfl ?_
          refine vl_det (det_buildp [(1, _)] [.slice none 0 0, .int .i64 0, .slice none 0 0] [1] [_, _, _] rfl rfl (by kernel_rfl)) rfl ?_
          refine vl_eff (eff_box rfl rfl) rfl ?_
          rintro _ _ ⟨g46, rfl, rfl⟩
          refine vl_det (det_assign rfl) rfl ?_
          refine vl_end [(0, _), (7, _), (8, _), (9, _), (11, _)] ⟨rfl, rfl, rfl, rfl, rfl, trivial⟩ ?_
          refine then_next ?_
          refine vc_seq ?_
          refine vc_seq ?_
          refine vc_region ?_
          refine vl_det (det_move rfl) rfl ?_
          refine vl_det (det_len_sl Try.underlying71 rfl) rfl ?_
          refine vl_det (det_move rfl) rfl ?_
          refine vl_end [(0, _), (7, _), (8, _), (11, _), (47, _), (48, _), (49, _)] ⟨rfl, rfl, rfl, rfl, rfl, rfl, rfl, trivial⟩ ?_
          refine then_next ?_
          refine vc_block ?_
          refine vc_loopJ (fun zf zL zm => ∃ (i z : Nat) (u : Cs) (o h : List Txt) (P1 : Option Addr) (p1 : Nat) (P2 : Option Addr) (p2 : Nat), (i ≤ S.length ∧ z = i * sz ∧ o.length = min z N ∧ CsOk u ∧ u.b = b ∧ (u.e = 0 → S.length = chN sz N) ∧ Le25 o ∧ h = (List.range i).map (fun j => o.getD (j * sz) []) ∧ bodyF sz N (S.drop i) u o = dictF sz b) ∧ S.length - i = zm ∧ Sub zf [(0, .int .i64 sz), (7, .pointer (some ⟨g25, 0, none⟩)), (8, .int .i64 N), (11, .pointer (some ⟨g46, 0, none⟩)), (47, .slice A9 S.length c9), (48, .int .i64 S.length), (49, .int .i64 i)] ∧ Wk zL (Cv g25 A25 c25 u :: .own 5 1 A25 b.length c25 (bv b) :: Dd g46 sz P1 p1 P2 p2 o h (.own 3 1 A9 S.length c9 (natv S) :: F))) _ ⟨0, 0, s, [], [], none, 0, none, 0, ⟨Nat.zero_le _, (Nat.zero_mul _).symm, by simp, ho, hsb, hcm, fun x hx => absurd hx (by simp), rfl, hDF.symm⟩, rfl, ⟨(by first | rfl | exact int_to (by omega) | exact sl_to (by omega)), (by first | rfl | exact int_to (by omega) | exact sl_to (by omega)), (by first | rfl | exact int_to (by omega) | exact sl_to (by omega)), (by first | rfl | exact int_to (by omega) | exact sl_to (by omega)), (by first | rfl | exact int_to (by omega) | exact sl_to (by omega)), (by first | rfl | exact int_to (by omega) | exact sl_to (by omega)), (by first | rfl | exact int_to (by omega) | exact sl_to (by omega)), trivial⟩, (wu3 (wu3 (wu0 (wu0 (wu0 (wu0 (.refl _)))))))⟩ ?_
          rintro _ _ _ ⟨i, z, u, o, h, P1, p1, P2, p2, ⟨hi, hz, hol, hou, hub, huc, ho25, hh, hB⟩, rfl, hs, hp⟩
          refine vc_weaken _ hs (vc_wk hp ?_)
          clear hs hp
          refine vc_seq ?_
          refine vc_region ?_
          refine vl_det (det_lss rfl rfl) rfl ?_
          refine vl_end [(0, _), (7, _), (8, _), (11, _), (47, _), (48, _), (49, _), (50, _)] ⟨rfl, rfl, rfl, rfl, rfl, rfl, rfl, rfl, trivial⟩ ?_
          refine then_next ?_
          refine vc_seq ?_
          refine vc_decideU rfl (fun h50 => ?_) (fun h50 => ?_)
          · skip
            have hiS : i < S.length := by omega
            have hzN : z < N := by have := (chN_lt hs1).1 (show i < chN sz N by omega); omega
            have hoz : o.length = z := by omega
            have hiz : (i + 1) * sz = i * sz + sz := Nat.succ_mul i sz
            have hizb : i * sz ≤ chN sz N * sz := Nat.mul_le_mul_right sz (by omega)
            have hS2k := hS2 i hiS
            rw [drop_getT hiS, bodyF] at hB
            obtain ⟨k, hk⟩ : ∃ k, k = S.getD i 0 := ⟨_, rfl⟩
            have hld : (natv S)[i * 1]? = some (.int .i64 (k : Int)) := by rw [hk]; simp [natv, List.getD, List.getElem?_eq_getElem hiS]
            rw [← hk] at hB hS2k
            obtain ⟨M, hM⟩ : ∃ M, M = min sz (N - o.length) := ⟨_, rfl⟩
            rw [← hM] at hB
            have hMe : min (sz : Int) ((N - z : Nat) : Int) = (M : Int) := by rw [hM, hoz]; omega
            have htk : (u.take k).length ≤ 1000000 := by
              unfold Cs.take
              split
              · simp
              · split
                · simp
                · simp only [List.length_take]; omega
            refine vc_skip ?_
            refine then_next ?_
            refine vc_seq ?_
            refine vc_block ?_
            refine vc_seq ?_
            refine vc_region ?_
            refine vl_det (det_move rfl) rfl ?_
            refine vl_det (det_indexAddr (size := 1) Try.underlying71 (by kernel_rfl) rfl rfl rfl (by omega) (by first | (exact Bor.own (by repeat (first | exact List.Mem.head _ | apply List.Mem.tail))) | (repeat (first | assumption | apply Bor.cons)))) rfl ?_
            refine vl_det (det_load_row (by kernel_rfl) rfl (by first | (exact Bor.own (by repeat (first | exact List.Mem.head _ | apply List.Mem.tail))) | (repeat (first | assumption | apply Bor.cons))) (by omega) hld) rfl ?_
            refine vl_det (det_assign rfl) rfl ?_
            refine vl_det (det_assign rfl) rfl ?_
            refine vl_end [(0, _), (7, _), (8, _), (11, _), (12, _), (13, _), (47, _), (48, _), (49, _)] ⟨rfl, rfl, rfl, rfl, rfl, rfl, rfl, rfl, rfl, trivial⟩ ?_
            refine then_next ?_
            refine vc_seq ?_
            refine vc_region ?_
            refine vl_det (det_move rfl) rfl ?_
            refine vl_det (det_move rfl) rfl ?_
            refine vl_call co39 rfl (ctake_d hou (by rw [hub]; exact (by first | (exact Bor.own (by repeat (first | exact List.Mem.head _ | apply List.Mem.tail))) | (repeat (first | assumption | apply Bor.cons)))) (m := (k : Int)) (by omega) (by omega)) rfl ?_
            rintro _ _ ⟨A56, c56, rfl, hLL⟩
            obtain rfl := hLL.symm
            refine vl_det (det_assign rfl) rfl ?_
            refine vl_end [(0, _), (7, _), (8, _), (11, _), (12, _), (14, _), (47, _), (48, _), (49, _)] ⟨rfl, rfl, rfl, rfl, rfl, rfl, rfl, rfl, rfl, trivial⟩ ?_
            refine then_next ?_
            refine vc_seq ?_
            refine vc_seq ?_
            refine vc_region ?_
            refine vl_det (det_move rfl) rfl ?_
            refine vl_call co38 rfl (cerr_d) rfl ?_
            rintro _ _ ⟨rfl, hLL⟩
            obtain rfl := hLL.symm
            refine vl_det (det_assign rfl) rfl ?_
            refine vl_end [(0, _), (7, _), (8, _), (11, _), (12, _), (14, _), (15, _), (47, _), (48, _), (49, _)] ⟨rfl, rfl, rfl, rfl, rfl, rfl, rfl, rfl, rfl, rfl, trivial⟩ ?_
            refine then_next ?_
            refine vc_seq ?_
            refine vc_region ?_
            refine vl_det (det_move rfl) rfl ?_
            refine vl_det (det_neq rfl rfl) rfl ?_
            refine vl_end [(0, _), (7, _), (8, _), (11, _), (12, _), (14, _), (15, _), (47, _), (48, _), (49, _), (60, _)] ⟨rfl, rfl, rfl, rfl, rfl, rfl, rfl, rfl, rfl, rfl, rfl, trivial⟩ ?_
            refine then_next ?_
            refine vc_decideU rfl (fun h60 => ?_) (fun h60 => ?_)
            · skip
              rw [if_pos h60] at hB
              refine vc_seq ?_
              refine vc_region ?_
              refine vl_det (det_move rfl) rfl ?_
              refine vl_det (det_assign rfl) rfl ?_
              refine vl_det (det_assign rfl) rfl ?_
              refine vl_det (det_assign rfl) rfl ?_
              refine vl_end [(4, _), (5, _), (6, _)] ⟨rfl, rfl, rfl, trivial⟩ ?_
              refine then_next ?_
              refine vc_ret ?_
              refine then_ret ?_
              refine in_ret ?_
              refine then_ret ?_
              refine loop_ret ?_
              refine in_ret ?_
              refine then_ret ?_
              refine ret_wk (L' := F) (.skip (.skip (.skip (.skip (.skip (.skip (.skip (.refl _)))))))) ?_
              refine ret3_ rfl rfl rfl rfl ?_
              have hz2 := hR1 (by rw [← hB]; exact h60)
              rw [← hB] at hz2
              exact .inl ⟨by rw [hz2]; exact h60, by rw [hz2], rfl⟩
            · skip
              rw [if_neg h60] at hB
              refine vc_skip ?_
              refine then_next ?_
              refine vc_seq ?_
              refine vc_region ?_
              refine vl_det (det_move rfl) rfl ?_
              refine vl_det (det_move rfl) rfl ?_
              refine vl_det (det_move rfl) rfl ?_
              refine vl_det (det_move rfl) rfl ?_
              refine vl_det (det_move rfl) rfl ?_
              refine vl_det (det_move rfl) rfl ?_
              refine vl_det (det_mul rfl rfl (r := (z : Int)) ((w_i64 (by rw [← Int.natCast_mul]; omega) (by rw [← Int.natCast_mul]; omega)).trans (by rw [hz]; exact Int.natCast_mul i sz))) rfl ?_
              refine vl_det (det_sub rfl rfl (r := ((N - z : Nat) : Int)) ((w_i64 (by omega) (by omega)).trans (by omega))) rfl ?_
              refine vl_det (det_min rfl rfl) rfl ?_
              rw [hMe]
              refine vl_call co40 rfl ((fill_d (b := u.take k) (m := M) (by omega) (by omega) (by first | (exact Bor.own (by repeat (first | exact List.Mem.head _ | apply List.Mem.tail))) | (repeat (first | assumption | apply Bor.cons))) (by omega) ho25 (by omega) (by rw [hh]; simp; omega)).perm ((pu3 (pu3 (pu3 (pu0 (pu0 (pu0 (.refl _))))))))) rfl ?_
              rintro _ _ ⟨P71, p71, Q71, q71, o2, h2, rfl, hLL, hfo⟩
              obtain rfl := hLL.symm
              refine vl_det (det_assign rfl) rfl ?_
              refine vl_end [(0, _), (7, _), (8, _), (11, _), (16, _), (47, _), (48, _), (49, _)] ⟨rfl, rfl, rfl, rfl, rfl, rfl, rfl, rfl, trivial⟩ ?_
              refine then_next ?_
              refine vc_seq ?_
              refine vc_region ?_
              refine vl_det (det_move rfl) rfl ?_
              refine vl_det (det_neq rfl rfl) rfl ?_
              refine vl_end [(0, _), (7, _), (8, _), (11, _), (16, _), (47, _), (48, _), (49, _), (73, _)] ⟨rfl, rfl, rfl, rfl, rfl, rfl, rfl, rfl, rfl, trivial⟩ ?_
              refine then_next ?_
              refine vc_decideU rfl (fun h73 => ?_) (fun h73 => ?_)
              · skip
                rw [if_pos h73] at hB
                refine vc_seq ?_
                refine vc_region ?_
                refine vl_det (det_move rfl) rfl ?_
                refine vl_det (det_assign rfl) rfl ?_
                refine vl_det (det_assign rfl) rfl ?_
                refine vl_det (det_assign rfl) rfl ?_
                refine vl_end [(4, _), (5, _), (6, _)] ⟨rfl, rfl, rfl, trivial⟩ ?_
                refine then_next ?_
                refine vc_ret ?_
                refine in_ret ?_
                refine then_ret ?_
                refine loop_ret ?_
                refine in_ret ?_
                refine then_ret ?_
                refine ret_wk (L' := F) (.skip (.skip (.skip (.skip (.skip (.skip (.skip (.refl _)))))))) ?_
                refine ret3_ rfl rfl rfl rfl ?_
                have hz2 := hR1 (by rw [← hB]; exact h73)
                rw [← hB] at hz2
                exact .inl ⟨by rw [hz2]; exact h73, by rw [hz2], rfl⟩
              · skip
                rw [if_neg h73] at hB
                have h73' : (fillF M true ⟨u.take k, 0, 0⟩ o).2 = 0 := by simpa using h73
                obtain ⟨ho2, hh2, ho225, ho2l⟩ := hfo h73'
                rw [← ho2] at hB
                obtain ⟨t, ht, htl⟩ := fillF_app _ _ _ _ h73'
                rw [← ho2] at ht
                refine vc_skip ?_
                refine in_normal ?_
                refine then_next ?_
                refine vc_region ?_
                refine vl_det (det_add rfl rfl (w_i64 (by omega) (by omega))) rfl ?_
                refine vl_det (det_move rfl) rfl ?_
                refine vl_end [(0, _), (7, _), (8, _), (11, _), (47, _), (48, _), (49, _)] ⟨rfl, rfl, rfl, rfl, rfl, rfl, rfl, trivial⟩ ?_
                refine in_loop_ ⟨_, by omega, i + 1, z + sz, u.take' k, o2, h2, P71, p71, Q71, q71, ⟨by omega, by omega, by omega, hou.take', by rw [Cs.take'_b]; exact hub, fun q => huc (Cs.moved_e0' q), ho225, by rw [hh2, hh, ht]; exact heads_step hz hs1 hol hzN, hB⟩, rfl, ⟨(by first | rfl | exact int_to (by omega) | exact sl_to (by omega)), (by first | rfl | exact int_to (by omega) | exact sl_to (by omega)), (by first | rfl | exact int_to (by omega) | exact sl_to (by omega)), (by first | rfl | exact int_to (by omega) | exact sl_to (by omega)), (by first | rfl | exact int_to (by omega) | exact sl_to (by omega)), (by first | rfl | exact int_to (by omega) | exact sl_to (by omega)), (by first | rfl | exact int_to (by omega) | exact sl_to (by omega)), trivial⟩, (wu3 (wu4 (wu0 (wu0 (wu0 (wu1 (.skip (.refl _))))))))⟩
          · skip
            have hiS : i = S.length := by omega
            rw [List.drop_of_length_le (by omega), bodyF] at hB
            refine vc_exit ?_
            refine then_exit ?_
            refine loop_exit ?_
            refine in_eq ?_
            refine then_next ?_
            refine vc_seq ?_
            refine vc_seq ?_
            refine vc_region ?_
            refine vl_det (det_move rfl) rfl ?_
            refine vl_call co38 rfl (cerr_d) rfl ?_
            rintro _ _ ⟨rfl, hLL⟩
            obtain rfl := hLL.symm
            refine vl_det (det_assign rfl) rfl ?_
            refine vl_end [(7, _), (11, _), (17, _)] ⟨rfl, rfl, rfl, trivial⟩ ?_
            refine then_next ?_
            refine vc_seq ?_
            refine vc_region ?_
            refine vl_det (det_move rfl) rfl ?_
            refine vl_det (det_neq rfl rfl) rfl ?_
            refine vl_end [(7, _), (11, _), (17, _), (79, _)] ⟨rfl, rfl, rfl, rfl, trivial⟩ ?_
            refine then_next ?_
            refine vc_decideU rfl (fun h79 => ?_) (fun h79 => ?_)
            · skip
              rw [if_pos h79] at hB
              refine vc_seq ?_
              refine vc_region ?_
              refine vl_det (det_move rfl) rfl ?_
              refine vl_det (det_assign rfl) rfl ?_
              refine vl_det (det_assign rfl) rfl ?_
              refine vl_det (det_assign rfl) rfl ?_
              refine vl_end [(4, _), (5, _), (6, _)] ⟨rfl, rfl, rfl, trivial⟩ ?_
              refine then_next ?_
              refine vc_ret ?_
              refine then_ret ?_
              refine ret_wk (L' := F) (.skip (.skip (.skip (.skip (.skip (.skip (.refl _))))))) ?_
              refine ret3_ rfl rfl rfl rfl ?_
              have hz2 := hR1 (by rw [← hB]; exact h79)
              rw [← hB] at hz2
              exact .inl ⟨by rw [hz2]; exact h79, by rw [hz2], rfl⟩
            · skip
              rw [if_neg h79] at hB
              refine vc_skip ?_
              refine then_next ?_
              refine vc_seq ?_
              refine vc_region ?_
              refine vl_det (det_move rfl) rfl ?_
              refine vl_det (det_move rfl) rfl ?_
              refine vl_call co41 rfl (cat_d) rfl ?_
              rintro _ _ ⟨rfl, hLL⟩
              obtain rfl := hLL.symm
              refine vl_det (det_assign rfl) rfl ?_
              refine vl_det (det_assign rfl) rfl ?_
              refine vl_det (det_assign rfl) rfl ?_
              refine vl_end [(4, _), (5, _), (6, _)] ⟨rfl, rfl, rfl, trivial⟩ ?_
              refine then_next ?_
              refine vc_ret ?_
              have hz2 := hR2 (by rw [← hB])
              rw [← hB] at hz2
              have hn : o.length = N := by have := chN_ge (n := N) hs1; have := huc (by simpa using h79); rw [hol, hz, hiS, this]; omega
              have hhd : h = hdS sz o := by unfold hdS; rw [hn, hh, hiS, huc (by simpa using h79)]
              refine ret_wk (L' := Dd g46 sz P1 p1 P2 p2 o h F) ((wu2 (wu2 (wu2 (.skip (.skip (.skip (.refl _)))))))) ?_
              refine ret3_ rfl rfl rfl rfl ?_
              exact .inr ⟨by rw [hz2], by omega, by omega, by rw [hz2]; exact ho25, by rw [hz2]; simp only; omega, g46, P1, p1, P2, p2, by rw [hz2], by rw [hz2, hhd]; rfl⟩
theorem dread_d {size : Int} {b : List UInt8} (hb : Bor B w0 F 1 (.slice A b.length c) b.length (bv b)) (hbl : b.length ≤ 1000000000) :
    Does Try.prog B w0 19 [.int .i64 size, .slice A b.length c] F (DictQ size b F) := by
  by_cases hE : size < 1 ∨ 64 < size
  · exact dread_bad hE
  · obtain ⟨sz, rfl⟩ := Int.eq_ofNat_of_zero_le (show 0 ≤ size by omega)
    exact dread_ok (by omega) (by omega) hb hbl
theorem dread_good {sz k : Nat} {b : List UInt8} {l : List Txt} (hs1 : 1 ≤ sz) (hs2 : sz ≤ 64) (hb : Bor B w0 F 1 (.slice A b.length c) b.length (bv b)) (hbl : b.length ≤ 1000000000) (he : dictR sz b = (l, k, 0)) :
    Does Try.prog B w0 19 [.int .i64 sz, .slice A b.length c] F (fun r L => ∃ g A1 c1 A2 c2, r = .tuple #[.pointer (some ⟨g, 0, none⟩), .int .i64 k, .int .i64 0] ∧ L = Dd g sz A1 c1 A2 c2 l (hdS sz l) F) :=
  (dread_ok hs1 hs2 hb hbl).mono fun r L h => by
    rcases h with ⟨h, _⟩ | ⟨_, _, _, _, _, g, A1, c1, A2, c2, h1, h2⟩
    · rw [he] at h; exact absurd rfl h
    · rw [he] at h1 h2; exact ⟨g, A1, c1, A2, c2, h1, h2⟩
theorem dread_err {size : Int} {b : List UInt8} (hb : Bor B w0 F 1 (.slice A b.length c) b.length (bv b)) (hbl : b.length ≤ 1000000000) (he : (dictR size b).2.2 ≠ 0) :
    Does Try.prog B w0 19 [.int .i64 size, .slice A b.length c] F (fun r L => r = .tuple #[.pointer none, .int .i64 0, .int .i64 (dictR size b).2.2] ∧ L = F) :=
  (dread_d hb hbl).mono fun r L h => by
    rcases h with ⟨_, h1, h2⟩ | ⟨h, _⟩
    · exact ⟨h1, h2⟩
    · exact absurd h he
end Go.Proofs.Ytbkaoncopohdbaa

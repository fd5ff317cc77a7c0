/-
  Texts of one proof, joined: part 13. No condition.
-/
import Derived.Test.YtpamjobiohbibaaMp12
namespace Go.Proofs.Ytpamjobiohbibaa
open Go.RowKit
set_option linter.unusedVariables false
set_option maxRecDepth 20000
variable {B : Nat} {w0 : World} {F : List Ch} {A A1 A2 : Option Addr} {n c c1 c2 g : Nat}
theorem efRd_back {bound : Nat} {xs : List Nat} (hR : RisN bound xs) (hb : bound ≤ 20000) (more : List UInt8) : efRd (bound : Int) (efB bound xs ++ more) = (xs, (efB bound xs).length, 0) := by
  have hlen := hR.len
  obtain ⟨tl, htl⟩ : ∃ tl, tl = (if xs.length = 0 then [] else packed (efQ (2 ^ wid bound xs.length) (wid bound xs.length) xs)) := ⟨_, rfl⟩
  have hB : efB bound xs = encN xs.length ++ tl := by rw [efB, ← htl]
  obtain ⟨b, hbb⟩ : ∃ b, b = encN xs.length ++ (tl ++ more) := ⟨_, rfl⟩
  have hbe : efB bound xs ++ more = b := by rw [hB, hbb, List.append_assoc]
  have hs : scanS b = (xs.length, (encN xs.length).length, 0) := by rw [hbb]; exact scanS_back _ (by omega) _
  have hl : limS b (bound : Int) = (xs.length, (encN xs.length).length, 0) := by
    unfold limS
    rw [hs, if_neg (by simp), if_neg (by simp only; omega)]
  have hC : rdC (bound : Int) b = ⟨b, (encN xs.length).length, 0⟩ := by
    unfold rdC Cs.int' Cs.rest
    simp only [List.drop_zero]
    rw [hl]
    simp [Cs.moved]
  have hN : rdN (bound : Int) b = xs.length := by
    unfold rdN Cs.int Cs.rest
    simp only [List.drop_zero]
    rw [hl]
    simp
  rw [hbe]
  by_cases h0 : xs.length = 0
  · rw [efRd_c (by omega) (by rw [hC]; simp) (by rw [hN]; exact h0), hC, List.length_eq_zero_iff.1 h0]
    rw [if_pos h0] at htl
    have : efB bound [] = encN 0 ++ [] := by simp [efB]
    rw [this]
    simp
  · have hRR : rdR (bound : Int) b = (xs, tl.length, 0) := by
      unfold rdR
      rw [hN, hC]
      simp only [Int.toNat_natCast]
      rw [if_neg h0] at htl
      rw [show b.drop (encN xs.length).length = tl ++ more by rw [hbb]; exact List.drop_left' rfl, htl]
      exact efRow_back hR more (by omega)
    rw [efRd_e (by omega) (by rw [hC]; simp) (by rw [hN]; exact h0) (by rw [hRR]; simp), hRR, hC, hB]
    simp
theorem efRd_one {bound : Int} {b : List UInt8} (hbd : bound ≤ 9223372036854775807) (h : (efRd bound b).2.2 = 0) :
    ∃ bn : Nat, bound = (bn : Int) ∧ bn ≤ 20000 ∧ RisN bn (efRd bound b).1 ∧ efB bn (efRd bound b).1 = b.take (efRd bound b).2.1 ∧ (efRd bound b).2.1 ≤ b.length := by
  by_cases h1 : bound < 0 ∨ 20000 < bound
  · rw [efRd_a h1] at h; simp at h
  · obtain ⟨bn, rfl⟩ := Int.eq_ofNat_of_zero_le (show 0 ≤ bound by omega)
    refine ⟨bn, rfl, by omega, ?_⟩
    by_cases h2 : (rdC bn b).e = 0
    · have hl : (limS b (bn : Int)).2.2 = 0 := by
        unfold rdC Cs.int' Cs.rest at h2
        simp only [List.drop_zero] at h2
        by_cases hh : (limS b (bn : Int)).2.2 = 0
        · exact hh
        · simp [Cs.moved, hh] at h2
      have hsc : (scanS b).2.2 = 0 ∧ limS b (bn : Int) = ((scanS b).1, (scanS b).2.1, 0) := by
        unfold limS at hl ⊢
        split at hl
        · rename_i hh; exact absurd hl hh
        · rename_i hh
          split at hl
          · simp at hl
          · rename_i h3
            rw [if_neg hh, if_neg h3]
            exact ⟨by simpa using hh, rfl⟩
      have henc := scanS_enc hsc.1
      have hle := (scanS_facts b).2.1
      have hC : rdC (bn : Int) b = ⟨b, (scanS b).2.1, 0⟩ := by
        unfold rdC Cs.int' Cs.rest
        simp only [List.drop_zero]
        rw [hsc.2]
        simp [Cs.moved]
      have hN : rdN (bn : Int) b = (scanS b).1 := by
        unfold rdN Cs.int Cs.rest
        simp only [List.drop_zero]
        rw [hsc.2]
        simp
      by_cases h3 : rdN bn b = 0
      · rw [efRd_c h1 (by simpa using h2) h3, hC]
        refine ⟨fun i hi => absurd hi (by simp), ?_, hle⟩
        rw [hN] at h3
        rw [h3] at henc
        simp only
        rw [← henc]
        simp [efB]
      · by_cases h4 : (rdR bn b).2.2 = 0
        · rw [efRd_e h1 (by simpa using h2) h3 (by simpa using h4)]
          have hR : rdR bn b = efRow bn (scanS b).1 (b.drop (scanS b).2.1) := by unfold rdR; rw [hN, hC, Int.toNat_natCast]
          rw [hR] at h4
          obtain ⟨e1, e2, e3⟩ := efRow_one h4
          have e4 := efRow_len bn (scanS b).1 (b.drop (scanS b).2.1)
          rw [List.length_drop] at e4
          rw [hN] at h3
          simp only
          rw [hC, hR]
          refine ⟨e2, ?_, by simp only; omega⟩
          rw [efB, e1, if_neg h3, e3, henc]
          simp only
          rw [List.take_add]
        · rw [efRd_d h1 (by simpa using h2) h3 (by simpa using h4)] at h
          exact absurd h h4
    · rw [efRd_b h1 h2] at h; exact absurd h h2
theorem efB_len {bound : Nat} {xs : List Nat} (h : RisN bound xs) (hb : bound ≤ 20000) : (efB bound xs).length ≤ 50011 := by
  have h1 := h.len
  have h2 := encL_len (n := xs.length) (by omega)
  have h3 := efQ_len (p := 2 ^ wid bound xs.length) (w := wid bound xs.length) h hb (wid_le hb)
  unfold efB
  rw [List.length_append]
  split
  · simp only [List.length_nil]; omega
  · rw [packed_length]; omega
theorem RisN.le {bound : Nat} {xs : List Nat} (h : RisN bound xs) (hb : bound ≤ 20000) : ∀ i, i < xs.length → xs.getD i 0 ≤ 1000000 := fun i hi => by have := (h i hi).1; omega
theorem efread_ok {bound t : Nat} {xs : List Nat} {b : List UInt8} (hb : Bor B w0 F 1 (.slice A b.length c) b.length (bv b)) (hbl : b.length ≤ 100000) (hbd : bound ≤ 20000) (he : efRd bound b = (xs, t, 0)) :
    Does Try.prog B w0 85 [.int .i64 bound, .slice A b.length c] F (fun r L => ∃ w p g A1 c1 A2 c2, p = 2 ^ w ∧ w ≤ 14 ∧ r = .tuple #[.pointer (some ⟨g, 0, none⟩), .int .i64 t, .int .i64 0] ∧ L = Rl g w p A1 c1 A2 c2 xs F) :=
  (efread_d hb hbl (by omega) (by omega)).mono fun r L h => by
    unfold ReadR at h
    rw [he] at h
    rcases h with ⟨h, _⟩ | ⟨_, h⟩
    · exact absurd rfl h
    · exact h
theorem natv_inj {l l2 : List Nat} (h : natv l = natv l2) : l = l2 := by
  have : ∀ {a b : Nat}, (Value.int .i64 (a : Int)) = .int .i64 b → a = b := fun h => by injection h with _ h; exact Int.ofNat_inj.1 h
  induction l generalizing l2 with
  | nil => cases l2 with
    | nil => rfl
    | cons y r => simp [natv] at h
  | cons x r ih => cases l2 with
    | nil => simp [natv] at h
    | cons y r2 =>
      simp only [natv, List.map_cons, List.cons.injEq] at h
      rw [this h.1, ih (by exact h.2)]
theorem same9_d {l l2 : List Nat} (h1 : Bor B w0 F 1 (.slice A l.length c) l.length (natv l)) (h2 : Bor B w0 F 1 (.slice A2 l2.length c2) l2.length (natv l2)) (hl : l.length ≤ 1000000000) :
    Does Try.prog B w0 28 [.slice A l.length c, .slice A2 l2.length c2] F (fun r L => r = .bool (decide (l = l2)) ∧ L = F) := by
  refine fn_walk Try.func28 26 rfl rfl rfl [(0, .slice A l.length c), (1, .slice A2 l2.length c2)] ⟨⟨rfl, rfl⟩, ⟨rfl, rfl⟩, trivial⟩ ?_
  refine vc_seq ?_
  refine vc_region ?_
  refine vl_det (det_assign rfl) rfl ?_
  refine vl_end [(0, _), (1, _)] ⟨rfl, rfl, trivial⟩ ?_
  refine then_next ?_
  refine vc_seq ?_
  refine vc_seq ?_
  refine vc_region ?_
  refine vl_det (det_move rfl) rfl ?_
  refine vl_det (det_len_sl Try.underlying37 rfl) rfl ?_
  refine vl_det (det_move rfl) rfl ?_
  refine vl_det (det_len_sl Try.underlying37 rfl) rfl ?_
  refine vl_det (det_neq rfl rfl) rfl ?_
  refine vl_end [(0, _), (1, _), (10, _)] ⟨rfl, rfl, rfl, trivial⟩ ?_
  refine then_next ?_
  refine vc_decideU rfl (fun h10 => ?_) (fun h10 => ?_)
  · skip
    refine vc_seq ?_
    refine vc_region ?_
    refine vl_det (det_assign rfl) rfl ?_
    refine vl_end [(4, _)] ⟨rfl, trivial⟩ ?_
    refine then_next ?_
    refine vc_ret ?_
    refine then_ret ?_
    refine ret1 rfl rfl ?_
    exact ⟨by rw [decide_eq_false (fun h => by rw [h] at h10; exact h10 rfl)], rfl⟩
  · skip
    refine vc_skip ?_
    refine then_next ?_
    refine vc_seq ?_
    refine vc_seq ?_
    refine vc_region ?_
    refine vl_det (det_assign rfl) rfl ?_
    refine vl_end [(0, _), (1, _), (5, _)] ⟨rfl, rfl, rfl, trivial⟩ ?_
    refine then_next ?_
    refine vc_block ?_
    refine vc_loopJ (fun zf zL zm => ∃ (k : Nat), (k ≤ l.length ∧ l.take k = l2.take k) ∧ l.length - k = zm ∧ Sub zf [(0, .slice A l.length c), (1, .slice A2 l2.length c2), (5, .int .i64 k)] ∧ Wk zL (F)) _ ⟨0, ⟨Nat.zero_le _, rfl⟩, rfl, ⟨(by first | rfl | exact int_to (by omega) | exact sl_to (by omega)), (by first | rfl | exact int_to (by omega) | exact sl_to (by omega)), (by first | rfl | exact int_to (by omega) | exact sl_to (by omega)), trivial⟩, .refl _⟩ ?_
    rintro _ _ _ ⟨k, ⟨hk, heq⟩, rfl, hs, hp⟩
    refine vc_weaken _ hs (vc_wk hp ?_)
    clear hs hp
    refine vc_seq ?_
    refine vc_seq ?_
    refine vc_region ?_
    refine vl_det (det_move rfl) rfl ?_
    refine vl_det (det_move rfl) rfl ?_
    refine vl_det (det_len_sl Try.underlying37 rfl) rfl ?_
    refine vl_det (det_lss rfl rfl) rfl ?_
    refine vl_end [(0, _), (1, _), (5, _), (14, _)] ⟨rfl, rfl, rfl, rfl, trivial⟩ ?_
    refine then_next ?_
    refine vc_decideU rfl (fun h14 => ?_) (fun h14 => ?_)
    · skip
      refine vc_skip ?_
      refine then_next ?_
      refine vc_seq ?_
      refine vc_block ?_
      refine vc_seq ?_
      refine vq_region (by kernel_rfl) (by kernel_rfl) ?_
      refine vq_det (det_move rfl) rfl ?_
      refine vq_det (det_move rfl) rfl ?_
      refine vq_det (det_indexAddr (size := 1) Try.underlying37 (by kernel_rfl) rfl rfl rfl (by omega) (by first | (exact Bor.own (by repeat (first | exact List.Mem.head _ | apply List.Mem.tail))) | (repeat (first | assumption | apply Bor.cons)))) rfl ?_
      refine vq_det (det_load_row (v := .int .i64 (l.getD k 0 : Nat)) (by kernel_rfl) rfl (by first | (exact Bor.own (by repeat (first | exact List.Mem.head _ | apply List.Mem.tail))) | (repeat (first | assumption | apply Bor.cons))) (by omega) (by simp [natv, List.getD, List.getElem?_eq_getElem (show k < l.length by omega)])) rfl ?_
      refine vq_det (det_move rfl) rfl ?_
      refine vq_det (det_move rfl) rfl ?_
      refine vq_det (det_indexAddr (size := 1) Try.underlying37 (by kernel_rfl) rfl rfl rfl (by omega) (by first | (exact Bor.own (by repeat (first | exact List.Mem.head _ | apply List.Mem.tail))) | (repeat (first | assumption | apply Bor.cons)))) rfl ?_
      refine vq_det (det_load_row (v := .int .i64 (l2.getD k 0 : Nat)) (by kernel_rfl) rfl (by first | (exact Bor.own (by repeat (first | exact List.Mem.head _ | apply List.Mem.tail))) | (repeat (first | assumption | apply Bor.cons))) (by omega) (by simp [natv, List.getD, List.getElem?_eq_getElem (show k < l2.length by omega)])) rfl ?_
      refine vq_det (det_neq rfl rfl) rfl ?_
      refine vq_end [(0, _), (1, _), (5, _), (25, _)] ⟨rfl, rfl, rfl, rfl, trivial⟩ ?_
      refine then_next ?_
      refine vc_decideU rfl (fun h25 => ?_) (fun h25 => ?_)
      · skip
        refine vc_seq ?_
        refine vc_region ?_
        refine vl_det (det_assign rfl) rfl ?_
        refine vl_end [(4, _)] ⟨rfl, trivial⟩ ?_
        refine then_next ?_
        refine vc_ret ?_
        refine in_ret ?_
        refine then_ret ?_
        refine loop_ret ?_
        refine in_ret ?_
        refine then_ret ?_
        refine ret1 rfl rfl ?_
        exact ⟨by rw [decide_eq_false (fun h => by rw [h] at h25; exact h25 rfl)], rfl⟩
      · skip
        refine vc_skip ?_
        refine in_normal ?_
        refine then_next ?_
        refine vc_region ?_
        refine vl_det (det_move rfl) rfl ?_
        refine vl_det (det_add rfl rfl (w_i64 (by omega) (by omega))) rfl ?_
        refine vl_det (det_assign rfl) rfl ?_
        refine vl_end [(0, _), (1, _), (5, _)] ⟨rfl, rfl, rfl, trivial⟩ ?_
        refine in_loop_ ⟨_, by omega, k + 1, ⟨by omega, by rw [take_getD (by omega) 0, take_getD (by omega) 0, heq, show l.getD k 0 = l2.getD k 0 by omega]⟩, rfl, ⟨(by first | rfl | exact int_to (by omega) | exact sl_to (by omega)), (by first | rfl | exact int_to (by omega) | exact sl_to (by omega)), (by first | rfl | exact int_to (by omega) | exact sl_to (by omega)), trivial⟩, .refl _⟩
    · skip
      refine vc_exit ?_
      refine then_exit ?_
      refine loop_exit ?_
      refine in_eq ?_
      refine then_next ?_
      refine vc_seq ?_
      refine vc_region ?_
      refine vl_det (det_assign rfl) rfl ?_
      refine vl_end [(4, _)] ⟨rfl, trivial⟩ ?_
      refine then_next ?_
      refine vc_ret ?_
      refine ret1 rfl rfl ?_
      have e : l = l2 := by
        have := heq
        rwa [List.take_of_length_le (by omega), List.take_of_length_le (by omega)] at this
      exact ⟨by rw [decide_eq_true e], rfl⟩
end Go.Proofs.Ytpamjobiohbibaa
namespace Go.Proofs.Ytpamjobiohbibaa
open Go.RowKit
set_option linter.unusedVariables false
set_option maxRecDepth 20000
variable {B : Nat} {w0 : World} {F : List Ch} {A A1 A2 B1 B2 : Option Addr} {n c c1 c2 b1 b2 g : Nat} {bound size : Int} {T : List Txt} {LL : List LsI}
/-- may an index be? -/
def idxOk (bound : Int) (T : List Txt) (I : List (List Int)) : Prop := (0 ≤ bound ∧ bound ≤ 20000) ∧ T.length = I.length ∧ RisT T ∧ ∀ x ∈ I, x ≠ [] ∧ Ris bound x
instance (bound : Int) (T : List Txt) (I : List (List Int)) : Decidable (idxOk bound T I) := inferInstanceAs (Decidable (_ ∧ _ ∧ _ ∧ _))
def lsB (bound : Int) (I : List (List Int)) : List UInt8 := I.flatMap fun x => (efW bound x).1
def idxB (sz : Nat) (bound : Int) (T : List Txt) (I : List (List Int)) : List UInt8 := dictB sz T ++ lsB bound I
def idxW (size bound : Int) (T : List Txt) (I : List (List Int)) : List UInt8 × Int := if size < 1 ∨ 64 < size ∨ ¬ idxOk bound T I then ([], 13) else (idxB size.toNat bound T I, 0)
theorem idxW_bad {I : List (List Int)} (h : size < 1 ∨ 64 < size ∨ ¬ idxOk bound T I) : idxW size bound T I = ([], 13) := if_pos h
theorem idxW_ok {sz : Nat} {I : List (List Int)} (h1 : 1 ≤ sz) (h2 : sz ≤ 64) (h : idxOk bound T I) : idxW sz bound T I = (idxB sz bound T I, 0) := by
  unfold idxW
  rw [if_neg (by rintro (q | q | q); omega; omega; exact q h), Int.toNat_natCast]
theorem efW_iff {x : List Int} (h0 : 0 ≤ bound) (h1 : bound ≤ 20000) : (efW bound x).2 = 0 ↔ Ris bound x := by
  constructor
  · intro h
    refine Classical.byContradiction fun q => ?_
    rw [efW_bad (.inr (.inr q))] at h
    exact absurd h (by decide)
  · intro h
    obtain ⟨xs, rfl⟩ := h.nats
    obtain ⟨b, rfl⟩ := Int.eq_ofNat_of_zero_le h0
    rw [efW_ok (by rintro (q | q | q); omega; omega; exact q h)]
theorem efW_len {x : List Int} (h0 : 0 ≤ bound) (h1 : bound ≤ 20000) : (efW bound x).1.length ≤ 50011 := by
  by_cases h : Ris bound x
  · obtain ⟨xs, rfl⟩ := h.nats
    obtain ⟨b, rfl⟩ := Int.eq_ofNat_of_zero_le h0
    rw [efW_ok (by rintro (q | q | q); omega; omega; exact q h)]
    exact efB_len ((ris_iff b xs).1 h) (by omega)
  · rw [efW_bad (.inr (.inr h))]; simp
theorem lsB_len (h0 : 0 ≤ bound) (h1 : bound ≤ 20000) : ∀ I : List (List Int), (lsB bound I).length ≤ I.length * 50011
  | [] => by simp [lsB]
  | x :: r => by
    have := lsB_len h0 h1 r
    have h2 := efW_len (x := x) h0 h1
    unfold lsB at *
    rw [List.flatMap_cons, List.length_append, List.length_cons, Nat.add_mul]
    omega
theorem dictB_len {sz : Nat} (hR : RisT T) (h1 : 1 ≤ sz) (h2 : sz ≤ 64) : (dictB sz T).length ≤ 4000000000 := by
  have hl := hR.2
  have hB1 := bodyT_len (l := T) (sz := sz) h2 hR.le (List.range (chN sz T.length))
  have hH1 := headT_len (l := T) (sz := sz) h2 hR.le (List.range (chN sz T.length))
  have hN1 := encN_len10 (x := T.length) (by omega)
  have hcN : chN sz T.length ≤ 1048639 := by
    unfold chN
    exact Nat.le_trans (Nat.div_le_self _ _) (by omega)
  rw [List.length_range] at hB1 hH1
  have h3 : chN sz T.length * 3000 ≤ 1048639 * 3000 := Nat.mul_le_mul_right _ hcN
  have h4 : chN sz T.length * 10 ≤ 1048639 * 10 := Nat.mul_le_mul_right _ hcN
  simp only [dictB, List.length_append]
  omega
/-- rows of bytes -/
abbrev PtB := Option Addr × Nat × List UInt8
abbrev pVal (e : PtB) : Value := .slice e.1 e.2.2.length e.2.1
abbrev pRow (e : PtB) : Ch := .own 5 1 e.1 e.2.2.length e.2.1 (bv e.2.2)
def ptP (PB : List PtB) : Parts := PB.map fun e => (pVal e, e.2.2)
theorem ptP_vals (PB : List PtB) : (ptP PB).vals = PB.map pVal := by simp [ptP, Parts.vals]
theorem ptP_all (PB : List PtB) : (ptP PB).all = (PB.map (·.2.2)).flatten := by
  unfold ptP Parts.all
  rw [List.flatMap_map, List.flatMap_def]
theorem wk_rowb (P : List Ch) {PB : List PtB} {e : PtB} : Wk (pRow e :: (P ++ (PB.map pRow ++ F))) (P ++ ((PB ++ [e]).map pRow ++ F)) := by
  refine .of_perm ?_
  rw [List.map_append, List.append_assoc, ← List.append_assoc, ← List.append_assoc]
  exact List.perm_middle.symm
abbrev IdxA (A1 : Option Addr) (n c1 : Nat) (B1 : Option Addr) (m b1 : Nat) : Value := .agg [.slice A1 n c1, .slice B1 m b1].toArray
theorem pbytes_1 (hE : (bound < 0 ∨ 20000 < bound) ∨ ¬ (T.length : Int) = LL.length) :
    Does Try.prog B w0 17 [.int .i64 size, .int .i64 bound, IdxA A1 T.length c1 B1 LL.length b1] F (fun r L => r = .tuple #[.slice none 0 0, .int .i64 13] ∧ L = F) := by
  refine fn_walk Try.func17 69 rfl rfl rfl [(0, .int .i64 size), (1, .int .i64 bound), (2, IdxA A1 T.length c1 B1 LL.length b1)] ⟨⟨rfl, rfl⟩, ⟨rfl, rfl⟩, ⟨rfl, rfl⟩, trivial⟩ ?_
  refine vc_seq ?_
  refine vc_region ?_
  refine vl_eff (eff_box rfl rfl) rfl ?_
  rintro _ _ ⟨g5, rfl, rfl⟩
  refine vl_det (det_assign rfl) rfl ?_
  refine vl_det (det_assign rfl) rfl ?_
  refine vl_end [(0, _), (1, _), (5, _)] ⟨rfl, rfl, rfl, trivial⟩ ?_
  refine then_next ?_
  refine vc_seq ?_
  refine vc_seq ?_
  refine vc_region ?_
  refine vl_cut 15 29 [(0, _), (1, _), (5, _)] ((bound < 0 ∨ 20000 < bound) ∨ ¬ (T.length : Int) = LL.length) ⟨rfl, rfl, rfl, trivial⟩ ?_ ?_
  · skip
    refine vl_det (det_move rfl) rfl ?_
    refine vl_det (det_lss rfl rfl) rfl ?_
    refine vl_det (det_move rfl) rfl ?_
    refine vl_guardn rfl rfl rfl (fun h17 => ?_) (fun h17 => ?_)
    · skip
      refine vl_det (det_move rfl) rfl ?_
      refine vl_guard_t rfl rfl ?_
      refine vl_det (det_gtr rfl rfl) rfl ?_
      refine vl_det (det_pick_f rfl rfl) rfl ?_
      refine vl_det (det_move rfl) rfl ?_
      refine vl_guardn rfl rfl rfl (fun h21 => ?_) (fun h21 => ?_)
      · skip
        refine vl_det (det_fieldAddr_ Try.underlying29 rfl (by kernel_rfl) rfl rfl) rfl ?_
        refine vl_guard_t rfl rfl ?_
        refine vl_det (det_load_blk (by kernel_rfl) rfl (by repeat (first | exact .hd | apply Sel.tl)) rfl) rfl ?_
        refine vl_guard_t rfl rfl ?_
        refine vl_det (det_len_sl Try.underlying26 rfl) rfl ?_
        refine vl_guard_t rfl rfl ?_
        refine vl_det (det_fieldAddr_ Try.underlying29 rfl (by kernel_rfl) rfl rfl) rfl ?_
        refine vl_guard_t rfl rfl ?_
        refine vl_det (det_load_blk (by kernel_rfl) rfl (by repeat (first | exact .hd | apply Sel.tl)) rfl) rfl ?_
        refine vl_guard_t rfl rfl ?_
        refine vl_det (det_len_sl Try.underlying27 rfl) rfl ?_
        refine vl_guard_t rfl rfl ?_
        refine vl_det (det_neq rfl rfl) rfl ?_
        refine vl_det (det_pick_f rfl rfl) rfl ?_
        exact vl_cut_end ⟨rfl, rfl, rfl, trivial⟩ (by first | rfl | exact bool_to_t (by first | omega | simp_all) | exact bool_to_f (by first | omega | simp_all) | exact bool_to (by first | omega | simp_all) | exact bool_to_b (by first | omega | simp_all))
      · skip
        refine vl_guard_f rfl rfl rfl rfl ?_
        refine vl_guard_f rfl rfl rfl rfl ?_
        refine vl_guard_f rfl rfl rfl rfl ?_
        refine vl_guard_f rfl rfl rfl rfl ?_
        refine vl_guard_f rfl rfl rfl rfl ?_
        refine vl_guard_f rfl rfl rfl rfl ?_
        refine vl_det (det_pick_t rfl rfl) rfl ?_
        exact vl_cut_end ⟨rfl, rfl, rfl, trivial⟩ (by first | rfl | exact bool_to_t (by first | omega | simp_all) | exact bool_to_f (by first | omega | simp_all) | exact bool_to (by first | omega | simp_all) | exact bool_to_b (by first | omega | simp_all))
    · skip
      refine vl_guard_f rfl rfl rfl rfl ?_
      refine vl_det (det_pick_t rfl rfl) rfl ?_
      refine vl_det (det_move rfl) rfl ?_
      refine vl_guard_f rfl rfl rfl rfl ?_
      refine vl_guard_f rfl rfl rfl rfl ?_
      refine vl_guard_f rfl rfl rfl rfl ?_
      refine vl_guard_f rfl rfl rfl rfl ?_
      refine vl_guard_f rfl rfl rfl rfl ?_
      refine vl_guard_f rfl rfl rfl rfl ?_
      refine vl_guard_f rfl rfl rfl rfl ?_
      refine vl_det (det_pick_t rfl rfl) rfl ?_
      exact vl_cut_end ⟨rfl, rfl, rfl, trivial⟩ (by first | rfl | exact bool_to_t (by first | omega | simp_all) | exact bool_to_f (by first | omega | simp_all) | exact bool_to (by first | omega | simp_all) | exact bool_to_b (by first | omega | simp_all))
  · skip
    refine vl_end [(0, _), (1, _), (5, _), (29, _)] ⟨rfl, rfl, rfl, rfl, trivial⟩ ?_
    refine then_next ?_
    refine vc_decideU rfl (fun h29 => ?_) (fun h29 => ?_)
    · skip
      refine vc_seq ?_
      refine vc_region ?_
      refine vl_det (det_assign rfl) rfl ?_
      refine vl_det (det_assign rfl) rfl ?_
      refine vl_end [(6, _), (7, _)] ⟨rfl, rfl, trivial⟩ ?_
      refine then_next ?_
      refine vc_ret ?_
      refine then_ret ?_
      refine ret_wk (L' := F) (.skip (.refl _)) ?_
      refine ret2 rfl rfl rfl ?_
      exact ⟨rfl, rfl⟩
    · skip
      exfalso; exact h29 hE
theorem pbytes_2 (h1 : Bor B w0 F 1 (.slice A1 T.length c1) T.length (strs T)) (hb0 : 0 ≤ bound) (hb1 : bound ≤ 20000) (hl : T.length = LL.length) (hs : T.length ≤ 1000000000) (hE : size < 1 ∨ 64 < size ∨ ¬ RisT T) :
    Does Try.prog B w0 17 [.int .i64 size, .int .i64 bound, IdxA A1 T.length c1 B1 LL.length b1] F (fun r L => r = .tuple #[.slice none 0 0, .int .i64 13] ∧ L = F) := by
  refine fn_walk Try.func17 69 rfl rfl rfl [(0, .int .i64 size), (1, .int .i64 bound), (2, IdxA A1 T.length c1 B1 LL.length b1)] ⟨⟨rfl, rfl⟩, ⟨rfl, rfl⟩, ⟨rfl, rfl⟩, trivial⟩ ?_
  refine vc_seq ?_
  refine vc_region ?_
  refine vl_eff (eff_box rfl rfl) rfl ?_
  rintro _ _ ⟨g5, rfl, rfl⟩
  refine vl_det (det_assign rfl) rfl ?_
  refine vl_det (det_assign rfl) rfl ?_
  refine vl_end [(0, _), (1, _), (5, _)] ⟨rfl, rfl, rfl, trivial⟩ ?_
  refine then_next ?_
  refine vc_seq ?_
  refine vc_seq ?_
  refine vc_region ?_
  refine vl_cut 15 29 [(0, _), (1, _), (5, _)] ((bound < 0 ∨ 20000 < bound) ∨ ¬ (T.length : Int) = LL.length) ⟨rfl, rfl, rfl, trivial⟩ ?_ ?_
  · skip
    refine vl_det (det_move rfl) rfl ?_
    refine vl_det (det_lss rfl rfl) rfl ?_
    refine vl_det (det_move rfl) rfl ?_
    refine vl_guardn rfl rfl rfl (fun h17 => ?_) (fun h17 => ?_)
    · skip
      refine vl_det (det_move rfl) rfl ?_
      refine vl_guard_t rfl rfl ?_
      refine vl_det (det_gtr rfl rfl) rfl ?_
      refine vl_det (det_pick_f rfl rfl) rfl ?_
      refine vl_det (det_move rfl) rfl ?_
      refine vl_guardn rfl rfl rfl (fun h21 => ?_) (fun h21 => ?_)
      · skip
        refine vl_det (det_fieldAddr_ Try.underlying29 rfl (by kernel_rfl) rfl rfl) rfl ?_
        refine vl_guard_t rfl rfl ?_
        refine vl_det (det_load_blk (by kernel_rfl) rfl (by repeat (first | exact .hd | apply Sel.tl)) rfl) rfl ?_
        refine vl_guard_t rfl rfl ?_
        refine vl_det (det_len_sl Try.underlying26 rfl) rfl ?_
        refine vl_guard_t rfl rfl ?_
        refine vl_det (det_fieldAddr_ Try.underlying29 rfl (by kernel_rfl) rfl rfl) rfl ?_
        refine vl_guard_t rfl rfl ?_
        refine vl_det (det_load_blk (by kernel_rfl) rfl (by repeat (first | exact .hd | apply Sel.tl)) rfl) rfl ?_
        refine vl_guard_t rfl rfl ?_
        refine vl_det (det_len_sl Try.underlying27 rfl) rfl ?_
        refine vl_guard_t rfl rfl ?_
        refine vl_det (det_neq rfl rfl) rfl ?_
        refine vl_det (det_pick_f rfl rfl) rfl ?_
        exact vl_cut_end ⟨rfl, rfl, rfl, trivial⟩ (by first | rfl | exact bool_to_t (by first | omega | simp_all) | exact bool_to_f (by first | omega | simp_all) | exact bool_to (by first | omega | simp_all) | exact bool_to_b (by first | omega | simp_all))
      · skip
        refine vl_guard_f rfl rfl rfl rfl ?_
        refine vl_guard_f rfl rfl rfl rfl ?_
        refine vl_guard_f rfl rfl rfl rfl ?_
        refine vl_guard_f rfl rfl rfl rfl ?_
        refine vl_guard_f rfl rfl rfl rfl ?_
        refine vl_guard_f rfl rfl rfl rfl ?_
        refine vl_det (det_pick_t rfl rfl) rfl ?_
        exact vl_cut_end ⟨rfl, rfl, rfl, trivial⟩ (by first | rfl | exact bool_to_t (by first | omega | simp_all) | exact bool_to_f (by first | omega | simp_all) | exact bool_to (by first | omega | simp_all) | exact bool_to_b (by first | omega | simp_all))
    · skip
      refine vl_guard_f rfl rfl rfl rfl ?_
      refine vl_det (det_pick_t rfl rfl) rfl ?_
      refine vl_det (det_move rfl) rfl ?_
      refine vl_guard_f rfl rfl rfl rfl ?_
      refine vl_guard_f rfl rfl rfl rfl ?_
      refine vl_guard_f rfl rfl rfl rfl ?_
      refine vl_guard_f rfl rfl rfl rfl ?_
      refine vl_guard_f rfl rfl rfl rfl ?_
      refine vl_guard_f rfl rfl rfl rfl ?_
      refine vl_guard_f rfl rfl rfl rfl ?_
      refine vl_det (det_pick_t rfl rfl) rfl ?_
      exact vl_cut_end ⟨rfl, rfl, rfl, trivial⟩ (by first | rfl | exact bool_to_t (by first | omega | simp_all) | exact bool_to_f (by first | omega | simp_all) | exact bool_to (by first | omega | simp_all) | exact bool_to_b (by first | omega | simp_all))
  · skip
    refine vl_end [(0, _), (1, _), (5, _), (29, _)] ⟨rfl, rfl, rfl, rfl, trivial⟩ ?_
    refine then_next ?_
    refine vc_decideU rfl (fun h29 => ?_) (fun h29 => ?_)
    · skip
      exfalso; omega
    · skip
      refine vc_skip ?_
      refine then_next ?_
      refine vc_seq ?_
      refine vc_region ?_
      refine vl_det (det_move rfl) rfl ?_
      refine vl_det (det_fieldAddr_ Try.underlying29 rfl (by kernel_rfl) rfl rfl) rfl ?_
      refine vl_det (det_load_blk (by kernel_rfl) rfl (by repeat (first | exact .hd | apply Sel.tl)) rfl) rfl ?_
      refine vl_call co38 rfl (dwrite_bad (by first | (exact Bor.own (by repeat (first | exact List.Mem.head _ | apply List.Mem.tail))) | (repeat (first | assumption | apply Bor.cons))) (by omega) hE) rfl ?_
      rintro _ _ ⟨A34, c34, rfl, hLL⟩
      obtain rfl := hLL.symm
      refine vl_det (det_move rfl) rfl ?_
      refine vl_det (det_extract rfl rfl) rfl ?_
      refine vl_det (det_extract rfl rfl) rfl ?_
      refine vl_det (det_assign rfl) rfl ?_
      refine vl_det (det_assign rfl) rfl ?_
      refine vl_end [(1, _), (5, _), (8, _), (9, _)] ⟨rfl, rfl, rfl, rfl, trivial⟩ ?_
      refine then_next ?_
      refine vc_seq ?_
      refine vc_seq ?_
      refine vc_region ?_
      refine vl_det (det_move rfl) rfl ?_
      refine vl_det (det_neq rfl rfl) rfl ?_
      refine vl_end [(1, _), (5, _), (8, _), (9, _), (38, _)] ⟨rfl, rfl, rfl, rfl, rfl, trivial⟩ ?_
      refine then_next ?_
      refine vc_decideU rfl (fun h38 => ?_) (fun h38 => ?_)
      · skip
        refine vc_seq ?_
        refine vc_region ?_
        refine vl_det (det_move rfl) rfl ?_
        refine vl_det (det_assign rfl) rfl ?_
        refine vl_det (det_assign rfl) rfl ?_
        refine vl_end [(6, _), (7, _)] ⟨rfl, rfl, trivial⟩ ?_
        refine then_next ?_
        refine vc_ret ?_
        refine then_ret ?_
        refine ret_wk (L' := F) (.skip (.skip (.refl _))) ?_
        refine ret2 rfl rfl rfl ?_
        exact ⟨rfl, rfl⟩
      · skip
        exfalso; exact h38 (by decide)
theorem idsI_get {k : Nat} (hk : k < LL.length) : (idsI LL).take (k + 1) = (idsI LL).take k ++ [(LL.getD k iNil).2.2] := by
  rw [List.take_add_one, idsI, List.getElem?_map, List.getElem?_eq_getElem hk]
  simp [List.getD, List.getElem?_eq_getElem hk]
theorem idsI_mem {x : List Int} (h : x ∈ idsI LL) : ∃ i, i < LL.length ∧ (LL.getD i iNil).2.2 = x := by
  obtain ⟨e, he, rfl⟩ := List.mem_map.1 h
  obtain ⟨i, hi, rfl⟩ := List.getElem_of_mem he
  exact ⟨i, hi, by simp [List.getD, List.getElem?_eq_getElem hi]⟩
theorem pbytes_3 {sz : Nat} (h1 : Bor B w0 F 1 (.slice A1 T.length c1) T.length (strs T)) (hL : Bor B w0 F 1 (.slice B1 LL.length b1) LL.length (LL.map iVal)) (hI : LsBor B w0 F LL) (hs3 : ∀ e ∈ LL, e.2.2.length ≤ 9000000000000000000)
    (hb0 : 0 ≤ bound) (hb1 : bound ≤ 20000) (hl : T.length = LL.length) (hR : RisT T) (hz1 : 1 ≤ sz) (hz2 : sz ≤ 64) :
    Does Try.prog B w0 17 [.int .i64 sz, .int .i64 bound, IdxA A1 T.length c1 B1 LL.length b1] F (fun r L => ∃ A' c', r = .tuple #[.slice A' (idxW sz bound T (idsI LL)).1.length c', .int .i64 (idxW sz bound T (idsI LL)).2] ∧ L = .own 5 1 A' (idxW sz bound T (idsI LL)).1.length c' (bv (idxW sz bound T (idsI LL)).1) :: F) := by
  have hTl := hR.2
  have hdl := dictB_len hR hz1 hz2
  have hll := lsB_len hb0 hb1 (idsI LL)
  have hil : (idsI LL).length = LL.length := by simp [idsI]
  refine Does.bor h1 fun hcap _ => ?_
  refine fn_walk Try.func17 69 rfl rfl rfl [(0, .int .i64 sz), (1, .int .i64 bound), (2, IdxA A1 T.length c1 B1 LL.length b1)] ⟨⟨rfl, rfl⟩, ⟨rfl, rfl⟩, ⟨rfl, rfl⟩, trivial⟩ ?_
  refine vc_seq ?_
  refine vc_region ?_
  refine vl_eff (eff_box rfl rfl) rfl ?_
  rintro _ _ ⟨g5, rfl, rfl⟩
  refine vl_det (det_assign rfl) rfl ?_
  refine vl_det (det_assign rfl) rfl ?_
  refine vl_end [(0, _), (1, _), (5, _)] ⟨rfl, rfl, rfl, trivial⟩ ?_
  refine then_next ?_
  refine vc_seq ?_
  refine vc_seq ?_
  refine vc_region ?_
  refine vl_cut 15 29 [(0, _), (1, _), (5, _)] ((bound < 0 ∨ 20000 < bound) ∨ ¬ (T.length : Int) = LL.length) ⟨rfl, rfl, rfl, trivial⟩ ?_ ?_
  · skip
    refine vl_det (det_move rfl) rfl ?_
    refine vl_det (det_lss rfl rfl) rfl ?_
    refine vl_det (det_move rfl) rfl ?_
    refine vl_guardn rfl rfl rfl (fun h17 => ?_) (fun h17 => ?_)
    · skip
      refine vl_det (det_move rfl) rfl ?_
      refine vl_guard_t rfl rfl ?_
      refine vl_det (det_gtr rfl rfl) rfl ?_
      refine vl_det (det_pick_f rfl rfl) rfl ?_
      refine vl_det (det_move rfl) rfl ?_
      refine vl_guardn rfl rfl rfl (fun h21 => ?_) (fun h21 => ?_)
      · skip
        refine vl_det (det_fieldAddr_ Try.underlying29 rfl (by kernel_rfl) rfl rfl) rfl ?_
        refine vl_guard_t rfl rfl ?_
        refine vl_det (det_load_blk (by kernel_rfl) rfl (by repeat (first | exact .hd | apply Sel.tl)) rfl) rfl ?_
        refine vl_guard_t rfl rfl ?_
        refine vl_det (det_len_sl Try.underlying26 rfl) rfl ?_
        refine vl_guard_t rfl rfl ?_
        refine vl_det (det_fieldAddr_ Try.underlying29 rfl (by kernel_rfl) rfl rfl) rfl ?_
        refine vl_guard_t rfl rfl ?_
        refine vl_det (det_load_blk (by kernel_rfl) rfl (by repeat (first | exact .hd | apply Sel.tl)) rfl) rfl ?_
        refine vl_guard_t rfl rfl ?_
        refine vl_det (det_len_sl Try.underlying27 rfl) rfl ?_
        refine vl_guard_t rfl rfl ?_
        refine vl_det (det_neq rfl rfl) rfl ?_
        refine vl_det (det_pick_f rfl rfl) rfl ?_
        exact vl_cut_end ⟨rfl, rfl, rfl, trivial⟩ (by first | rfl | exact bool_to_t (by first | omega | simp_all) | exact bool_to_f (by first | omega | simp_all) | exact bool_to (by first | omega | simp_all) | exact bool_to_b (by first | omega | simp_all))
      · skip
        refine vl_guard_f rfl rfl rfl rfl ?_
        refine vl_guard_f rfl rfl rfl rfl ?_
        refine vl_guard_f rfl rfl rfl rfl ?_
        refine vl_guard_f rfl rfl rfl rfl ?_
        refine vl_guard_f rfl rfl rfl rfl ?_
        refine vl_guard_f rfl rfl rfl rfl ?_
        refine vl_det (det_pick_t rfl rfl) rfl ?_
        exact vl_cut_end ⟨rfl, rfl, rfl, trivial⟩ (by first | rfl | exact bool_to_t (by first | omega | simp_all) | exact bool_to_f (by first | omega | simp_all) | exact bool_to (by first | omega | simp_all) | exact bool_to_b (by first | omega | simp_all))
    · skip
      refine vl_guard_f rfl rfl rfl rfl ?_
      refine vl_det (det_pick_t rfl rfl) rfl ?_
      refine vl_det (det_move rfl) rfl ?_
      refine vl_guard_f rfl rfl rfl rfl ?_
      refine vl_guard_f rfl rfl rfl rfl ?_
      refine vl_guard_f rfl rfl rfl rfl ?_
      refine vl_guard_f rfl rfl rfl rfl ?_
      refine vl_guard_f rfl rfl rfl rfl ?_
      refine vl_guard_f rfl rfl rfl rfl ?_
      refine vl_guard_f rfl rfl rfl rfl ?_
      refine vl_det (det_pick_t rfl rfl) rfl ?_
      exact vl_cut_end ⟨rfl, rfl, rfl, trivial⟩ (by first | rfl | exact bool_to_t (by first | omega | simp_all) | exact bool_to_f (by first | omega | simp_all) | exact bool_to (by first | omega | simp_all) | exact bool_to_b (by first | omega | simp_all))
  · skip
    refine vl_end [(0, _), (1, _), (5, _), (29, _)] ⟨rfl, rfl, rfl, rfl, trivial⟩ ?_
    refine then_next ?_
    refine vc_decideU rfl (fun h29 => ?_) (fun h29 => ?_)
    · skip
      exfalso; omega
    · skip
      refine vc_skip ?_
      refine then_next ?_
      refine vc_seq ?_
      refine vc_region ?_
      refine vl_det (det_move rfl) rfl ?_
      refine vl_det (det_fieldAddr_ Try.underlying29 rfl (by kernel_rfl) rfl rfl) rfl ?_
      refine vl_det (det_load_blk (by kernel_rfl) rfl (by repeat (first | exact .hd | apply Sel.tl)) rfl) rfl ?_
      refine vl_call co38 rfl (dwrite_ok (by first | (exact Bor.own (by repeat (first | exact List.Mem.head _ | apply List.Mem.tail))) | (repeat (first | assumption | apply Bor.cons))) hcap hz1 hz2 hR) rfl ?_
      rintro _ _ ⟨A34, c34, rfl, hLL⟩
      obtain rfl := hLL.symm
      refine vl_det (det_move rfl) rfl ?_
      refine vl_det (det_extract rfl rfl) rfl ?_
      refine vl_det (det_extract rfl rfl) rfl ?_
      refine vl_det (det_assign rfl) rfl ?_
      refine vl_det (det_assign rfl) rfl ?_
      refine vl_end [(1, _), (5, _), (8, _), (9, _)] ⟨rfl, rfl, rfl, rfl, trivial⟩ ?_
      refine then_next ?_
      refine vc_seq ?_
      refine vc_seq ?_
      refine vc_region ?_
      refine vl_det (det_move rfl) rfl ?_
      refine vl_det (det_neq rfl rfl) rfl ?_
      refine vl_end [(1, _), (5, _), (8, _), (9, _), (38, _)] ⟨rfl, rfl, rfl, rfl, rfl, trivial⟩ ?_
      refine then_next ?_
      refine vc_decideU rfl (fun h38 => ?_) (fun h38 => ?_)
      · skip
        exfalso; exact h38 rfl
      · skip
        refine vc_skip ?_
        refine then_next ?_
        refine vc_seq ?_
        refine vc_region ?_
        refine vl_det (det_move rfl) rfl ?_
        refine vl_eff (eff_build_lit slT69 [_] rfl rfl (by first | exact bv_one _ | exact strs_one _ | exact ints_one _ _ | (simp; done) | (simp [Value.oneCell']; done) | assumption) (by omega) (by omega)) rfl ?_
        rintro _ _ ⟨A41, rfl, rfl⟩
        refine vl_det (det_assign rfl) rfl ?_
        refine vl_end [(1, _), (5, _), (10, _)] ⟨rfl, rfl, rfl, trivial⟩ ?_
        refine then_next ?_
        refine vc_seq ?_
        refine vc_seq ?_
        refine vc_region ?_
        refine vl_det (det_fieldAddr_ Try.underlying29 rfl (by kernel_rfl) rfl rfl) rfl ?_
        refine vl_det (det_load_blk (by kernel_rfl) rfl (by repeat (first | exact .hd | apply Sel.tl)) rfl) rfl ?_
        refine vl_det (det_len_sl Try.underlying27 rfl) rfl ?_
        refine vl_det (det_move rfl) rfl ?_
        refine vl_end [(1, _), (10, _), (43, _), (44, _), (45, _)] ⟨rfl, rfl, rfl, rfl, rfl, trivial⟩ ?_
        refine then_next ?_
        refine vc_block ?_
        refine vc_loopJ (fun zf zL zm => ∃ (k : Nat) (PB : List PtB) (A10 : Option Addr) (c10 : Nat), (k ≤ LL.length ∧ PB.map (·.2.2) = dictB sz T :: ((idsI LL).take k).map (fun x => (efW bound x).1) ∧ PB.length = k + 1 ∧ (∀ i, i < k → (LL.getD i iNil).2.2 ≠ [] ∧ Ris bound (LL.getD i iNil).2.2)) ∧ LL.length - k = zm ∧ Sub zf [(1, .int .i64 bound), (10, .slice A10 PB.length c10), (43, .slice B1 LL.length b1), (44, .int .i64 LL.length), (45, .int .i64 k)] ∧ Wk zL (.own 41 1 A10 PB.length c10 (PB.map pVal) :: .blk g5 29 [.slice A1 T.length c1, .slice B1 LL.length b1] :: (PB.map pRow ++ F))) _ ⟨0, [(A34, c34, dictB sz T)], A41, 1, ⟨Nat.zero_le _, rfl, rfl, fun i h => absurd h (by omega)⟩, rfl, ⟨(by first | rfl | exact int_to (by omega) | exact sl_to (by omega)), (by first | rfl | exact int_to (by omega) | exact sl_to (by omega)), (by first | rfl | exact int_to (by omega) | exact sl_to (by omega)), (by first | rfl | exact int_to (by omega) | exact sl_to (by omega)), (by first | rfl | exact int_to (by omega) | exact sl_to (by omega)), trivial⟩, .cons (.swap (.refl _))⟩ ?_
        rintro _ _ _ ⟨k, PB, A10, c10, ⟨hk, hPB, hPl, hall⟩, rfl, hs, hp⟩
        refine vc_weaken _ hs (vc_wk hp ?_)
        clear hs hp
        refine vc_seq ?_
        refine vc_region ?_
        refine vl_det (det_lss rfl rfl) rfl ?_
        refine vl_end [(1, _), (10, _), (43, _), (44, _), (45, _), (46, _)] ⟨rfl, rfl, rfl, rfl, rfl, rfl, trivial⟩ ?_
        refine then_next ?_
        refine vc_seq ?_
        refine vc_decideU rfl (fun h46 => ?_) (fun h46 => ?_)
        · skip
          have hkl : k < LL.length := by omega
          have hie := (hI.get hkl).mono (List.sublist_append_right (PB.map pRow) F)
          have hLe := hL.mono (List.sublist_append_right (PB.map pRow) F)
          have hxl := hs3 _ (getD_mem hkl iNil)
          have htk := idsI_get hkl
          have hmem : (LL.getD k iNil).2.2 ∈ idsI LL := List.mem_map_of_mem (getD_mem hkl iNil)
          obtain ⟨x, hx⟩ : ∃ x, x = (LL.getD k iNil).2.2 := ⟨_, rfl⟩
          have hig := iget hkl
          obtain ⟨eA, ec, he⟩ : ∃ eA ec, LL.getD k iNil = (eA, ec, x) := ⟨_, _, by rw [hx]⟩
          rw [he] at hie hxl htk hmem hig
          refine vc_skip ?_
          refine then_next ?_
          refine vc_seq ?_
          refine vc_block ?_
          refine vc_seq ?_
          refine vc_region ?_
          refine vl_det (det_indexAddr (size := 1) Try.underlying27 (by kernel_rfl) rfl rfl rfl (by omega) (by first | (exact Bor.own (by repeat (first | exact List.Mem.head _ | apply List.Mem.tail))) | (repeat (first | assumption | apply Bor.cons)))) rfl ?_
          refine vl_det (det_load_row (by kernel_rfl) rfl (by first | (exact Bor.own (by repeat (first | exact List.Mem.head _ | apply List.Mem.tail))) | (repeat (first | assumption | apply Bor.cons))) (by omega) hig) rfl ?_
          refine vl_det (det_assign rfl) rfl ?_
          refine vl_end [(1, _), (10, _), (12, _), (43, _), (44, _), (45, _)] ⟨rfl, rfl, rfl, rfl, rfl, rfl, trivial⟩ ?_
          refine then_next ?_
          refine vc_seq ?_
          refine vc_region ?_
          refine vl_det (det_move rfl) rfl ?_
          refine vl_det (det_move rfl) rfl ?_
          refine vl_call co39 rfl (efwrite_d (ids := x) (by first | (exact Bor.own (by repeat (first | exact List.Mem.head _ | apply List.Mem.tail))) | (repeat (first | assumption | apply Bor.cons))) hxl) rfl ?_
          rintro _ _ ⟨A52, c52, rfl, hLL⟩
          obtain rfl := hLL.symm
          refine vl_det (det_move rfl) rfl ?_
          refine vl_det (det_extract rfl rfl) rfl ?_
          refine vl_det (det_extract rfl rfl) rfl ?_
          refine vl_det (det_assign rfl) rfl ?_
          refine vl_det (det_assign rfl) rfl ?_
          refine vl_end [(1, _), (10, _), (12, _), (13, _), (14, _), (43, _), (44, _), (45, _)] ⟨rfl, rfl, rfl, rfl, rfl, rfl, rfl, rfl, trivial⟩ ?_
          refine then_next ?_
          refine vc_seq ?_
          refine vc_seq ?_
          refine vc_region ?_
          refine vl_cut 7 61 [(1, _), (10, _), (13, _), (43, _), (44, _), (45, _)] (¬ (efW bound x).2 = 0 ∨ (x.length : Int) = 0) ⟨rfl, rfl, rfl, rfl, rfl, rfl, trivial⟩ ?_ ?_
          · skip
            refine vl_det (det_move rfl) rfl ?_
            refine vl_det (det_neq rfl rfl) rfl ?_
            refine vl_det (det_move rfl) rfl ?_
            refine vl_guardn rfl rfl rfl (fun h57 => ?_) (fun h57 => ?_)
            · skip
              refine vl_det (det_move rfl) rfl ?_
              refine vl_guard_t rfl rfl ?_
              refine vl_det (det_len_sl Try.underlying37 rfl) rfl ?_
              refine vl_guard_t rfl rfl ?_
              refine vl_det (det_eql rfl rfl) rfl ?_
              refine vl_det (det_pick_f rfl rfl) rfl ?_
              exact vl_cut_end ⟨rfl, rfl, rfl, rfl, rfl, rfl, trivial⟩ (by first | rfl | exact bool_to_t (by first | exact .inl (by assumption) | exact ⟨fun z => .inr z, fun q => q.elim (fun z => absurd z (by assumption)) (fun z => z)⟩ | omega) | exact bool_to_f (by first | exact .inl (by assumption) | exact ⟨fun z => .inr z, fun q => q.elim (fun z => absurd z (by assumption)) (fun z => z)⟩ | omega) | exact bool_to (by first | exact .inl (by assumption) | exact ⟨fun z => .inr z, fun q => q.elim (fun z => absurd z (by assumption)) (fun z => z)⟩ | omega) | exact bool_to_b (by first | exact .inl (by assumption) | exact ⟨fun z => .inr z, fun q => q.elim (fun z => absurd z (by assumption)) (fun z => z)⟩ | omega))
            · skip
              refine vl_guard_f rfl rfl rfl rfl ?_
              refine vl_guard_f rfl rfl rfl rfl ?_
              refine vl_det (det_pick_t rfl rfl) rfl ?_
              exact vl_cut_end ⟨rfl, rfl, rfl, rfl, rfl, rfl, trivial⟩ (by first | rfl | exact bool_to_t (by first | exact .inl (by assumption) | exact ⟨fun z => .inr z, fun q => q.elim (fun z => absurd z (by assumption)) (fun z => z)⟩ | omega) | exact bool_to_f (by first | exact .inl (by assumption) | exact ⟨fun z => .inr z, fun q => q.elim (fun z => absurd z (by assumption)) (fun z => z)⟩ | omega) | exact bool_to (by first | exact .inl (by assumption) | exact ⟨fun z => .inr z, fun q => q.elim (fun z => absurd z (by assumption)) (fun z => z)⟩ | omega) | exact bool_to_b (by first | exact .inl (by assumption) | exact ⟨fun z => .inr z, fun q => q.elim (fun z => absurd z (by assumption)) (fun z => z)⟩ | omega))
          · skip
            refine vl_end [(1, _), (10, _), (13, _), (43, _), (44, _), (45, _), (61, _)] ⟨rfl, rfl, rfl, rfl, rfl, rfl, rfl, trivial⟩ ?_
            refine then_next ?_
            refine vc_decideU rfl (fun h61 => ?_) (fun h61 => ?_)
            · skip
              have hno : ¬ idxOk bound T (idsI LL) := fun q => by
                obtain ⟨h2, h3⟩ := q.2.2.2 x hmem
                rcases h61 with h | h
                · exact h ((efW_iff hb0 hb1).2 h3)
                · exact h2 (List.eq_nil_of_length_eq_zero (by omega))
              refine vc_seq ?_
              refine vc_region ?_
              refine vl_det (det_assign rfl) rfl ?_
              refine vl_det (det_assign rfl) rfl ?_
              refine vl_end [(6, _), (7, _)] ⟨rfl, rfl, trivial⟩ ?_
              refine then_next ?_
              refine vc_ret ?_
              refine then_ret ?_
              refine in_ret ?_
              refine then_ret ?_
              refine loop_ret ?_
              refine in_ret ?_
              refine then_ret ?_
              rw [idxW_bad (.inr (.inr hno))]
              refine ret_nil_row 5 1 none ?_
              refine ret_wk (L' := .own 5 1 none 0 0 [] :: F) (.cons (.skip (.skip (.skip (wk_rows (.refl _) _))))) ?_
              refine ret2 rfl rfl rfl ?_
              exact ⟨none, 0, rfl, rfl⟩
            · skip
              have hxr : Ris bound x := (efW_iff hb0 hb1).1 (Classical.not_not.1 fun q => h61 (.inl q))
              have hxn : x ≠ [] := fun q => h61 (.inr (by rw [q]; rfl))
              refine vc_skip ?_
              refine then_next ?_
              refine vc_region ?_
              refine vl_det (det_move rfl) rfl ?_
              refine vl_det (det_move rfl) rfl ?_
              refine vl_push slT69 rfl rfl rfl rfl rfl (fun _ => rfl) (by repeat (first | exact .hd | apply Sel.tl)) (by omega) (by omega) ?_
              intro _ A65 c65
              refine vl_det (det_assign rfl) rfl ?_
              refine vl_end [(1, _), (10, _), (43, _), (44, _), (45, _)] ⟨rfl, rfl, rfl, rfl, rfl, trivial⟩ ?_
              refine in_normal ?_
              refine then_next ?_
              refine vc_region ?_
              refine vl_det (det_add rfl rfl (w_i64 (by omega) (by omega))) rfl ?_
              refine vl_det (det_move rfl) rfl ?_
              refine vl_end [(1, _), (10, _), (43, _), (44, _), (45, _)] ⟨rfl, rfl, rfl, rfl, rfl, trivial⟩ ?_
              have hel : (PB ++ [(A52, c52, (efW bound x).1)]).length = PB.length + 1 := by simp
              refine in_loop_ ⟨_, by omega, k + 1, PB ++ [(A52, c52, (efW bound x).1)], A65, c65, ⟨by omega, by rw [List.map_append, hPB, htk, List.map_append]; rfl, by omega, fun i hi => by
  rcases Nat.lt_or_ge i k with h | h
  · exact hall i h
  · rw [show i = k by omega, he]; exact ⟨hxn, hxr⟩⟩, rfl, ⟨(by first | rfl | exact int_to (by omega) | exact sl_to (by omega)), (by first | rfl | exact int_to (by omega) | exact sl_to (by omega)), (by first | rfl | exact int_to (by omega) | exact sl_to (by omega)), (by first | rfl | exact int_to (by omega) | exact sl_to (by omega)), (by first | rfl | exact int_to (by omega) | exact sl_to (by omega)), trivial⟩, .swap (wk_own hel.symm (by simp) (wk_rowb (PB := PB) (e := (A52, c52, (efW bound x).1)) [_]))⟩
        · skip
          obtain rfl : k = LL.length := by omega
          have hok : idxOk bound T (idsI LL) := ⟨⟨hb0, hb1⟩, by omega, hR, fun x hx => by
            obtain ⟨i, hi, rfl⟩ := idsI_mem hx
            exact hall i hi⟩
          have hall2 : (ptP PB).all = idxB sz bound T (idsI LL) := by
            rw [ptP_all, hPB, List.take_of_length_le (by omega)]
            simp [idxB, lsB, List.flatMap_def]
          have hbl : (idxB sz bound T (idsI LL)).length ≤ 1000000000000 := by
            have : LL.length * 50011 ≤ 1048576 * 50011 := Nat.mul_le_mul_right _ (by omega)
            unfold idxB
            rw [List.length_append]
            rw [hil] at hll
            omega
          rw [idxW_ok hz1 hz2 hok]
          refine vc_exit ?_
          refine then_exit ?_
          refine loop_exit ?_
          refine in_eq ?_
          refine then_next ?_
          refine vc_seq ?_
          refine vc_region ?_
          refine vl_det (det_move rfl) rfl ?_
          refine vl_call co40 rfl (all_d (P := ptP PB) (by rw [ptP_vals]; exact (by first | (exact Bor.own (by repeat (first | exact List.Mem.head _ | apply List.Mem.tail))) | (repeat (first | assumption | apply Bor.cons)))) (fun y hy => by obtain ⟨e, he, rfl⟩ := List.mem_map.1 hy; exact Bor.own (List.mem_cons_of_mem _ (List.mem_cons_of_mem _ (List.mem_append_left _ (List.mem_map_of_mem he))))) (by simp [ptP]) hall2 (by omega) (by simp [ptP]; omega)) rfl ?_
          rintro _ _ ⟨A68, c68, rfl, hLL⟩
          obtain rfl := hLL.symm
          refine vl_det (det_assign rfl) rfl ?_
          refine vl_det (det_assign rfl) rfl ?_
          refine vl_end [(6, _), (7, _)] ⟨rfl, rfl, trivial⟩ ?_
          refine then_next ?_
          refine vc_ret ?_
          refine ret_wk (L' := .own 5 1 A68 (idxB sz bound T (idsI LL)).length c68 (bv (idxB sz bound T (idsI LL))) :: F) (.cons (.skip (.skip (wk_rows (.refl _) _)))) ?_
          refine ret2 rfl rfl rfl ?_
          exact ⟨A68, c68, rfl, rfl⟩
theorem pbytes_d (h1 : Bor B w0 F 1 (.slice A1 T.length c1) T.length (strs T)) (hL : Bor B w0 F 1 (.slice B1 LL.length b1) LL.length (LL.map iVal)) (hI : LsBor B w0 F LL) (hs3 : ∀ e ∈ LL, e.2.2.length ≤ 9000000000000000000) (hs : T.length ≤ 1000000000) :
    Does Try.prog B w0 17 [.int .i64 size, .int .i64 bound, IdxA A1 T.length c1 B1 LL.length b1] F (fun r L => ∃ A' c', r = .tuple #[.slice A' (idxW size bound T (idsI LL)).1.length c', .int .i64 (idxW size bound T (idsI LL)).2] ∧ L = .own 5 1 A' (idxW size bound T (idsI LL)).1.length c' (bv (idxW size bound T (idsI LL)).1) :: F) := by
  have hil : (idsI LL).length = LL.length := by simp [idsI]
  have hnil : ∀ {L : List Ch}, Does Try.prog B w0 17 [.int .i64 size, .int .i64 bound, IdxA A1 T.length c1 B1 LL.length b1] L (fun r K => r = .tuple #[.slice none 0 0, .int .i64 13] ∧ K = L) → idxW size bound T (idsI LL) = ([], 13) → Does Try.prog B w0 17 [.int .i64 size, .int .i64 bound, IdxA A1 T.length c1 B1 LL.length b1] L (fun r K => ∃ A' c', r = .tuple #[.slice A' (idxW size bound T (idsI LL)).1.length c', .int .i64 (idxW size bound T (idsI LL)).2] ∧ K = .own 5 1 A' (idxW size bound T (idsI LL)).1.length c' (bv (idxW size bound T (idsI LL)).1) :: L) := fun {L} h e => by
    rw [e]
    intro w hw
    refine (h w hw).mono fun ee w' ⟨r, K, he, ⟨hr, hK⟩, hs⟩ => ?_
    subst hK
    exact ⟨r, _, he, ⟨none, 0, hr, rfl⟩, hs.nil_row 5 1 none⟩
  by_cases hE : (bound < 0 ∨ 20000 < bound) ∨ ¬ (T.length : Int) = LL.length
  · exact hnil (pbytes_1 hE) (idxW_bad (.inr (.inr fun q => by
      have h2 := q.1; have h3 := q.2.1
      omega)))
  · by_cases hE2 : size < 1 ∨ 64 < size ∨ ¬ RisT T
    · refine hnil (pbytes_2 h1 (by omega) (by omega) (by omega) hs hE2) (idxW_bad ?_)
      rcases hE2 with h | h | h
      · exact .inl h
      · exact .inr (.inl h)
      · exact .inr (.inr fun q => h q.2.2.1)
    · have hR : RisT T := Classical.byContradiction fun h => hE2 (.inr (.inr h))
      obtain ⟨sz, rfl⟩ := Int.eq_ofNat_of_zero_le (show 0 ≤ size by omega)
      exact pbytes_3 h1 hL hI hs3 (by omega) (by omega) (by omega) hR (by omega) (by omega)
end Go.Proofs.Ytpamjobiohbibaa

/-
  Texts of one proof, joined: part 8. No condition.
-/
import Derived.Test.YtpamjobiohbibaaRd7
namespace Go.Proofs.Ytpamjobiohbibaa
open Go.RowKit
set_option linter.unusedVariables false
set_option maxRecDepth 20000
theorem nx_rds {s : Cs} {was : Txt} (hw : was.length ≤ 1000) (h : (nxC s was false).e = 0) : mayT was (nxT s was false) ∧ Rds s (nxC s was false) (encN (lcp was (nxT s was false)) ++ encT ((nxT s was false).drop (lcp was (nxT s was false)))) := by
  have hm := nx_may h
  obtain ⟨h1, h2, h3, h4⟩ := nx_ok h
  have h1' : ((s.int' was.length).text' 25).e = 0 := h1
  have hS : nxC s was false = (s.int' was.length).text' 25 := h3
  obtain ⟨h5, h6⟩ := Cs.text_rds h1'
  obtain ⟨h7, h8, h9⟩ := Cs.int_rds h5.e0
  have hX : nxT s was false = was.take (s.int was.length) ++ (s.int' was.length).text 25 := h4
  have hl : lcp was (nxT s was false) = s.int was.length := by
    refine Classical.not_not.1 fun q => h2 (.inr (.inr ⟨rfl, fun e => q ?_⟩))
    rw [h4]; exact e
  refine ⟨hm, ?_⟩
  rw [hl, hS]
  have hd : (nxT s was false).drop (s.int was.length) = (s.int' was.length).text 25 := by
    rw [hX, List.drop_left' (by rw [List.length_take]; omega)]
  rw [hd]
  exact h7.trans h5
theorem nx_rds1 {s : Cs} {was : Txt} (h : (nxC s was true).e = 0) : mayT was (nxT s was true) ∧ Rds s (nxC s was true) (encT (nxT s was true)) := by
  have hm := nx_may h
  obtain ⟨h1, h2, h3, h4⟩ := nx_ok h
  have h1' : (s.text' 25).e = 0 := h1
  have hS : nxC s was true = s.text' 25 := h3
  obtain ⟨h5, h6⟩ := Cs.text_rds h1'
  have hX : nxT s was true = s.text 25 := h4
  refine ⟨hm, ?_⟩
  rw [hX, hS]
  exact h5
theorem end_rest {s : Cs} (h : s.end'.e = 0) : s.e = 0 ∧ s.rest = [] := by
  obtain ⟨h1, h2⟩ := Cs.end_err h
  refine ⟨h1, ?_⟩
  unfold Cs.left at h2
  unfold Cs.rest
  exact List.drop_of_length_le (by omega)
theorem fillF_one : ∀ (m : Nat) (s : Cs) (out : List Txt), (prvT out out.length).length ≤ 1000 → (fillF m false s out).2 = 0 → ∃ r, (fillF m false s out).1 = out ++ r ∧ r.length = m ∧ s.rest = tailT (prvT out out.length) r ∧ ChT (prvT out out.length) r ∧ s.e = 0
  | 0, s, out, hw, h => by
    unfold fillF at h ⊢
    split at h
    · rename_i q; exact absurd h q
    · rename_i q
      rw [if_neg q]
      obtain ⟨h1, h2⟩ := end_rest (by simpa using q)
      exact ⟨[], by simp, rfl, h2, trivial, h1⟩
  | m + 1, s, out, hw, h => by
    unfold fillF at h ⊢
    split at h
    · rename_i q; exact absurd h q
    · rename_i q
      rw [if_neg q]
      have q' : (nxC s (prvT out out.length) false).e = 0 := by simpa using q
      obtain ⟨h1, h2⟩ := nx_rds hw q'
      have hp : prvT (out ++ [nxT s (prvT out out.length) false]) (out ++ [nxT s (prvT out out.length) false]).length = nxT s (prvT out out.length) false := by rw [prvT_end, endT_snoc]
      obtain ⟨r, h3, h4, h5, h6, h7⟩ := fillF_one m _ (out ++ [nxT s (prvT out out.length) false]) (by rw [hp]; have := h1.2.1; omega) h
      rw [hp] at h5 h6
      refine ⟨nxT s (prvT out out.length) false :: r, by rw [h3]; simp, by simp [h4], ?_, ⟨h1, h6⟩, h2.e0⟩
      rw [h2.rest, h5]
      simp only [tailT]
theorem fill_one1 {m : Nat} {b : List UInt8} {out : List Txt} (hm : 1 ≤ m) (h : (fillF m true ⟨b, 0, 0⟩ out).2 = 0) : ∃ r, (fillF m true ⟨b, 0, 0⟩ out).1 = out ++ r ∧ r.length = m ∧ b = bucketT r ∧ ChT (prvT out out.length) r := by
  obtain ⟨k, rfl⟩ : ∃ k, m = k + 1 := ⟨m - 1, by omega⟩
  unfold fillF at h ⊢
  split at h
  · rename_i q; exact absurd h q
  · rename_i q
    rw [if_neg q]
    have q' : (nxC ⟨b, 0, 0⟩ (prvT out out.length) true).e = 0 := by simpa using q
    obtain ⟨h1, h2⟩ := nx_rds1 q'
    have hp : prvT (out ++ [nxT ⟨b, 0, 0⟩ (prvT out out.length) true]) (out ++ [nxT ⟨b, 0, 0⟩ (prvT out out.length) true]).length = nxT ⟨b, 0, 0⟩ (prvT out out.length) true := by rw [prvT_end, endT_snoc]
    obtain ⟨r, h3, h4, h5, h6, h7⟩ := fillF_one k _ (out ++ [nxT ⟨b, 0, 0⟩ (prvT out out.length) true]) (by rw [hp]; have := h1.2.1; omega) h
    rw [hp] at h5 h6
    refine ⟨nxT ⟨b, 0, 0⟩ (prvT out out.length) true :: r, by rw [h3]; simp, by simp [h4], ?_, ⟨h1, h6⟩⟩
    have := h2.rest
    rw [h5] at this
    simpa [Cs.rest, bucketT] using this
theorem sizF_one : ∀ (k : Nat) (s s' : Cs) (out S : List Nat), sizF k s out = (s', S) → s'.e = 0 → ∃ S', S = out ++ S' ∧ S'.length = k ∧ Rds s s' (S'.flatMap encN)
  | 0, s, s', out, S, h, he => by
    simp only [sizF, Prod.mk.injEq] at h
    obtain ⟨rfl, rfl⟩ := h
    exact ⟨[], by simp, rfl, Rds.nil he⟩
  | k + 1, s, s', out, S, h, he => by
    unfold sizF at h
    split at h
    · rename_i q
      simp only [Prod.mk.injEq] at h
      obtain ⟨rfl, rfl⟩ := h
      exact absurd he q
    · obtain ⟨S', h1, h2, h3⟩ := sizF_one k _ _ _ _ h he
      obtain ⟨h4, h5, h6⟩ := Cs.int_rds h3.e0
      refine ⟨s.int 2000 :: S', by rw [h1]; simp, by simp [h2], ?_⟩
      rw [List.flatMap_cons]
      exact h4.trans h3
theorem bodyF_one {sz n : Nat} (hs1 : 1 ≤ sz) : ∀ (S : List Nat) (i : Nat) (s s' : Cs) (out l : List Txt), out.length = min (i * sz) n → S.length + i = chN sz n → bodyF sz n S s out = (l, s', 0) →
    l.length = n ∧ (∃ t, l = out ++ t ∧ ChT (prvT out out.length) t) ∧ Rds s s' (bodyT l sz (List.range' i S.length)) ∧ S = (List.range' i S.length).map (fun j => (bucketT (ck l sz j)).length)
  | [], i, s, s', out, l, ho, hS, h => by
    unfold bodyF at h
    split at h
    · rename_i q
      simp only [Prod.mk.injEq] at h
      exact absurd h.2.2 q
    · rename_i q
      simp only [Prod.mk.injEq] at h
      obtain ⟨rfl, rfl, _⟩ := h
      have hge := chN_ge (sz := sz) (n := n) hs1
      have hi : i = chN sz n := by simpa using hS
      rw [← hi] at hge
      exact ⟨by omega, ⟨[], by simp, trivial⟩, Rds.nil (by simpa using q), by simp⟩
  | k :: S, i, s, s', out, l, ho, hS, h => by
    simp only [List.length_cons] at hS
    have hlt := (chN_lt hs1).1 (show i < chN sz n by omega)
    have hoi : out.length = i * sz := by omega
    have hsz : (i + 1) * sz = i * sz + sz := Nat.succ_mul i sz
    unfold bodyF at h
    split at h
    · rename_i q
      simp only [Prod.mk.injEq] at h
      exact absurd h.2.2 q
    · rename_i q
      split at h
      · rename_i q2
        simp only [Prod.mk.injEq] at h
        exact absurd h.2.2 q2
      · rename_i q2
        obtain ⟨h1, h2, _⟩ := Cs.take_rds (show (s.take' k).e = 0 by simpa using q)
        obtain ⟨r, h3, h4, h5, h6⟩ := fill_one1 (by omega) (show (fillF (min sz (n - out.length)) true ⟨s.take k, 0, 0⟩ out).2 = 0 by simpa using q2)
        rw [h3] at h
        obtain ⟨h7, ⟨t, h8, h9⟩, h10, h11⟩ := bodyF_one hs1 S (i + 1) _ s' (out ++ r) l (by rw [List.length_append, h4, hsz]; omega) (by omega) h
        have hck : ck l sz i = r := by
          unfold ck
          rw [h8, List.append_assoc, ← hoi, List.drop_left]
          rcases Nat.lt_or_ge (n - out.length) sz with hc | hc
          · have ht : t = [] := by
              apply List.eq_nil_of_length_eq_zero
              have := congrArg List.length h8
              rw [h7, List.length_append, List.length_append, h4] at this
              omega
            rw [ht, List.append_nil, List.take_of_length_le (by omega)]
          · rw [List.take_left' (by rw [h4]; omega)]
        have hpr : prvT (out ++ r) (out ++ r).length = endT (prvT out out.length) r := by rw [prvT_end, prvT_end, endT_app]
        rw [hpr] at h9
        refine ⟨h7, ⟨r ++ t, by rw [h8, List.append_assoc], h6.app h9⟩, ?_, ?_⟩
        · simp only [List.length_cons, List.range'_succ, bodyT, List.flatMap_cons]
          rw [hck, ← h5]
          exact h1.trans h10
        · simp only [List.length_cons, List.range'_succ, List.map_cons]
          rw [hck, ← h5, h2, ← h11]
          simp
theorem dict_one {sz : Nat} {b : List UInt8} (hs1 : 1 ≤ sz) (hs2 : sz ≤ 64) (he : (dictR sz b).2.2 = 0) : RisT (dictR sz b).1 ∧ (dictR sz b).2.1 ≤ b.length ∧ dictB sz (dictR sz b).1 = b.take (dictR sz b).2.1 := by
  have hE : ¬ ((sz : Int) < 1 ∨ 64 < (sz : Int)) := by omega
  have hF : (dictF sz b).2.2 = 0 := Classical.not_not.1 fun h => by
    rw [dictR_err hE h] at he; exact h he
  rw [dictR_ok hE hF]
  obtain ⟨l, s', e⟩ : ∃ l s', dictF sz b = (l, s', 0) := ⟨_, _, Prod.ext rfl (Prod.ext rfl hF)⟩
  have e' := e
  unfold dictF at e'
  have hSl : (dictS sz b).1.e = 0 → (dictS sz b).2.length = chN sz (dictN b) ∧ Rds (Cs.int' ⟨b, 0, 0⟩ 1048576) (dictS sz b).1 ((dictS sz b).2.flatMap encN) := by
    intro h0
    obtain ⟨S', h1, h2, h3⟩ := sizF_one (chN sz (dictN b)) (Cs.int' ⟨b, 0, 0⟩ 1048576) (dictS sz b).1 [] (dictS sz b).2 rfl h0
    rw [List.nil_append] at h1
    rw [h1]
    exact ⟨h2, h3⟩
  have h0 : (dictS sz b).1.e = 0 := by
    generalize (dictS sz b).2 = S at e'
    generalize (dictS sz b).1 = u at e' ⊢
    cases S with
    | nil =>
      unfold bodyF at e'
      split at e'
      · rename_i q
        simp only [Prod.mk.injEq] at e'
        exact absurd e'.2.2 q
      · rename_i q; simpa using q
    | cons k S =>
      unfold bodyF at e'
      split at e'
      · rename_i q
        simp only [Prod.mk.injEq] at e'
        exact absurd e'.2.2 q
      · rename_i q
        exact Cs.moved_e0' (s := u) (k := (k : Int).toNat) (er := takeErr u.rest k) (show (u.take' k).e = 0 by simpa using q)
  obtain ⟨h1, h2⟩ := hSl h0
  obtain ⟨h3, ⟨t, h4, h5⟩, h6, h7⟩ := bodyF_one hs1 _ 0 _ s' [] l (by simp) (by omega) e'
  rw [List.nil_append] at h4
  subst h4
  obtain ⟨h8, h9, _⟩ := Cs.int_rds h2.e0
  have h10 := h8.trans (h2.trans h6)
  rw [h1] at h6 h7 h10
  have hH : headT l sz (List.range (chN sz l.length)) = (dictS sz b).2.flatMap encN := by
    rw [h7, List.range_eq_range', h3]
    simp [headT, List.flatMap_map]
  have hD : dictB sz l = encN (Cs.int ⟨b, 0, 0⟩ 1048576) ++ ((dictS sz b).2.flatMap encN ++ bodyT l sz (List.range' 0 (chN sz (dictN b)))) := by
    unfold dictB
    rw [hH, h3, List.range_eq_range', List.append_assoc]
    rfl
  rw [← hD] at h10
  have hat : s'.at_ = (dictB sz l).length := by rw [h10.eq]; simp
  have hbe : b = dictB sz l ++ s'.rest := by simpa [Cs.rest] using h10.rest
  rw [e]
  simp only
  rw [hat]
  have hN : (dictN b : Int) ≤ 1048576 := h9
  refine ⟨ChT.ris (by simpa [prvT] using h5) (by rw [h3]; omega), ?_, ?_⟩
  · conv => rhs; rw [hbe]
    simp
  · conv => rhs; rw [hbe]
    rw [List.take_left]
end Go.Proofs.Ytpamjobiohbibaa
namespace Go.Proofs.Ytpamjobiohbibaa
open Go.RowKit
set_option linter.unusedVariables false
set_option maxRecDepth 20000
/-- k lists, with none behind them -/
def lsR (bound : Int) : Nat → List UInt8 → List (List Nat) → List (List Nat) × Int
  | 0, b, out => if b.length ≠ 0 then ([], 2) else (out, 0)
  | k + 1, b, out =>
    if (efRd bound b).2.2 ≠ 0 then ([], (efRd bound b).2.2)
    else if (efRd bound b).1.length = 0 then ([], 2)
    else lsR bound k (b.drop (efRd bound b).2.1) (out ++ [(efRd bound b).1])
def idxL (size bound : Int) (b : List UInt8) : List (List Nat) × Int := lsR bound (dictR size b).1.length (b.drop (dictR size b).2.1) []
/-- the index that bytes are: texts, lists, error -/
def idxRd (size bound : Int) (b : List UInt8) : List Txt × List (List Nat) × Int :=
  if bound < 0 ∨ 20000 < bound then ([], [], 13)
  else if (dictR size b).2.2 ≠ 0 then ([], [], (dictR size b).2.2)
  else if (idxL size bound b).2 ≠ 0 then ([], [], (idxL size bound b).2)
  else ((dictR size b).1, (idxL size bound b).1, 0)
theorem idxRd_a {size bound : Int} {b : List UInt8} (h : bound < 0 ∨ 20000 < bound) : idxRd size bound b = ([], [], 13) := if_pos h
theorem idxRd_b {size bound : Int} {b : List UInt8} (h : ¬ (bound < 0 ∨ 20000 < bound)) (h1 : (dictR size b).2.2 ≠ 0) : idxRd size bound b = ([], [], (dictR size b).2.2) := by unfold idxRd; rw [if_neg h, if_pos h1]
theorem idxRd_c {size bound : Int} {b : List UInt8} (h : ¬ (bound < 0 ∨ 20000 < bound)) (h1 : (dictR size b).2.2 = 0) (h2 : (idxL size bound b).2 ≠ 0) : idxRd size bound b = ([], [], (idxL size bound b).2) := by unfold idxRd; rw [if_neg h, if_neg (by simpa using h1), if_pos h2]
theorem idxRd_d {size bound : Int} {b : List UInt8} (h : ¬ (bound < 0 ∨ 20000 < bound)) (h1 : (dictR size b).2.2 = 0) (h2 : (idxL size bound b).2 = 0) : idxRd size bound b = ((dictR size b).1, (idxL size bound b).1, 0) := by unfold idxRd; rw [if_neg h, if_neg (by simpa using h1), if_neg (by simpa using h2)]
theorem lsR_one {bound : Int} (hbd : bound ≤ 9223372036854775807) : ∀ (k : Nat) (b : List UInt8) (out : List (List Nat)), (lsR bound k b out).2 = 0 → ∃ I, (lsR bound k b out).1 = out ++ I ∧ I.length = k ∧ (∀ x ∈ I, x ≠ [] ∧ RisN bound.toNat x) ∧ I.flatMap (efB bound.toNat) = b
  | 0, b, out, h => by
    unfold lsR at h ⊢
    split at h
    · exact absurd h (by decide)
    · rename_i q
      rw [if_neg q]
      exact ⟨[], by simp, rfl, by simp, by simpa using (List.eq_nil_of_length_eq_zero (by simpa using q)).symm⟩
  | k + 1, b, out, h => by
    unfold lsR at h ⊢
    split at h
    · rename_i q; exact absurd h q
    · rename_i q
      split at h
      · exact absurd h (by decide)
      · rename_i q2
        rw [if_neg q, if_neg q2]
        obtain ⟨bn, rfl, hb2, hR, hB, hl⟩ := efRd_one hbd (by simpa using q)
        obtain ⟨I, h1, h2, h3, h4⟩ := lsR_one hbd k _ _ h
        simp only [Int.toNat_natCast] at h3 h4 ⊢
        refine ⟨(efRd bn b).1 :: I, by rw [h1]; simp, by simp [h2], ?_, ?_⟩
        · intro x hx
          rcases List.mem_cons.1 hx with rfl | hx
          · exact ⟨fun e => q2 (by rw [e]; rfl), hR⟩
          · exact h3 x hx
        · rw [List.flatMap_cons, hB, h4, List.take_append_drop]
theorem idx_one {size bound : Int} {b : List UInt8} (h : (idxRd size bound b).2.2 = 0) (hs : size ≤ 9223372036854775807) : ∃ sz bn : Nat, size = sz ∧ bound = bn ∧ 1 ≤ sz ∧ sz ≤ 64 ∧ bn ≤ 20000 ∧ RisT (idxRd size bound b).1 ∧ (idxRd size bound b).1.length = (idxRd size bound b).2.1.length ∧
    (∀ x ∈ (idxRd size bound b).2.1, x ≠ [] ∧ RisN bn x) ∧ dictB sz (idxRd size bound b).1 ++ (idxRd size bound b).2.1.flatMap (efB bn) = b := by
  have q1 : ¬ (bound < 0 ∨ 20000 < bound) := fun q1 => by rw [idxRd_a q1] at h; exact absurd h (by decide)
  have q2 : (dictR size b).2.2 = 0 := Classical.byContradiction fun q2 => by rw [idxRd_b q1 q2] at h; exact q2 h
  have q3 : (idxL size bound b).2 = 0 := Classical.byContradiction fun q3 => by rw [idxRd_c q1 q2 q3] at h; exact q3 h
  rw [idxRd_d q1 q2 q3]
  have q4 : ¬ (size < 1 ∨ 64 < size) := fun q => by rw [dictR_bad q] at q2; exact absurd q2 (by decide)
  obtain ⟨sz, rfl⟩ := Int.eq_ofNat_of_zero_le (show 0 ≤ size by omega)
  obtain ⟨bn, rfl⟩ := Int.eq_ofNat_of_zero_le (show 0 ≤ bound by omega)
  obtain ⟨e1, e2, e3⟩ := dict_one (sz := sz) (by omega) (by omega) q2
  obtain ⟨I, f1, f2, f3, f4⟩ := lsR_one (bound := bn) (by omega) _ _ _ q3
  rw [List.nil_append] at f1
  have f1' : (idxL sz bn b).1 = I := f1
  rw [Int.toNat_natCast] at f3 f4
  refine ⟨sz, bn, rfl, rfl, by omega, by omega, by omega, e1, ?_, ?_, ?_⟩
  · simp only; rw [f1', f2]
  · simp only; rw [f1']; exact f3
  · simp only; rw [f1', f4, e3, List.take_append_drop]
/-- numbers' lists as_ lists of whole numbers -/
def castI (I : List (List Nat)) : List (List Int) := I.map fun l => l.map (fun (n : Nat) => (n : Int))
end Go.Proofs.Ytpamjobiohbibaa
namespace Go.Proofs.Ytpamjobiohbibaa
open Go.RowKit
set_option linter.unusedVariables false
set_option maxRecDepth 20000
variable {B : Nat} {w0 : World} {F : List Ch} {A A1 A2 : Option Addr} {n c c1 c2 g : Nat} {bound size : Int}
/-- ef.Read, with its pieces ahead of those that there were -/
theorem efread_x {b : List UInt8} (hb : Bor B w0 F 1 (.slice A b.length c) b.length (bv b)) (hbl : b.length ≤ 100000) (hbd1 : -9223372036854775808 ≤ bound) (hbd2 : bound ≤ 9223372036854775807) :
    Does Try.prog B w0 85 [.int .i64 bound, .slice A b.length c] F (fun r L => ∃ p X, r = .tuple #[.pointer p, .int .i64 (efRd bound b).2.1, .int .i64 (efRd bound b).2.2] ∧ L = X ++ F ∧
      ((efRd bound b).2.2 ≠ 0 → X = []) ∧ ((efRd bound b).2.2 = 0 → ∃ w pp g A1 c1 A2 c2, p = some ⟨g, 0, none⟩ ∧ pp = 2 ^ w ∧ w ≤ 14 ∧ X ++ F = Rl g w pp A1 c1 A2 c2 (efRd bound b).1 F)) :=
  (efread_d hb hbl hbd1 hbd2).mono fun r L h => by
    rcases h with ⟨h, h1, h2⟩ | ⟨h, w, pp, g, A1, c1, A2, c2, h1, h2, h3, h4⟩
    · have e : (efRd bound b).2.1 = 0 := by
        unfold efRd at h ⊢
        split
        · rfl
        · split
          · rfl
          · split
            · rename_i q1 q2 q3
              rw [if_neg q1, if_neg q2, if_pos q3] at h
              exact absurd rfl h
            · split
              · rfl
              · rename_i q1 q2 q3 q4
                rw [if_neg q1, if_neg q2, if_neg q3, if_neg q4] at h
                exact absurd rfl h
      exact ⟨none, [], by rw [h1, e]; rfl, h2, fun _ => rfl, fun q => absurd q h⟩
    · exact ⟨some ⟨g, 0, none⟩, Rl g w pp A1 c1 A2 c2 (efRd bound b).1 [], by rw [h3, h], h4, fun q => absurd h q, fun _ => ⟨w, pp, g, A1, c1, A2, c2, rfl, h1, h2, rfl⟩⟩
theorem efRd_le {b : List UInt8} (h : (efRd bound b).2.2 = 0) (hbd : bound ≤ 9223372036854775807) : (efRd bound b).2.1 ≤ b.length ∧ (efRd bound b).1.length ≤ 20000 ∧ ∀ i, i < (efRd bound b).1.length → (efRd bound b).1.getD i 0 ≤ 1000000 := by
  obtain ⟨bn, rfl, h2, h3, _, h5⟩ := efRd_one hbd h
  exact ⟨h5, Nat.le_trans h3.len h2, h3.le h2⟩
theorem wk_lst {t : TypeId} {A8 : Option Addr} {c8 m : Nat} {vs : List Value} {e : Lst} {O : List Lst} (hm : m = O.length + 1) (hv : vs = O.map lVal ++ [lVal e]) : Wk (lRow e :: .own t 1 A8 m c8 vs :: (O.map lRow ++ F)) (.own t 1 A8 (O ++ [e]).length c8 ((O ++ [e]).map lVal) :: ((O ++ [e]).map lRow ++ F)) := by
  subst hm
  subst hv
  refine .swap (wk_own (by simp) (by simp) (.of_perm ?_))
  rw [List.map_append, List.append_assoc]
  exact List.perm_middle.symm
theorem perm4 {a b c d : Ch} {R : List Ch} (X : List Ch) : (X ++ a :: b :: c :: d :: R).Perm (a :: b :: c :: d :: (X ++ R)) :=
  List.perm_middle.trans ((List.perm_middle.trans ((List.perm_middle.trans (List.perm_middle.cons c)).cons b)).cons a)
def ListsQ (bound : Int) (n : Nat) (b : List UInt8) (F : List Ch) (r : Value) (L : List Ch) : Prop :=
  ∃ (A1 : Option Addr) (c1 m : Nat) (X : List Ch), r = .tuple #[.slice A1 m c1, .int .i64 (lsR bound n b []).2] ∧ L = X ++ F ∧ ((lsR bound n b []).2 ≠ 0 → A1 = none ∧ c1 = 0 ∧ m = 0 ∧ X = []) ∧
    ((lsR bound n b []).2 = 0 → ∃ LL : List Lst, LL.map (·.2.2) = (lsR bound n b []).1 ∧ m = LL.length ∧ LL.length = n ∧ X = .own 37 1 A1 LL.length c1 (LL.map lVal) :: LL.map lRow)
theorem lists_d {b : List UInt8} {n : Nat} (hb : Bor B w0 F 1 (.slice A b.length c) b.length (bv b)) (hbl : b.length ≤ 100000) (hn : n ≤ 2000000) (hbd1 : -9223372036854775808 ≤ bound) (hbd2 : bound ≤ 9223372036854775807) :
    Does Try.prog B w0 49 [.int .i64 n, .int .i64 bound, .slice A b.length c] F (ListsQ bound n b F) := by
  obtain ⟨G, hG⟩ : ∃ G, G = lsR bound n b [] := ⟨_, rfl⟩
  unfold ListsQ
  rw [← hG]
  refine fn_walk Try.func49 43 rfl rfl rfl [(0, .int .i64 n), (1, .int .i64 bound), (2, .slice A b.length c)] ⟨⟨rfl, rfl⟩, ⟨rfl, rfl⟩, ⟨rfl, rfl⟩, trivial⟩ ?_
  refine vc_seq ?_
  refine vc_region ?_
  refine vl_det (det_assign rfl) rfl ?_
  refine vl_det (det_assign rfl) rfl ?_
  refine vl_end [(0, _), (1, _), (2, _)] ⟨rfl, rfl, rfl, trivial⟩ ?_
  refine then_next ?_
  refine vc_seq ?_
  refine vc_region ?_
  refine vl_det (det_assign rfl) rfl ?_
  refine vl_end [(0, _), (1, _), (2, _), (8, _)] ⟨rfl, rfl, rfl, rfl, trivial⟩ ?_
  refine then_next ?_
  refine vc_seq ?_
  refine vc_seq ?_
  refine vc_nil_row 37 1 none ?_
  refine vc_region ?_
  refine vl_det (det_move rfl) rfl ?_
  refine vl_det (det_move rfl) rfl ?_
  refine vl_end [(1, _), (2, _), (8, _), (12, _), (13, _)] ⟨rfl, rfl, rfl, rfl, rfl, trivial⟩ ?_
  refine then_next ?_
  refine vc_block ?_
  refine vc_loopJ (fun zf zL zm => ∃ (k : Nat) (Ab : Option Addr) (cb : Nat) (r : List UInt8) (O : List Lst) (A8 : Option Addr) (c8 : Nat), (k ≤ n ∧ O.length = k ∧ lsR bound (n - k) r (O.map (·.2.2)) = G ∧ Bor B w0 F 1 (.slice Ab r.length cb) r.length (bv r) ∧ r.length ≤ b.length) ∧ n - k = zm ∧ Sub zf [(1, .int .i64 bound), (2, .slice Ab r.length cb), (8, .slice A8 O.length c8), (12, .int .i64 n), (13, .int .i64 k)] ∧ Wk zL (.own 37 1 A8 O.length c8 (O.map lVal) :: (O.map lRow ++ F))) _ ⟨0, A, c, b, [], none, 0, ⟨Nat.zero_le _, rfl, hG.symm, hb, Nat.le_refl _⟩, rfl, ⟨(by first | rfl | exact int_to (by omega) | exact sl_to (by omega)), (by first | rfl | exact int_to (by omega) | exact sl_to (by omega)), (by first | rfl | exact int_to (by omega) | exact sl_to (by omega)), (by first | rfl | exact int_to (by omega) | exact sl_to (by omega)), (by first | rfl | exact int_to (by omega) | exact sl_to (by omega)), trivial⟩, .refl _⟩ ?_
  rintro _ _ _ ⟨k, Ab, cb, r, O, A8, c8, ⟨hk, hO, hR, hbr, hrl⟩, rfl, hs, hp⟩
  refine vc_weaken _ hs (vc_wk hp ?_)
  clear hs hp
  refine vc_seq ?_
  refine vc_region ?_
  refine vl_det (det_lss rfl rfl) rfl ?_
  refine vl_end [(1, _), (2, _), (8, _), (12, _), (13, _), (14, _)] ⟨rfl, rfl, rfl, rfl, rfl, rfl, trivial⟩ ?_
  refine then_next ?_
  refine vc_seq ?_
  refine vc_decideU rfl (fun h14 => ?_) (fun h14 => ?_)
  · skip
    obtain ⟨j, hj⟩ : ∃ j, n - k = j + 1 := ⟨n - k - 1, by omega⟩
    rw [hj, lsR] at hR
    have hbr2 : Bor B w0 (O.map lRow ++ F) 1 (.slice Ab r.length cb) r.length (bv r) := hbr.mono (List.sublist_append_right _ F)
    refine vc_skip ?_
    refine then_next ?_
    refine vc_seq ?_
    refine vc_block ?_
    refine vc_seq ?_
    refine vc_region ?_
    refine vl_det (det_move rfl) rfl ?_
    refine vl_det (det_move rfl) rfl ?_
    refine vl_call co85 rfl (efread_x (by first | (exact Bor.own (by repeat (first | exact List.Mem.head _ | apply List.Mem.tail))) | (repeat (first | assumption | apply Bor.cons))) (by omega) hbd1 hbd2) rfl ?_
    rintro _ _ ⟨p18, X18, rfl, hLL, hX1, hX2⟩
    obtain rfl := hLL.symm
    refine vl_det (det_move rfl) rfl ?_
    refine vl_det (det_extract rfl rfl) rfl ?_
    refine vl_det (det_extract rfl rfl) rfl ?_
    refine vl_det (det_extract rfl rfl) rfl ?_
    refine vl_det (det_assign rfl) rfl ?_
    refine vl_det (det_assign rfl) rfl ?_
    refine vl_det (det_assign rfl) rfl ?_
    refine vl_end [(1, _), (2, _), (8, _), (9, _), (10, _), (11, _), (12, _), (13, _)] ⟨rfl, rfl, rfl, rfl, rfl, rfl, rfl, rfl, trivial⟩ ?_
    refine then_next ?_
    refine vc_seq ?_
    refine vc_block ?_
    refine vc_seq ?_
    refine vc_region ?_
    refine vl_det (det_move rfl) rfl ?_
    refine vl_det (det_neq rfl rfl) rfl ?_
    refine vl_det (det_assign rfl) rfl ?_
    refine vl_end [(1, _), (2, _), (8, _), (9, _), (10, _), (11, _), (12, _), (13, _), (22, _)] ⟨rfl, rfl, rfl, rfl, rfl, rfl, rfl, rfl, rfl, trivial⟩ ?_
    refine then_next ?_
    refine vc_decideU rfl (fun h22 => ?_) (fun h22 => ?_)
    · skip
      have h22' : (efRd bound r).2.2 ≠ 0 := by simpa using h22
      rw [if_pos h22'] at hR
      refine vc_seq ?_
      refine vc_region ?_
      refine vl_det (det_move rfl) rfl ?_
      refine vl_det (det_assign rfl) rfl ?_
      refine vl_det (det_assign rfl) rfl ?_
      refine vl_end [(6, _), (7, _)] ⟨rfl, rfl, trivial⟩ ?_
      refine then_next ?_
      refine vc_ret ?_
      refine in_ret ?_
      refine then_ret ?_
      refine in_ret ?_
      refine then_ret ?_
      refine loop_ret ?_
      refine in_ret ?_
      refine then_ret ?_
      rw [hX1 h22']
      refine ret_wk (L' := F) (.skip (wk_rows (.refl _) _)) ?_
      refine ret2 rfl rfl rfl ?_
      exact ⟨none, 0, 0, [], by rw [← hR], rfl, fun _ => ⟨rfl, rfl, rfl, rfl⟩, fun q => by rw [← hR] at q; exact absurd q h22'⟩
    · skip
      have h22' : (efRd bound r).2.2 = 0 := by simpa using h22
      rw [if_neg (by simpa using h22')] at hR
      obtain ⟨lw, lp, g18, P1, p1, P2, p2, rfl, hlp, hlw, hX⟩ := hX2 h22'
      rw [hX]
      obtain ⟨hle1, hle2, hle3⟩ := efRd_le h22' hbd2
      clear hX hX1 hX2
      obtain ⟨xs, hxs⟩ : ∃ xs, xs = (efRd bound r).1 := ⟨_, rfl⟩
      obtain ⟨t, ht⟩ : ∃ t, t = (efRd bound r).2.1 := ⟨_, rfl⟩
      rw [← hxs] at hle2 hle3 hR ⊢
      rw [← ht] at hle1 hR ⊢
      refine vc_seq ?_
      refine vc_region ?_
      refine vl_det (det_move rfl) rfl ?_
      refine vl_call co86 rfl (llen_d) rfl ?_
      rintro _ _ ⟨rfl, hLL⟩
      obtain rfl := hLL.symm
      refine vl_det (det_eql rfl rfl) rfl ?_
      refine vl_det (det_assign rfl) rfl ?_
      refine vl_end [(1, _), (2, _), (8, _), (9, _), (10, _), (12, _), (13, _), (26, _)] ⟨rfl, rfl, rfl, rfl, rfl, rfl, rfl, rfl, trivial⟩ ?_
      refine then_next ?_
      refine vc_decideU rfl (fun h26 => ?_) (fun h26 => ?_)
      · skip
        rw [if_pos (by omega)] at hR
        refine vc_seq ?_
        refine vc_region ?_
        refine vl_det (det_assign rfl) rfl ?_
        refine vl_det (det_assign rfl) rfl ?_
        refine vl_end [(6, _), (7, _)] ⟨rfl, rfl, trivial⟩ ?_
        refine then_next ?_
        refine vc_ret ?_
        refine in_ret ?_
        refine then_ret ?_
        refine in_ret ?_
        refine then_ret ?_
        refine loop_ret ?_
        refine in_ret ?_
        refine then_ret ?_
        refine ret_wk (L' := F) (.skip (.skip (.skip (.skip (wk_rows (.refl _) _))))) ?_
        refine ret2 rfl rfl rfl ?_
        exact ⟨none, 0, 0, [], by rw [← hR], rfl, fun _ => ⟨rfl, rfl, rfl, rfl⟩, fun q => by rw [← hR] at q; exact absurd q (by decide)⟩
      · skip
        rw [if_neg (by omega)] at hR
        refine vc_skip ?_
        refine in_normal ?_
        refine then_next ?_
        refine vc_seq ?_
        refine vc_region ?_
        refine vl_det (det_move rfl) rfl ?_
        refine vl_det (det_move rfl) rfl ?_
        refine vl_call co87 rfl (lall_d hlp hlw hle3 (by omega)) rfl ?_
        rintro _ _ ⟨A32, c32, rfl, hLL⟩
        obtain rfl := hLL.symm
        refine vl_push slT27 rfl rfl rfl rfl rfl (fun _ => rfl) (by repeat (first | exact .hd | apply Sel.tl)) (by omega) (by omega) ?_
        intro _ A34 c34
        refine vl_det (det_assign rfl) rfl ?_
        refine vl_end [(1, _), (2, _), (8, _), (10, _), (12, _), (13, _)] ⟨rfl, rfl, rfl, rfl, rfl, rfl, trivial⟩ ?_
        refine then_next ?_
        refine vc_region ?_
        refine vl_det (det_move rfl) rfl ?_
        refine vl_det (det_move rfl) rfl ?_
        refine vl_det (det_slice_lo (i := t) (size := 1) Try.underlying41 (by kernel_rfl) rfl rfl rfl hle1) rfl ?_
        rw [show r.length - t = (r.drop t).length from (List.length_drop ..).symm]
        refine vl_det (det_assign rfl) rfl ?_
        refine vl_end [(1, _), (2, _), (8, _), (12, _), (13, _)] ⟨rfl, rfl, rfl, rfl, rfl, trivial⟩ ?_
        refine in_normal ?_
        refine then_next ?_
        refine vc_region ?_
        refine vl_det (det_add rfl rfl (w_i64 (by omega) (by omega))) rfl ?_
        refine vl_det (det_move rfl) rfl ?_
        refine vl_end [(1, _), (2, _), (8, _), (12, _), (13, _)] ⟨rfl, rfl, rfl, rfl, rfl, trivial⟩ ?_
        have hel : O.length + 1 = (O ++ [(A32, c32, xs)]).length := by simp
        refine in_loop_ ⟨_, by omega, k + 1, _, _, r.drop t, O ++ [(A32, c32, xs)], A34, c34, ⟨by omega, by simp [hO], by rw [show n - (k + 1) = j by omega]; simpa using hR, by have := hbr.cut hle1; rwa [show (bv r).drop (t * 1) = bv (r.drop t) by rw [Nat.mul_one, bv_drop], show r.length - t = (r.drop t).length from (List.length_drop ..).symm] at this, by rw [List.length_drop]; omega⟩, rfl, ⟨(by first | rfl | exact int_to (by omega) | exact sl_to (by omega)), (by first | rfl | exact int_to (by omega) | exact sl_to (by omega)), (by first | rfl | exact int_to (by omega) | exact sl_to (by omega)), (by first | rfl | exact int_to (by omega) | exact sl_to (by omega)), (by first | rfl | exact int_to (by omega) | exact sl_to (by omega)), trivial⟩, .skip (.skip (.skip (wk_lst (e := (A32, c32, xs)) (O := O) rfl rfl)))⟩
  · skip
    rw [show n - k = 0 by omega, lsR] at hR
    refine vc_exit ?_
    refine then_exit ?_
    refine loop_exit ?_
    refine in_eq ?_
    refine then_next ?_
    refine vc_seq ?_
    refine vc_seq ?_
    refine vc_region ?_
    refine vl_det (det_move rfl) rfl ?_
    refine vl_det (det_len_sl Try.underlying41 rfl) rfl ?_
    refine vl_det (det_gtr rfl rfl) rfl ?_
    refine vl_end [(8, _), (41, _)] ⟨rfl, rfl, trivial⟩ ?_
    refine then_next ?_
    refine vc_decideU rfl (fun h41 => ?_) (fun h41 => ?_)
    · skip
      refine vc_seq ?_
      refine vc_region ?_
      refine vl_det (det_assign rfl) rfl ?_
      refine vl_det (det_assign rfl) rfl ?_
      refine vl_end [(6, _), (7, _)] ⟨rfl, rfl, trivial⟩ ?_
      refine then_next ?_
      refine vc_ret ?_
      refine then_ret ?_
      refine ret_wk (L' := F) (.skip (wk_rows (.refl _) _)) ?_
      refine ret2 rfl rfl rfl ?_
      rw [if_pos (by omega)] at hR
      exact ⟨none, 0, 0, [], by rw [← hR], rfl, fun _ => ⟨rfl, rfl, rfl, rfl⟩, fun q => by rw [← hR] at q; exact absurd q (by decide)⟩
    · skip
      refine vc_skip ?_
      refine then_next ?_
      refine vc_seq ?_
      refine vc_region ?_
      refine vl_det (det_move rfl) rfl ?_
      refine vl_det (det_assign rfl) rfl ?_
      refine vl_det (det_assign rfl) rfl ?_
      refine vl_end [(6, _), (7, _)] ⟨rfl, rfl, trivial⟩ ?_
      refine then_next ?_
      refine vc_ret ?_
      refine ret2 rfl rfl rfl ?_
      rw [if_neg (by omega)] at hR
      exact ⟨A8, c8, O.length, .own 37 1 A8 O.length c8 (O.map lVal) :: O.map lRow, by rw [← hR], rfl, fun q => by rw [← hR] at q; exact absurd rfl q, fun _ => ⟨O, by rw [← hR], rfl, by omega, rfl⟩⟩
/-- an index that was read: its texts, lists, error -/
def IdxQ (d : List Txt × List (List Nat) × Int) (F : List Ch) (r : Value) (L : List Ch) : Prop :=
  ∃ (A1 : Option Addr) (c1 : Nat) (A2 : Option Addr) (c2 : Nat) (LL : List Lst), r = .tuple #[IdxA A1 d.1.length c1 A2 LL.length c2, .int .i64 d.2.2] ∧ LL.map (·.2.2) = d.2.1 ∧
    L = .own 9 1 A1 d.1.length c1 (strs d.1) :: .own 37 1 A2 LL.length c2 (LL.map lVal) :: (LL.map lRow ++ F)
theorem idxQ_err {e : Int} {r : Value} (h : r = .tuple #[IdxA none 0 0 none 0 0, .int .i64 e]) : IdxQ ([], [], e) F r (.own 9 1 none 0 0 [] :: .own 37 1 none 0 0 [] :: F) := ⟨none, 0, none, 0, [], h, rfl, rfl⟩
theorem pread_1 {b : List UInt8} (hE : bound < 0 ∨ 20000 < bound) : Does Try.prog B w0 24 [.int .i64 size, .int .i64 bound, .slice A b.length c] F (IdxQ (idxRd size bound b) F) := by
  rw [idxRd_a hE]
  refine fn_walk Try.func24 48 rfl rfl rfl [(0, .int .i64 size), (1, .int .i64 bound), (2, .slice A b.length c)] ⟨⟨rfl, rfl⟩, ⟨rfl, rfl⟩, ⟨rfl, rfl⟩, trivial⟩ ?_
  refine vc_seq ?_
  refine vc_region ?_
  refine vl_eff (eff_alloc_z (zv := (.agg #[.slice none 0 0, .slice none 0 0])) (by kernel_rfl) rfl) rfl ?_
  rintro _ _ ⟨g6, rfl, rfl⟩
  refine vl_det (det_assign rfl) rfl ?_
  refine vl_end [(0, _), (1, _), (2, _), (6, _)] ⟨rfl, rfl, rfl, rfl, trivial⟩ ?_
  refine then_next ?_
  refine vc_seq ?_
  refine vc_seq ?_
  refine vc_region ?_
  refine vl_cut 6 17 [(0, _), (1, _), (2, _), (6, _)] (bound < 0 ∨ 20000 < bound) ⟨rfl, rfl, rfl, rfl, trivial⟩ ?_ ?_
  · skip
    refine vl_det (det_move rfl) rfl ?_
    refine vl_det (det_lss rfl rfl) rfl ?_
    refine vl_det (det_move rfl) rfl ?_
    refine vl_guardn rfl rfl rfl (fun h14 => ?_) (fun h14 => ?_)
    · skip
      refine vl_det (det_move rfl) rfl ?_
      refine vl_guard_t rfl rfl ?_
      refine vl_det (det_gtr rfl rfl) rfl ?_
      refine vl_det (det_pick_f rfl rfl) rfl ?_
      exact vl_cut_end ⟨rfl, rfl, rfl, rfl, trivial⟩ (by first | rfl | exact bool_to_t (by first | omega | simp_all) | exact bool_to_f (by first | omega | simp_all) | exact bool_to (by first | omega | simp_all) | exact bool_to_b (by first | omega | simp_all))
    · skip
      refine vl_guard_f rfl rfl rfl rfl ?_
      refine vl_det (det_pick_t rfl rfl) rfl ?_
      exact vl_cut_end ⟨rfl, rfl, rfl, rfl, trivial⟩ (by first | rfl | exact bool_to_t (by first | omega | simp_all) | exact bool_to_f (by first | omega | simp_all) | exact bool_to (by first | omega | simp_all) | exact bool_to_b (by first | omega | simp_all))
  · skip
    refine vl_end [(0, _), (1, _), (2, _), (6, _), (17, _)] ⟨rfl, rfl, rfl, rfl, rfl, trivial⟩ ?_
    refine then_next ?_
    refine vc_decideU rfl (fun h17 => ?_) (fun h17 => ?_)
    · skip
      refine vc_seq ?_
      refine vc_region ?_
      refine vl_det (det_build0 [.slice none 0 0, .slice none 0 0] (by kernel_rfl)) rfl ?_
      refine vl_eff0 (eff_store_whole 2 (by kernel_rfl) rfl rfl (by first | exact bv_one _ | exact strs_one _ | exact ints_one _ _ | (simp; done) | (simp [Value.oneCell']; done) | assumption) (by repeat (first | exact .hd | apply Sel.tl)) (by first | rfl | (simp; omega) | (simp [*]; done)) (by first | rfl | (simp; omega) | (simp [*]; done))) ?_
      rintro _ _ rfl
      refine vl_det (det_assign rfl) rfl ?_
      refine vl_end [(6, _), (7, _)] ⟨rfl, rfl, trivial⟩ ?_
      refine then_next ?_
      refine vc_ret ?_
      refine then_ret ?_
      refine ret_nil_row 37 1 none ?_
      refine ret_nil_row 9 1 none ?_
      refine ret_ct rfl rfl (by kernel_rfl) (by repeat (first | exact .hd | apply Sel.tl)) (by first | rfl | (simp; omega) | (simp [*]; done)) rfl (.cons (.cons (.skip (.refl _)))) ?_
      exact idxQ_err rfl
    · skip
      exfalso; exact h17 hE
theorem pread_2 {b : List UInt8} (hE : ¬ (bound < 0 ∨ 20000 < bound)) (hb : Bor B w0 F 1 (.slice A b.length c) b.length (bv b)) (hbl : b.length ≤ 100000) (he : (dictR size b).2.2 ≠ 0) :
    Does Try.prog B w0 24 [.int .i64 size, .int .i64 bound, .slice A b.length c] F (IdxQ (idxRd size bound b) F) := by
  rw [idxRd_b hE he]
  refine fn_walk Try.func24 48 rfl rfl rfl [(0, .int .i64 size), (1, .int .i64 bound), (2, .slice A b.length c)] ⟨⟨rfl, rfl⟩, ⟨rfl, rfl⟩, ⟨rfl, rfl⟩, trivial⟩ ?_
  refine vc_seq ?_
  refine vc_region ?_
  refine vl_eff (eff_alloc_z (zv := (.agg #[.slice none 0 0, .slice none 0 0])) (by kernel_rfl) rfl) rfl ?_
  rintro _ _ ⟨g6, rfl, rfl⟩
  refine vl_det (det_assign rfl) rfl ?_
  refine vl_end [(0, _), (1, _), (2, _), (6, _)] ⟨rfl, rfl, rfl, rfl, trivial⟩ ?_
  refine then_next ?_
  refine vc_seq ?_
  refine vc_seq ?_
  refine vc_region ?_
  refine vl_cut 6 17 [(0, _), (1, _), (2, _), (6, _)] (bound < 0 ∨ 20000 < bound) ⟨rfl, rfl, rfl, rfl, trivial⟩ ?_ ?_
  · skip
    refine vl_det (det_move rfl) rfl ?_
    refine vl_det (det_lss rfl rfl) rfl ?_
    refine vl_det (det_move rfl) rfl ?_
    refine vl_guardn rfl rfl rfl (fun h14 => ?_) (fun h14 => ?_)
    · skip
      refine vl_det (det_move rfl) rfl ?_
      refine vl_guard_t rfl rfl ?_
      refine vl_det (det_gtr rfl rfl) rfl ?_
      refine vl_det (det_pick_f rfl rfl) rfl ?_
      exact vl_cut_end ⟨rfl, rfl, rfl, rfl, trivial⟩ (by first | rfl | exact bool_to_t (by first | omega | simp_all) | exact bool_to_f (by first | omega | simp_all) | exact bool_to (by first | omega | simp_all) | exact bool_to_b (by first | omega | simp_all))
    · skip
      refine vl_guard_f rfl rfl rfl rfl ?_
      refine vl_det (det_pick_t rfl rfl) rfl ?_
      exact vl_cut_end ⟨rfl, rfl, rfl, rfl, trivial⟩ (by first | rfl | exact bool_to_t (by first | omega | simp_all) | exact bool_to_f (by first | omega | simp_all) | exact bool_to (by first | omega | simp_all) | exact bool_to_b (by first | omega | simp_all))
  · skip
    refine vl_end [(0, _), (1, _), (2, _), (6, _), (17, _)] ⟨rfl, rfl, rfl, rfl, rfl, trivial⟩ ?_
    refine then_next ?_
    refine vc_decideU rfl (fun h17 => ?_) (fun h17 => ?_)
    · skip
      exfalso; exact hE h17
    · skip
      refine vc_skip ?_
      refine then_next ?_
      refine vc_seq ?_
      refine vc_region ?_
      refine vl_det (det_move rfl) rfl ?_
      refine vl_det (det_move rfl) rfl ?_
      refine vl_call co48 rfl (dread_err (by first | (exact Bor.own (by repeat (first | exact List.Mem.head _ | apply List.Mem.tail))) | (repeat (first | assumption | apply Bor.cons))) (by omega) he) rfl ?_
      rintro _ _ ⟨rfl, hLL⟩
      obtain rfl := hLL.symm
      refine vl_det (det_move rfl) rfl ?_
      refine vl_det (det_extract rfl rfl) rfl ?_
      refine vl_det (det_extract rfl rfl) rfl ?_
      refine vl_det (det_extract rfl rfl) rfl ?_
      refine vl_det (det_assign rfl) rfl ?_
      refine vl_det (det_assign rfl) rfl ?_
      refine vl_det (det_assign rfl) rfl ?_
      refine vl_end [(1, _), (2, _), (6, _), (8, _), (9, _), (10, _)] ⟨rfl, rfl, rfl, rfl, rfl, rfl, trivial⟩ ?_
      refine then_next ?_
      refine vc_seq ?_
      refine vc_seq ?_
      refine vc_region ?_
      refine vl_det (det_move rfl) rfl ?_
      refine vl_det (det_neq rfl rfl) rfl ?_
      refine vl_end [(1, _), (2, _), (6, _), (8, _), (9, _), (10, _), (27, _)] ⟨rfl, rfl, rfl, rfl, rfl, rfl, rfl, trivial⟩ ?_
      refine then_next ?_
      refine vc_decideU rfl (fun h27 => ?_) (fun h27 => ?_)
      · skip
        refine vc_seq ?_
        refine vc_region ?_
        refine vl_det (det_build0 [.slice none 0 0, .slice none 0 0] (by kernel_rfl)) rfl ?_
        refine vl_det (det_move rfl) rfl ?_
        refine vl_eff0 (eff_store_whole 2 (by kernel_rfl) rfl rfl (by first | exact bv_one _ | exact strs_one _ | exact ints_one _ _ | (simp; done) | (simp [Value.oneCell']; done) | assumption) (by repeat (first | exact .hd | apply Sel.tl)) (by first | rfl | (simp; omega) | (simp [*]; done)) (by first | rfl | (simp; omega) | (simp [*]; done))) ?_
        rintro _ _ rfl
        refine vl_det (det_assign rfl) rfl ?_
        refine vl_end [(6, _), (7, _)] ⟨rfl, rfl, trivial⟩ ?_
        refine then_next ?_
        refine vc_ret ?_
        refine then_ret ?_
        refine ret_nil_row 37 1 none ?_
        refine ret_nil_row 9 1 none ?_
        refine ret_ct rfl rfl (by kernel_rfl) (by repeat (first | exact .hd | apply Sel.tl)) (by first | rfl | (simp; omega) | (simp [*]; done)) rfl (.cons (.cons (.skip (.refl _)))) ?_
        exact idxQ_err rfl
      · skip
        exfalso; exact h27 he
theorem pread_3 {b : List UInt8} (hE : ¬ (bound < 0 ∨ 20000 < bound)) (hb : Bor B w0 F 1 (.slice A b.length c) b.length (bv b)) (hbl : b.length ≤ 100000) (he : (dictR size b).2.2 = 0) :
    Does Try.prog B w0 24 [.int .i64 size, .int .i64 bound, .slice A b.length c] F (IdxQ (idxRd size bound b) F) := by
  have q4 : ¬ (size < 1 ∨ 64 < size) := fun q => by rw [dictR_bad q] at he; exact absurd he (by decide)
  obtain ⟨sz, rfl⟩ := Int.eq_ofNat_of_zero_le (show 0 ≤ size by omega)
  obtain ⟨e1, e2, e3⟩ := dict_one (sz := sz) (by omega) (by omega) he
  have hR1 := @idxRd_c sz bound b hE he
  have hR2 := @idxRd_d sz bound b hE he
  have hIL : idxL sz bound b = lsR bound (dictR sz b).1.length (b.drop (dictR sz b).2.1) [] := rfl
  have hdr : dictR sz b = ((dictR sz b).1, (dictR sz b).2.1, 0) := Prod.ext rfl (Prod.ext rfl he)
  have hTl := e1.2
  have hcut := hb.cut e2
  rw [show (bv b).drop ((dictR sz b).2.1 * 1) = bv (b.drop (dictR sz b).2.1) by rw [Nat.mul_one, bv_drop], show b.length - (dictR sz b).2.1 = (b.drop (dictR sz b).2.1).length from (List.length_drop ..).symm] at hcut
  have hdl : (b.drop (dictR sz b).2.1).length ≤ b.length := by rw [List.length_drop]; omega
  obtain ⟨T, hT⟩ : ∃ T, T = (dictR sz b).1 := ⟨_, rfl⟩
  obtain ⟨t, ht⟩ : ∃ t, t = (dictR sz b).2.1 := ⟨_, rfl⟩
  rw [← hT] at e1 hR2 hIL hdr hTl
  rw [← ht] at e2 hIL hdr hcut hdl
  obtain ⟨G, hG⟩ : ∃ G, G = idxL sz bound b := ⟨_, rfl⟩
  rw [← hG] at hR1 hR2 hIL
  clear hG e3
  refine fn_walk Try.func24 48 rfl rfl rfl [(0, .int .i64 sz), (1, .int .i64 bound), (2, .slice A b.length c)] ⟨⟨rfl, rfl⟩, ⟨rfl, rfl⟩, ⟨rfl, rfl⟩, trivial⟩ ?_
  refine vc_seq ?_
  refine vc_region ?_
  refine vl_eff (eff_alloc_z (zv := (.agg #[.slice none 0 0, .slice none 0 0])) (by kernel_rfl) rfl) rfl ?_
  rintro _ _ ⟨g6, rfl, rfl⟩
  refine vl_det (det_assign rfl) rfl ?_
  refine vl_end [(0, _), (1, _), (2, _), (6, _)] ⟨rfl, rfl, rfl, rfl, trivial⟩ ?_
  refine then_next ?_
  refine vc_seq ?_
  refine vc_seq ?_
  refine vc_region ?_
  refine vl_cut 6 17 [(0, _), (1, _), (2, _), (6, _)] (bound < 0 ∨ 20000 < bound) ⟨rfl, rfl, rfl, rfl, trivial⟩ ?_ ?_
  · skip
    refine vl_det (det_move rfl) rfl ?_
    refine vl_det (det_lss rfl rfl) rfl ?_
    refine vl_det (det_move rfl) rfl ?_
    refine vl_guardn rfl rfl rfl (fun h14 => ?_) (fun h14 => ?_)
    · skip
      refine vl_det (det_move rfl) rfl ?_
      refine vl_guard_t rfl rfl ?_
      refine vl_det (det_gtr rfl rfl) rfl ?_
      refine vl_det (det_pick_f rfl rfl) rfl ?_
      exact vl_cut_end ⟨rfl, rfl, rfl, rfl, trivial⟩ (by first | rfl | exact bool_to_t (by first | omega | simp_all) | exact bool_to_f (by first | omega | simp_all) | exact bool_to (by first | omega | simp_all) | exact bool_to_b (by first | omega | simp_all))
    · skip
      refine vl_guard_f rfl rfl rfl rfl ?_
      refine vl_det (det_pick_t rfl rfl) rfl ?_
      exact vl_cut_end ⟨rfl, rfl, rfl, rfl, trivial⟩ (by first | rfl | exact bool_to_t (by first | omega | simp_all) | exact bool_to_f (by first | omega | simp_all) | exact bool_to (by first | omega | simp_all) | exact bool_to_b (by first | omega | simp_all))
  · skip
    refine vl_end [(0, _), (1, _), (2, _), (6, _), (17, _)] ⟨rfl, rfl, rfl, rfl, rfl, trivial⟩ ?_
    refine then_next ?_
    refine vc_decideU rfl (fun h17 => ?_) (fun h17 => ?_)
    · skip
      exfalso; exact hE h17
    · skip
      refine vc_skip ?_
      refine then_next ?_
      refine vc_seq ?_
      refine vc_region ?_
      refine vl_det (det_move rfl) rfl ?_
      refine vl_det (det_move rfl) rfl ?_
      refine vl_call co48 rfl (dread_good (sz := sz) (by omega) (by omega) (by first | (exact Bor.own (by repeat (first | exact List.Mem.head _ | apply List.Mem.tail))) | (repeat (first | assumption | apply Bor.cons))) (by omega) hdr) rfl ?_
      rintro _ _ ⟨g22, P22, p22, Q22, q22, rfl, hLL⟩
      obtain rfl := hLL.symm
      refine vl_det (det_move rfl) rfl ?_
      refine vl_det (det_extract rfl rfl) rfl ?_
      refine vl_det (det_extract rfl rfl) rfl ?_
      refine vl_det (det_extract rfl rfl) rfl ?_
      refine vl_det (det_assign rfl) rfl ?_
      refine vl_det (det_assign rfl) rfl ?_
      refine vl_det (det_assign rfl) rfl ?_
      refine vl_end [(1, _), (2, _), (6, _), (8, _), (9, _), (10, _)] ⟨rfl, rfl, rfl, rfl, rfl, rfl, trivial⟩ ?_
      refine then_next ?_
      refine vc_seq ?_
      refine vc_seq ?_
      refine vc_region ?_
      refine vl_det (det_move rfl) rfl ?_
      refine vl_det (det_neq rfl rfl) rfl ?_
      refine vl_end [(1, _), (2, _), (6, _), (8, _), (9, _), (10, _), (27, _)] ⟨rfl, rfl, rfl, rfl, rfl, rfl, rfl, trivial⟩ ?_
      refine then_next ?_
      refine vc_decideU rfl (fun h27 => ?_) (fun h27 => ?_)
      · skip
        exfalso; exact h27 rfl
      · skip
        refine vc_skip ?_
        refine then_next ?_
        refine vc_seq ?_
        refine vh_region (S := Dd g22 sz P22 p22 Q22 q22 T (hdS sz T) (.blk g6 29 [.slice none 0 0, .slice none 0 0] :: F)) (by kernel_rfl) (by repeat (first | exact List.Sublist.refl _ | exact List.nil_sublist _ | exact List.sublist_append_right _ _ | apply List.Sublist.cons_cons | apply List.Sublist.cons)) ?_
        refine vh_take 0 rfl (by kernel_rfl) (by kernel_rfl) (by kernel_rfl) (det_move rfl) rfl ?_
        refine vh_take 2 rfl (by kernel_rfl) (by kernel_rfl) (by kernel_rfl) (det_move rfl) rfl ?_
        refine vh_take 3 rfl (by kernel_rfl) (by kernel_rfl) (by kernel_rfl) (det_move rfl) rfl ?_
        refine vh_take 4 rfl (by kernel_rfl) (by kernel_rfl) (by kernel_rfl) (det_move rfl) rfl ?_
        refine vh_take 5 rfl (by kernel_rfl) (by kernel_rfl) (by kernel_rfl) (det_slice_lo (i := t) (size := 1) Try.underlying41 (by kernel_rfl) rfl rfl rfl e2) rfl ?_
        rw [show b.length - t = (b.drop t).length from (List.length_drop ..).symm]
        refine vh_one 1 (by kernel_rfl) ?_
        refine st_call rfl .no co50 rfl (dlen_d) rfl (by rintro _ _ ⟨rfl, rfl⟩; exact (by repeat (first | exact List.Sublist.refl _ | exact List.nil_sublist _ | exact List.sublist_append_right _ _ | apply List.Sublist.cons_cons | apply List.Sublist.cons))) ?_
        rintro _ _ ⟨rfl, hLL⟩
        obtain rfl := hLL.symm
        refine vh_one 6 (by kernel_rfl) ?_
        refine st_call rfl .no co49 rfl (lists_d (n := T.length) (by first | (exact Bor.own (by repeat (first | exact List.Mem.head _ | apply List.Mem.tail))) | (repeat (first | assumption | apply Bor.cons))) (by omega) (by omega) (by omega) (by omega)) rfl (by rintro _ _ ⟨A37, c37, m37, X37, rfl, rfl, hX1, hX2⟩; exact (by repeat (first | exact List.Sublist.refl _ | exact List.nil_sublist _ | exact List.sublist_append_right _ _ | apply List.Sublist.cons_cons | apply List.Sublist.cons))) ?_
        rintro _ _ ⟨A37, c37, m37, X37, rfl, hLL, hX1, hX2⟩
        obtain rfl := hLL.symm
        rw [← hIL] at hX1 hX2
        refine vh_take 7 rfl (by kernel_rfl) (by kernel_rfl) (by kernel_rfl) (det_move rfl) rfl ?_
        refine vh_take 8 rfl (by kernel_rfl) (by kernel_rfl) (by kernel_rfl) (det_extract rfl rfl) rfl ?_
        refine vh_take 9 rfl (by kernel_rfl) (by kernel_rfl) (by kernel_rfl) (det_extract rfl rfl) rfl ?_
        refine vh_take 10 rfl (by kernel_rfl) (by kernel_rfl) (by kernel_rfl) (det_assign rfl) rfl ?_
        refine vh_take 11 rfl (by kernel_rfl) (by kernel_rfl) (by kernel_rfl) (det_assign rfl) rfl ?_
        refine vh_done [(6, _), (8, _), (10, _), (11, _)] ⟨rfl, rfl, rfl, rfl, trivial⟩ (by kernel_rfl) ?_
        refine then_next ?_
        refine vc_seq ?_
        refine vc_seq ?_
        refine vc_region ?_
        refine vl_det (det_move rfl) rfl ?_
        refine vl_det (det_neq rfl rfl) rfl ?_
        refine vl_end [(6, _), (8, _), (10, _), (11, _), (41, _)] ⟨rfl, rfl, rfl, rfl, rfl, trivial⟩ ?_
        refine then_next ?_
        refine vc_decideU rfl (fun h41 => ?_) (fun h41 => ?_)
        · skip
          have h41' : G.2 ≠ 0 := by rw [hIL]; simpa using h41
          obtain ⟨rfl, rfl, rfl, rfl⟩ := hX1 h41'
          rw [hR1 h41']
          refine vc_seq ?_
          refine vc_region ?_
          refine vl_det (det_build0 [.slice none 0 0, .slice none 0 0] (by kernel_rfl)) rfl ?_
          refine vl_det (det_move rfl) rfl ?_
          refine vl_eff0 (eff_store_whole 2 (by kernel_rfl) rfl rfl (by first | exact bv_one _ | exact strs_one _ | exact ints_one _ _ | (simp; done) | (simp [Value.oneCell']; done) | assumption) (by repeat (first | exact .hd | apply Sel.tl)) (by first | rfl | (simp; omega) | (simp [*]; done)) (by first | rfl | (simp; omega) | (simp [*]; done))) ?_
          rintro _ _ rfl
          refine vl_det (det_assign rfl) rfl ?_
          refine vl_end [(6, _), (7, _)] ⟨rfl, rfl, trivial⟩ ?_
          refine then_next ?_
          refine vc_ret ?_
          refine then_ret ?_
          refine ret_nil_row 37 1 none ?_
          refine ret_nil_row 9 1 none ?_
          refine ret_ct rfl rfl (by kernel_rfl) (by repeat (first | exact .hd | apply Sel.tl)) (by first | rfl | (simp; omega) | (simp [*]; done)) rfl (.cons (.cons (.skip (.skip (.skip (.skip (.refl _))))))) ?_
          exact idxQ_err (by rw [hIL])
        · skip
          have h41' : G.2 = 0 := by rw [hIL]; simpa using h41
          obtain ⟨LL, hL1, rfl, hL2, rfl⟩ := hX2 h41'
          rw [hR2 h41']
          refine vc_skip ?_
          refine then_next ?_
          refine vc_seq ?_
          refine vc_perm (perm4 (.own 37 1 A37 LL.length c37 (LL.map lVal) :: LL.map lRow)) ?_
          refine vc_region ?_
          refine vl_det (det_move rfl) rfl ?_
          refine vl_call co51 rfl (dall_d (by omega)) rfl ?_
          rintro _ _ ⟨A45, c45, rfl, hLL⟩
          obtain rfl := hLL.symm
          refine vl_det (det_move rfl) rfl ?_
          refine vl_det (det_build [(0, _), (1, _)] [_, _] rfl rfl (by kernel_rfl)) rfl ?_
          refine vl_eff0 (eff_store_whole 2 (by kernel_rfl) rfl rfl (by first | exact bv_one _ | exact strs_one _ | exact ints_one _ _ | (simp; done) | (simp [Value.oneCell']; done) | assumption) (by repeat (first | exact .hd | apply Sel.tl)) (by first | rfl | (simp; omega) | (simp [*]; done)) (by first | rfl | (simp; omega) | (simp [*]; done))) ?_
          rintro _ _ rfl
          refine vl_det (det_assign rfl) rfl ?_
          refine vl_end [(6, _), (7, _)] ⟨rfl, rfl, trivial⟩ ?_
          refine then_next ?_
          refine vc_ret ?_
          refine ret_ct rfl rfl (by kernel_rfl) (by repeat (first | exact .hd | apply Sel.tl)) (by first | rfl | (simp; omega) | (simp [*]; done)) rfl (.skip (.skip (.skip (.cons (.skip (.refl _)))))) ?_
          exact ⟨A45, c45, A37, c37, LL, rfl, hL1, rfl⟩
end Go.Proofs.Ytpamjobiohbibaa
namespace Go.Proofs.Ytpamjobiohbibaa
open Go.RowKit
set_option linter.unusedVariables false
set_option maxRecDepth 20000
variable {B : Nat} {w0 : World} {F : List Ch} {A : Option Addr} {n c g : Nat} {bt : TypeId} {f : Ch → List Ch}
abbrev Rf (g : Nat) (A : Option Addr) (c : Nat) (q : List Bool) (p : Nat) (F : List Ch) : List Ch := .blk g 144 [.slice A q.length c, .int .i64 p] :: .own 5 1 A q.length c (bv (ref q)) :: F
theorem rf_at (a : Value) {x y : Int} (h : x = y) : [a, Value.int .i64 x] = [a, Value.int .i64 y] := by rw [h]
theorem rf_eq {q q' : List Bool} {b : Bool} {A' : Option Addr} {c' m : Nat} {xs : List Value} {v : Value} (hm : m = q.length + 1) (hx : xs = bv (ref q) ++ [.int .u8 b.toNat]) (hq : q' = q ++ [b]) : Wk (.blk g bt [.slice A' m c', v] :: .own 5 1 A' m c' xs :: F) (.blk g bt [.slice A' q'.length c', v] :: .own 5 1 A' q'.length c' (bv (ref q')) :: F) := by
  subst hx
  subst hq
  exact wk_blk (by rw [hm]; simp) (wk_own (by rw [hm]; simp) (by rw [ref_app, bv_add, ref_bit]) (.refl _))
def pw (j : Nat) : Nat := 128 / 2 ^ j
theorem pw_succ (j : Nat) : pw (j + 1) = pw j / 2 := by rw [pw, pw, Nat.pow_succ, Nat.div_div_eq_div_mul]
theorem pw_pos {j : Nat} (h : j < 8) : 0 < pw j := by
  have : ∀ j : Fin 8, 0 < pw j.val := by decide
  exact this ⟨j, h⟩
theorem pw_le (j : Nat) : pw j ≤ 128 := Nat.div_le_self _ _
theorem pw_eq {j : Nat} (h : j < 8) : pw j = 2 ^ (7 - j) := by
  have : ∀ j : Fin 8, pw j.val = 2 ^ (7 - j.val) := by decide
  exact this ⟨j, h⟩
theorem quoN {a b : Nat} (ha : a < 9223372036854775808) : IntKind.i64.wrap ((a : Int).tdiv (b : Int)) = ((a / b : Nat) : Int) := by
  have e : (a : Int).tdiv (b : Int) = ((a / b : Nat) : Int) := (Int.ofNat_tdiv a b).symm
  have h0 : a / b < 9223372036854775808 := Nat.lt_of_le_of_lt (Nat.div_le_self a b) ha
  rw [e]
  generalize a / b = x at h0
  exact wrap_i64 _ (by omega) (by omega)
theorem unp_bit8 (l : List UInt8) {k j : Nat} (hk : k < l.length) (hj : j < 8) : IntKind.u8.wrap (((l.getD k 0).toNat / pw j % 2 : Nat) : Int) = ((((unp l).getD (8 * k + j) false).toNat : Nat) : Int) := by
  have h := unp_bit l (i := 8 * k + j) (by omega)
  rw [show (8 * k + j) / 8 = k by omega, show 7 - (8 * k + j) % 8 = 7 - j by omega, ← pw_eq hj] at h
  rw [← h]
  have := bitn_le (unp l) (8 * k + j)
  exact w_u8 (by omega) (by omega)
theorem take_more (l : List UInt8) {m : Nat} (h : m < 8 * l.length) : (unp l).take (m + 1) = (unp l).take m ++ [(unp l).getD m false] := take_getD (by rw [unp_length]; exact h) false
theorem newf_d {l : List UInt8} (hb : Bor B w0 F 1 (.slice A l.length c) l.length (bv l)) (hl : l.length ≤ 1000000) :
    Does Try.prog B w0 94 [.slice A l.length c] F (fun r L => ∃ g A' c', r = .pointer (some ⟨g, 0, none⟩) ∧ L = Rf g A' c' (unp l) 0 F) := by
  have hul := unp_length l
  refine fn_walk Try.func94 40 rfl rfl rfl [(0, .slice A l.length c)] ⟨⟨rfl, rfl⟩, trivial⟩ ?_
  refine vc_seq ?_
  refine vc_region ?_
  refine vl_det (det_assign rfl) rfl ?_
  refine vl_end [(0, _)] ⟨rfl, trivial⟩ ?_
  refine then_next ?_
  refine vc_seq ?_
  refine vc_nil_row 5 1 none ?_
  refine vc_region ?_
  refine vl_det (det_build0 [.slice none 0 0, .int .i64 0] (by kernel_rfl)) rfl ?_
  refine vl_eff (eff_box rfl rfl) rfl ?_
  rintro _ _ ⟨g8, rfl, rfl⟩
  refine vl_det (det_assign rfl) rfl ?_
  refine vl_end [(0, _), (3, _)] ⟨rfl, rfl, trivial⟩ ?_
  refine then_next ?_
  refine vc_seq ?_
  refine vc_seq ?_
  refine vc_region ?_
  refine vl_det (det_assign rfl) rfl ?_
  refine vl_end [(0, _), (3, _), (4, _)] ⟨rfl, rfl, rfl, trivial⟩ ?_
  refine then_next ?_
  refine vc_block ?_
  refine vc_loopJ (fun zf zL zm => ∃ (k : Nat) (A' : Option Addr) (c' : Nat), (k ≤ l.length) ∧ l.length - k = zm ∧ Sub zf [(0, .slice A l.length c), (3, .pointer (some ⟨g8, 0, none⟩)), (4, .int .i64 k)] ∧ Wk zL (Rf g8 A' c' ((unp l).take (8 * k)) 0 F)) _ ⟨0, none, 0, Nat.zero_le _, rfl, ⟨(by first | rfl | exact int_to (by omega) | exact sl_to (by omega)), (by first | rfl | exact int_to (by omega) | exact sl_to (by omega)), (by first | rfl | exact int_to (by omega) | exact sl_to (by omega)), trivial⟩, .refl _⟩ ?_
  rintro _ _ _ ⟨k, A', c', hk, rfl, hs, hp⟩
  refine vc_weaken _ hs (vc_wk hp ?_)
  clear hs hp
  refine vc_seq ?_
  refine vc_seq ?_
  refine vc_region ?_
  refine vl_det (det_move rfl) rfl ?_
  refine vl_det (det_move rfl) rfl ?_
  refine vl_det (det_len_sl Try.underlying41 rfl) rfl ?_
  refine vl_det (det_lss rfl rfl) rfl ?_
  refine vl_end [(0, _), (3, _), (4, _), (12, _)] ⟨rfl, rfl, rfl, rfl, trivial⟩ ?_
  refine then_next ?_
  refine vc_decideU rfl (fun h12 => ?_) (fun h12 => ?_)
  · skip
    refine vc_skip ?_
    refine then_next ?_
    refine vc_seq ?_
    refine vc_block ?_
    refine vc_seq ?_
    refine vc_region ?_
    refine vl_det (det_assign rfl) rfl ?_
    refine vl_end [(0, _), (3, _), (4, _), (5, _)] ⟨rfl, rfl, rfl, rfl, trivial⟩ ?_
    refine then_next ?_
    refine vc_seq ?_
    refine vc_region ?_
    refine vl_det (det_assign rfl) rfl ?_
    refine vl_end [(0, _), (3, _), (4, _), (5, _), (6, _)] ⟨rfl, rfl, rfl, rfl, rfl, trivial⟩ ?_
    refine then_next ?_
    refine vc_block ?_
    refine vc_loopJ (fun zf zL zm => ∃ (j : Nat) (A' : Option Addr) (c' : Nat), (j ≤ 8) ∧ 8 - j = zm ∧ Sub zf [(0, .slice A l.length c), (3, .pointer (some ⟨g8, 0, none⟩)), (4, .int .i64 k), (5, .int .i64 (pw j : Nat)), (6, .int .i64 j)] ∧ Wk zL (Rf g8 A' c' ((unp l).take (8 * k + j)) 0 F)) _ ⟨0, A', c', Nat.zero_le _, rfl, ⟨(by first | rfl | exact int_to (by omega) | exact sl_to (by omega)), (by first | rfl | exact int_to (by omega) | exact sl_to (by omega)), (by first | rfl | exact int_to (by omega) | exact sl_to (by omega)), (by first | rfl | exact int_to (by omega) | exact sl_to (by omega)), (by first | rfl | exact int_to (by omega) | exact sl_to (by omega)), trivial⟩, .refl _⟩ ?_
    rintro _ _ _ ⟨j, A', c', hj, rfl, hs, hp⟩
    refine vc_weaken _ hs (vc_wk hp ?_)
    clear hs hp
    have hpl := pw_le j
    have htl : ((unp l).take (8 * k + j)).length ≤ 8 * k + j := List.length_take_le _ _
    refine vc_seq ?_
    refine vc_seq ?_
    refine vc_region ?_
    refine vl_det (det_move rfl) rfl ?_
    refine vl_det (det_lss rfl rfl) rfl ?_
    refine vl_end [(0, _), (3, _), (4, _), (5, _), (6, _), (16, _)] ⟨rfl, rfl, rfl, rfl, rfl, rfl, trivial⟩ ?_
    refine then_next ?_
    refine vc_decideU rfl (fun h16 => ?_) (fun h16 => ?_)
    · skip
      have hpp := pw_pos (j := j) (by omega)
      have hps := pw_succ j
      have hub := UInt8.toNat_lt (l.getD k 0)
      refine vc_skip ?_
      refine then_next ?_
      refine vc_seq ?_
      refine vc_block ?_
      refine vc_seq ?_
      refine vh_region (S := F) (by kernel_rfl) (by repeat (first | exact List.Sublist.refl _ | exact List.nil_sublist _ | exact List.sublist_append_right _ _ | apply List.Sublist.cons_cons | apply List.Sublist.cons)) ?_
      refine vh_take 0 rfl (by kernel_rfl) (by kernel_rfl) (by kernel_rfl) (det_move rfl) rfl ?_
      refine vh_take 1 rfl (by kernel_rfl) (by kernel_rfl) (by kernel_rfl) (det_move rfl) rfl ?_
      refine vh_take 2 rfl (by kernel_rfl) (by kernel_rfl) (by kernel_rfl) (det_nilCheck rfl) rfl ?_
      refine vh_take 3 rfl (by kernel_rfl) (by kernel_rfl) (by kernel_rfl) (det_fieldAddr_ Try.underlying144 rfl (by kernel_rfl) rfl rfl) rfl ?_
      refine vh_take 5 rfl (by kernel_rfl) (by kernel_rfl) (by kernel_rfl) (det_move rfl) rfl ?_
      refine vh_take 6 rfl (by kernel_rfl) (by kernel_rfl) (by kernel_rfl) (det_move rfl) rfl ?_
      refine vh_take 7 rfl (by kernel_rfl) (by kernel_rfl) (by kernel_rfl) (det_indexAddr (size := 1) Try.underlying41 (by kernel_rfl) rfl rfl rfl (by omega) (by first | (exact Bor.own (by repeat (first | exact List.Mem.head _ | apply List.Mem.tail))) | (repeat (first | assumption | apply Bor.cons)))) rfl ?_
      refine vh_take 8 rfl (by kernel_rfl) (by kernel_rfl) (by kernel_rfl) (det_load_u8 (by kernel_rfl) rfl (by first | (exact Bor.own (by repeat (first | exact List.Mem.head _ | apply List.Mem.tail))) | (repeat (first | assumption | apply Bor.cons))) (by omega)) rfl ?_
      refine vh_take 9 rfl (by kernel_rfl) (by kernel_rfl) (by kernel_rfl) (det_conv Try.underlying5 Try.underlying3 rfl (w_i64 (by omega) (by omega))) rfl ?_
      refine vh_take 10 rfl (by kernel_rfl) (by kernel_rfl) (by kernel_rfl) (det_move rfl) rfl ?_
      refine vh_take 11 rfl (by kernel_rfl) (by kernel_rfl) (by kernel_rfl) (det_quo rfl rfl (by omega) (quoN (by omega))) rfl ?_
      refine vh_take 12 rfl (by kernel_rfl) (by kernel_rfl) (by kernel_rfl) (det_rem rfl rfl (by omega) (tmod2 _)) rfl ?_
      refine vh_take 13 rfl (by kernel_rfl) (by kernel_rfl) (by kernel_rfl) (det_conv Try.underlying3 Try.underlying5 rfl (unp_bit8 l (by omega) (by omega))) rfl ?_
      refine vh_two 4 14 (by kernel_rfl) ?_ ?_
      · skip
        refine st_det rfl .no (det_load_blk (by kernel_rfl) rfl (by repeat (first | exact .hd | apply Sel.tl)) rfl) rfl (by repeat (first | exact List.Sublist.refl _ | exact List.nil_sublist _ | exact List.sublist_append_right _ _ | apply List.Sublist.cons_cons | apply List.Sublist.cons)) ?_
        refine vh_one 14 (by kernel_rfl) ?_
        refine st_eff rfl .no (eff_build_lit slT41 [_] rfl rfl (by first | exact bv_one _ | exact strs_one _ | exact ints_one _ _ | (simp; done) | (simp [Value.oneCell']; done) | assumption) (by omega) (by omega)) rfl (by rintro _ _ ⟨A33, rfl, rfl⟩; exact (by repeat (first | exact List.Sublist.refl _ | exact List.nil_sublist _ | exact List.sublist_append_right _ _ | apply List.Sublist.cons_cons | apply List.Sublist.cons))) ?_
        rintro _ _ ⟨A33, rfl, rfl⟩
        refine vh_one 15 (by kernel_rfl) ?_
        refine st_eff rfl .no (eff_app slT41 rfl (by repeat (first | exact .hd | apply Sel.tl)) rfl (by first | (exact Bor.own (by repeat (first | exact List.Mem.head _ | apply List.Mem.tail))) | (repeat (first | assumption | apply Bor.cons))) (by first | exact bv_one _ | exact strs_one _ | exact ints_one _ _ | (simp; done) | (simp [Value.oneCell']; done) | assumption) (by omega) (by omega)) rfl (by rintro _ _ ⟨A34, c34, rfl, rfl⟩; exact (by repeat (first | exact List.Sublist.refl _ | exact List.nil_sublist _ | exact List.sublist_append_right _ _ | apply List.Sublist.cons_cons | apply List.Sublist.cons))) ?_
        rintro _ _ ⟨A34, c34, rfl, rfl⟩
        refine vh_take 16 rfl (by kernel_rfl) (by kernel_rfl) (by kernel_rfl) (det_nilCheck rfl) rfl ?_
        refine vh_take 17 rfl (by kernel_rfl) (by kernel_rfl) (by kernel_rfl) (det_fieldAddr_ Try.underlying144 rfl (by kernel_rfl) rfl rfl) rfl ?_
        refine vh_one 18 (by kernel_rfl) ?_
        refine st_eff0 rfl .no (eff_store (by kernel_rfl) rfl rfl rfl (by repeat (first | exact .hd | apply Sel.tl)) (by simp)) (by rintro _ _ rfl; exact (by repeat (first | exact List.Sublist.refl _ | exact List.nil_sublist _ | exact List.sublist_append_right _ _ | apply List.Sublist.cons_cons | apply List.Sublist.cons))) ?_
        rintro _ _ rfl
        refine vh_done [(0, _), (3, _), (4, _), (5, _), (6, _)] ⟨rfl, rfl, rfl, rfl, rfl, trivial⟩ (by kernel_rfl) ?_
        refine then_next ?_
        refine vc_region ?_
        refine vl_det (det_move rfl) rfl ?_
        refine vl_det (det_quo rfl rfl (by omega) (quoN (b := 2) (by omega))) rfl ?_
        refine vl_det (det_assign rfl) rfl ?_
        refine vl_end [(0, _), (3, _), (4, _), (5, _), (6, _)] ⟨rfl, rfl, rfl, rfl, rfl, trivial⟩ ?_
        refine in_normal ?_
        refine then_next ?_
        refine vc_region ?_
        refine vl_det (det_move rfl) rfl ?_
        refine vl_det (det_add rfl rfl (w_i64 (by omega) (by omega))) rfl ?_
        refine vl_det (det_assign rfl) rfl ?_
        refine vl_end [(0, _), (3, _), (4, _), (5, _), (6, _)] ⟨rfl, rfl, rfl, rfl, rfl, trivial⟩ ?_
        refine in_loop_ ⟨_, by omega, j + 1, A34, c34, by omega, rfl, ⟨(by first | rfl | exact int_to (by omega) | exact sl_to (by omega)), (by first | rfl | exact int_to (by omega) | exact sl_to (by omega)), (by first | rfl | exact int_to (by omega) | exact sl_to (by omega)), (by first | rfl | exact int_to (by omega) | exact sl_to (by omega)), (by first | rfl | exact int_to (by omega) | exact sl_to (by omega)), trivial⟩, .skip (rf_eq (q := (unp l).take (8 * k + j)) (q' := (unp l).take (8 * k + (j + 1))) (b := (unp l).getD (8 * k + j) false) rfl rfl (take_more l (m := 8 * k + j) (by omega)))⟩
      · skip
        refine st_eff rfl .no (eff_build_lit slT41 [_] rfl rfl (by first | exact bv_one _ | exact strs_one _ | exact ints_one _ _ | (simp; done) | (simp [Value.oneCell']; done) | assumption) (by omega) (by omega)) rfl (by rintro _ _ ⟨A33, rfl, rfl⟩; exact (by repeat (first | exact List.Sublist.refl _ | exact List.nil_sublist _ | exact List.sublist_append_right _ _ | apply List.Sublist.cons_cons | apply List.Sublist.cons))) ?_
        rintro _ _ ⟨A33, rfl, rfl⟩
        refine vh_one 4 (by kernel_rfl) ?_
        refine st_det rfl .no (det_load_blk (by kernel_rfl) rfl (by repeat (first | exact .hd | apply Sel.tl)) rfl) rfl (by repeat (first | exact List.Sublist.refl _ | exact List.nil_sublist _ | exact List.sublist_append_right _ _ | apply List.Sublist.cons_cons | apply List.Sublist.cons)) ?_
        refine vh_one 15 (by kernel_rfl) ?_
        refine st_eff rfl .no (eff_app slT41 rfl (by repeat (first | exact .hd | apply Sel.tl)) rfl (by first | (exact Bor.own (by repeat (first | exact List.Mem.head _ | apply List.Mem.tail))) | (repeat (first | assumption | apply Bor.cons))) (by first | exact bv_one _ | exact strs_one _ | exact ints_one _ _ | (simp; done) | (simp [Value.oneCell']; done) | assumption) (by omega) (by omega)) rfl (by rintro _ _ ⟨A34, c34, rfl, rfl⟩; exact (by repeat (first | exact List.Sublist.refl _ | exact List.nil_sublist _ | exact List.sublist_append_right _ _ | apply List.Sublist.cons_cons | apply List.Sublist.cons))) ?_
        rintro _ _ ⟨A34, c34, rfl, rfl⟩
        refine vh_take 16 rfl (by kernel_rfl) (by kernel_rfl) (by kernel_rfl) (det_nilCheck rfl) rfl ?_
        refine vh_take 17 rfl (by kernel_rfl) (by kernel_rfl) (by kernel_rfl) (det_fieldAddr_ Try.underlying144 rfl (by kernel_rfl) rfl rfl) rfl ?_
        refine vh_one 18 (by kernel_rfl) ?_
        refine st_eff0 rfl .no (eff_store (by kernel_rfl) rfl rfl rfl (by repeat (first | exact .hd | apply Sel.tl)) (by simp)) (by rintro _ _ rfl; exact (by repeat (first | exact List.Sublist.refl _ | exact List.nil_sublist _ | exact List.sublist_append_right _ _ | apply List.Sublist.cons_cons | apply List.Sublist.cons))) ?_
        rintro _ _ rfl
        refine vh_done [(0, _), (3, _), (4, _), (5, _), (6, _)] ⟨rfl, rfl, rfl, rfl, rfl, trivial⟩ (by kernel_rfl) ?_
        refine then_next ?_
        refine vc_region ?_
        refine vl_det (det_move rfl) rfl ?_
        refine vl_det (det_quo rfl rfl (by omega) (quoN (b := 2) (by omega))) rfl ?_
        refine vl_det (det_assign rfl) rfl ?_
        refine vl_end [(0, _), (3, _), (4, _), (5, _), (6, _)] ⟨rfl, rfl, rfl, rfl, rfl, trivial⟩ ?_
        refine in_normal ?_
        refine then_next ?_
        refine vc_region ?_
        refine vl_det (det_move rfl) rfl ?_
        refine vl_det (det_add rfl rfl (w_i64 (by omega) (by omega))) rfl ?_
        refine vl_det (det_assign rfl) rfl ?_
        refine vl_end [(0, _), (3, _), (4, _), (5, _), (6, _)] ⟨rfl, rfl, rfl, rfl, rfl, trivial⟩ ?_
        refine in_loop_ ⟨_, by omega, j + 1, A34, c34, by omega, rfl, ⟨(by first | rfl | exact int_to (by omega) | exact sl_to (by omega)), (by first | rfl | exact int_to (by omega) | exact sl_to (by omega)), (by first | rfl | exact int_to (by omega) | exact sl_to (by omega)), (by first | rfl | exact int_to (by omega) | exact sl_to (by omega)), (by first | rfl | exact int_to (by omega) | exact sl_to (by omega)), trivial⟩, .skip (rf_eq (q := (unp l).take (8 * k + j)) (q' := (unp l).take (8 * k + (j + 1))) (b := (unp l).getD (8 * k + j) false) rfl rfl (take_more l (m := 8 * k + j) (by omega)))⟩
    · skip
      refine vc_exit ?_
      refine then_exit ?_
      refine loop_exit ?_
      refine in_eq ?_
      refine in_normal ?_
      refine then_next ?_
      refine vc_region ?_
      refine vl_det (det_move rfl) rfl ?_
      refine vl_det (det_add rfl rfl (w_i64 (by omega) (by omega))) rfl ?_
      refine vl_det (det_assign rfl) rfl ?_
      refine vl_end [(0, _), (3, _), (4, _)] ⟨rfl, rfl, rfl, trivial⟩ ?_
      refine in_loop_ ⟨_, by omega, k + 1, A', c', by omega, rfl, ⟨(by first | rfl | exact int_to (by omega) | exact sl_to (by omega)), (by first | rfl | exact int_to (by omega) | exact sl_to (by omega)), (by first | rfl | exact int_to (by omega) | exact sl_to (by omega)), trivial⟩, by rw [show j = 8 by omega]; exact .refl _⟩
  · skip
    refine vc_exit ?_
    refine then_exit ?_
    refine loop_exit ?_
    refine in_eq ?_
    refine then_next ?_
    refine vc_seq ?_
    refine vc_region ?_
    refine vl_det (det_move rfl) rfl ?_
    refine vl_det (det_assign rfl) rfl ?_
    refine vl_end [(2, _)] ⟨rfl, trivial⟩ ?_
    refine then_next ?_
    refine vc_ret ?_
    refine ret_wk (L' := Rf g8 A' c' (unp l) 0 F) (by rw [List.take_of_length_le (show (unp l).length ≤ 8 * k by omega)]; exact .refl _) ?_
    refine ret1 rfl rfl ?_
    exact ⟨g8, A', c', rfl, rfl⟩
theorem rbleft_d (q : List Bool) (p : Nat) (hp : p ≤ q.length) (hq : q.length ≤ 8000000) : Does Try.prog B w0 126 [.pointer (some ⟨g, 0, none⟩)] (Rf g A c q p F) (fun r L => r = .int .i64 ((q.length : Int) - p) ∧ L = Rf g A c q p F) := by
  refine fn_walk Try.func126 13 rfl rfl rfl [(0, .pointer (some ⟨g, 0, none⟩))] ⟨⟨rfl, rfl⟩, trivial⟩ ?_
  refine vc_seq ?_
  refine vc_region ?_
  refine vl_det (det_assign rfl) rfl ?_
  refine vl_end [(0, _)] ⟨rfl, trivial⟩ ?_
  refine then_next ?_
  refine vc_seq ?_
  refine vq_region (by kernel_rfl) (by kernel_rfl) ?_
  refine vq_det (det_move rfl) rfl ?_
  refine vq_det (det_nilCheck rfl) rfl ?_
  refine vq_det (det_fieldAddr_ Try.underlying144 rfl (by kernel_rfl) rfl rfl) rfl ?_
  refine vq_det (det_load_blk (by kernel_rfl) rfl (by repeat (first | exact .hd | apply Sel.tl)) rfl) rfl ?_
  refine vq_det (det_len_sl Try.underlying41 rfl) rfl ?_
  refine vq_det (det_move rfl) rfl ?_
  refine vq_det (det_nilCheck rfl) rfl ?_
  refine vq_det (det_fieldAddr_ Try.underlying144 rfl (by kernel_rfl) rfl rfl) rfl ?_
  refine vq_det (det_load_blk (by kernel_rfl) rfl (by repeat (first | exact .hd | apply Sel.tl)) rfl) rfl ?_
  refine vq_det (det_sub rfl rfl (w_i64 (by omega) (by omega))) rfl ?_
  refine vq_det (det_assign rfl) rfl ?_
  refine vq_end [(2, _)] ⟨rfl, trivial⟩ ?_
  refine then_next ?_
  refine vc_ret ?_
  refine ret1 rfl rfl ?_
  exact ⟨rfl, rfl⟩
theorem dblm_u64 {x m : Nat} (hx : x < 2 ^ m) (hm : m < 64) : IntKind.u64.wrap (2 * (x : Int)) = ((2 * x : Nat) : Int) := by
  have h : x < 2 ^ 63 := Nat.lt_of_lt_of_le hx (Nat.pow_le_pow_right (by omega) (by omega))
  rw [w_u64 (by omega) (by omega)]; omega
theorem addb_u64 {x m b : Nat} (hx : x < 2 ^ m) (hm : m < 64) (hb : b ≤ 1) : IntKind.u64.wrap (((2 * x : Nat) : Int) + (b : Int)) = ((2 * x + b : Nat) : Int) := by
  have h : x < 2 ^ 63 := Nat.lt_of_lt_of_le hx (Nat.pow_le_pow_right (by omega) (by omega))
  rw [w_u64 (by omega) (by omega)]; omega
theorem rpeek_d (q : List Bool) (p : Nat) (hp : p ≤ q.length) (hq : q.length ≤ 8000000) (n : Int) (h1 : -9223372036854775808 ≤ n) (h2 : n ≤ 9223372036854775807) :
    Does Try.prog B w0 127 [.pointer (some ⟨g, 0, none⟩), .int .i64 n] (Rf g A c q p F) (fun r L => r = .tuple #[.int .u64 (pkV q p n), .int .i64 (pkN q p n)] ∧ L = Rf g A c q p F) := by
  have hrl := ref_length q
  refine fn_walk Try.func127 45 rfl rfl rfl [(0, .pointer (some ⟨g, 0, none⟩)), (1, .int .i64 n)] ⟨⟨rfl, rfl⟩, ⟨rfl, rfl⟩, trivial⟩ ?_
  refine vc_seq ?_
  refine vc_region ?_
  refine vl_det (det_assign rfl) rfl ?_
  refine vl_det (det_assign rfl) rfl ?_
  refine vl_end [(0, _), (1, _)] ⟨rfl, rfl, trivial⟩ ?_
  refine then_next ?_
  refine vc_seq ?_
  refine vc_seq ?_
  refine vc_region ?_
  refine vl_cut 6 14 [(0, _), (1, _)] (n < 0 ∨ 64 < n) ⟨rfl, rfl, trivial⟩ ?_ ?_
  · skip
    refine vl_det (det_move rfl) rfl ?_
    refine vl_det (det_lss rfl rfl) rfl ?_
    refine vl_det (det_move rfl) rfl ?_
    refine vl_guardn rfl rfl rfl (fun h11 => ?_) (fun h11 => ?_)
    · skip
      refine vl_det (det_move rfl) rfl ?_
      refine vl_guard_t rfl rfl ?_
      refine vl_det (det_gtr rfl rfl) rfl ?_
      refine vl_det (det_pick_f rfl rfl) rfl ?_
      exact vl_cut_end ⟨rfl, rfl, trivial⟩ (by first | rfl | exact bool_to_t (by first | omega | (exact ⟨fun h => by omega, fun h => by omega⟩)) | exact bool_to_f (by first | omega | (exact ⟨fun h => by omega, fun h => by omega⟩)) | exact bool_to (by first | omega | (exact ⟨fun h => by omega, fun h => by omega⟩)) | exact bool_to_b (by first | omega | (exact ⟨fun h => by omega, fun h => by omega⟩)))
    · skip
      refine vl_guard_f rfl rfl rfl rfl ?_
      refine vl_det (det_pick_t rfl rfl) rfl ?_
      exact vl_cut_end ⟨rfl, rfl, trivial⟩ (by first | rfl | exact bool_to_t (by first | omega | (exact ⟨fun h => by omega, fun h => by omega⟩)) | exact bool_to_f (by first | omega | (exact ⟨fun h => by omega, fun h => by omega⟩)) | exact bool_to (by first | omega | (exact ⟨fun h => by omega, fun h => by omega⟩)) | exact bool_to_b (by first | omega | (exact ⟨fun h => by omega, fun h => by omega⟩)))
  · skip
    refine vl_end [(0, _), (1, _), (14, _)] ⟨rfl, rfl, rfl, trivial⟩ ?_
    refine then_next ?_
    refine vc_decideU rfl (fun h14 => ?_) (fun h14 => ?_)
    · skip
      refine vc_seq ?_
      refine vc_region ?_
      refine vl_det (det_assign rfl) rfl ?_
      refine vl_det (det_assign rfl) rfl ?_
      refine vl_end [(4, _), (5, _)] ⟨rfl, rfl, trivial⟩ ?_
      refine then_next ?_
      refine vc_ret ?_
      refine then_ret ?_
      refine ret2 rfl rfl rfl ?_
      simp only [pkV, pkN, if_pos h14]; exact ⟨by first | rfl | trivial, by first | rfl | trivial⟩
    · skip
      obtain ⟨m, rfl⟩ := Int.eq_ofNat_of_zero_le (show 0 ≤ n by omega)
      refine vc_skip ?_
      refine then_next ?_
      refine vc_seq ?_
      refine vc_region ?_
      refine vl_det (det_assign rfl) rfl ?_
      refine vl_det (det_assign rfl) rfl ?_
      refine vl_end [(0, _), (1, _), (6, _), (7, _)] ⟨rfl, rfl, rfl, rfl, trivial⟩ ?_
      refine then_next ?_
      refine vc_seq ?_
      refine vc_seq ?_
      refine vc_region ?_
      refine vl_det (det_assign rfl) rfl ?_
      refine vl_end [(0, _), (1, _), (6, _), (7, _), (8, _)] ⟨rfl, rfl, rfl, rfl, rfl, trivial⟩ ?_
      refine then_next ?_
      refine vc_block ?_
      refine vc_loopJ (fun zf zL zm => ∃ (k : Nat), (k ≤ m) ∧ m - k = zm ∧ Sub zf [(0, .pointer (some ⟨g, 0, none⟩)), (1, .int .i64 m), (6, .int .u64 (part q p k)), (7, .int .i64 (min (k : Int) ((q.length : Int) - p))), (8, .int .i64 k)] ∧ Wk zL (Rf g A c q p F)) _ ⟨0, Nat.zero_le _, rfl, ⟨(by first | rfl | exact int_to (by omega) | exact sl_to (by omega)), (by first | rfl | exact int_to (by omega) | exact sl_to (by omega)), (by first | rfl | exact int_to (by omega) | exact sl_to (by omega)), (by first | rfl | exact int_to (by omega) | exact sl_to (by omega)), (by first | rfl | exact int_to (by omega) | exact sl_to (by omega)), trivial⟩, .refl _⟩ ?_
      rintro _ _ _ ⟨k, hk, rfl, hs, hp⟩
      refine vc_weaken _ hs (vc_wk hp ?_)
      clear hs hp
      have hlt := part_lt q p k
      have hble := bitn_le q (p + k)
      have hps : part q p (k + 1) = 2 * part q p k + bitn q (p + k) := rfl
      refine vc_seq ?_
      refine vc_seq ?_
      refine vc_region ?_
      refine vl_det (det_move rfl) rfl ?_
      refine vl_det (det_move rfl) rfl ?_
      refine vl_det (det_lss rfl rfl) rfl ?_
      refine vl_end [(0, _), (1, _), (6, _), (7, _), (8, _), (17, _)] ⟨rfl, rfl, rfl, rfl, rfl, rfl, trivial⟩ ?_
      refine then_next ?_
      refine vc_decideU rfl (fun h17 => ?_) (fun h17 => ?_)
      · skip
        refine vc_skip ?_
        refine then_next ?_
        refine vc_seq ?_
        refine vc_block ?_
        refine vc_seq ?_
        refine vc_region ?_
        refine vl_det (det_move rfl) rfl ?_
        refine vl_det (det_mul rfl rfl (dblm_u64 hlt (by omega))) rfl ?_
        refine vl_det (det_assign rfl) rfl ?_
        refine vl_end [(0, _), (1, _), (6, _), (7, _), (8, _)] ⟨rfl, rfl, rfl, rfl, rfl, trivial⟩ ?_
        refine then_next ?_
        refine vc_seq ?_
        refine vc_region ?_
        refine vl_det (det_move rfl) rfl ?_
        refine vl_det (det_move rfl) rfl ?_
        refine vl_call co126 rfl (rbleft_d q p hp hq) rfl ?_
        rintro _ _ ⟨rfl, hLL⟩
        obtain rfl := hLL.symm
        refine vl_det (det_lss rfl rfl) rfl ?_
        refine vl_end [(0, _), (1, _), (6, _), (7, _), (8, _), (25, _)] ⟨rfl, rfl, rfl, rfl, rfl, rfl, trivial⟩ ?_
        refine then_next ?_
        refine vc_decideU rfl (fun h25 => ?_) (fun h25 => ?_)
        · skip
          refine vc_seq ?_
          refine vq_region (by kernel_rfl) (by kernel_rfl) ?_
          refine vq_det (det_move rfl) rfl ?_
          refine vq_det (det_move rfl) rfl ?_
          refine vq_det (det_nilCheck rfl) rfl ?_
          refine vq_det (det_fieldAddr_ Try.underlying144 rfl (by kernel_rfl) rfl rfl) rfl ?_
          refine vq_det (det_load_blk (by kernel_rfl) rfl (by repeat (first | exact .hd | apply Sel.tl)) rfl) rfl ?_
          refine vq_det (det_move rfl) rfl ?_
          refine vq_det (det_nilCheck rfl) rfl ?_
          refine vq_det (det_fieldAddr_ Try.underlying144 rfl (by kernel_rfl) rfl rfl) rfl ?_
          refine vq_det (det_load_blk (by kernel_rfl) rfl (by repeat (first | exact .hd | apply Sel.tl)) rfl) rfl ?_
          refine vq_det (det_move rfl) rfl ?_
          refine vq_det (det_add rfl rfl (w_i64 (by omega) (by omega))) rfl ?_
          refine vq_det (det_indexAddr (i := p + k) Try.underlying41 (by kernel_rfl) rfl rfl rfl (by omega) (by first | (exact Bor.own (by repeat (first | exact List.Mem.head _ | apply List.Mem.tail))) | (repeat (first | assumption | apply Bor.cons)))) rfl ?_
          refine vq_det (det_load_u8 (by kernel_rfl) rfl (by first | (exact Bor.own (by repeat (first | exact List.Mem.head _ | apply List.Mem.tail))) | (repeat (first | assumption | apply Bor.cons))) (by omega)) rfl ?_
          rw [ref_get _ (by omega)]
          refine vq_det (det_conv Try.underlying5 Try.underlying33 rfl (w_u64 (by omega) (by omega))) rfl ?_
          refine vq_det (det_add rfl rfl (addb_u64 hlt (by omega) hble)) rfl ?_
          refine vq_det (det_assign rfl) rfl ?_
          refine vq_end [(0, _), (1, _), (6, _), (7, _), (8, _)] ⟨rfl, rfl, rfl, rfl, rfl, trivial⟩ ?_
          refine then_next ?_
          refine vc_region ?_
          refine vl_det (det_move rfl) rfl ?_
          refine vl_det (det_add rfl rfl (w_i64 (by omega) (by omega))) rfl ?_
          refine vl_det (det_assign rfl) rfl ?_
          refine vl_end [(0, _), (1, _), (6, _), (7, _), (8, _)] ⟨rfl, rfl, rfl, rfl, rfl, trivial⟩ ?_
          refine in_normal ?_
          refine then_next ?_
          refine vc_region ?_
          refine vl_det (det_move rfl) rfl ?_
          refine vl_det (det_add rfl rfl (w_i64 (by omega) (by omega))) rfl ?_
          refine vl_det (det_assign rfl) rfl ?_
          refine vl_end [(0, _), (1, _), (6, _), (7, _), (8, _)] ⟨rfl, rfl, rfl, rfl, rfl, trivial⟩ ?_
          refine in_loop_ ⟨_, by omega, k + 1, by omega, rfl, ⟨(by first | rfl | exact int_to (by omega) | exact sl_to (by omega)), (by first | rfl | exact int_to (by omega) | exact sl_to (by omega)), (by first | rfl | exact int_to (by omega) | exact sl_to (by omega)), (by first | rfl | exact int_to (by omega) | exact sl_to (by omega)), (by first | rfl | exact int_to (by omega) | exact sl_to (by omega)), trivial⟩, .refl _⟩
        · skip
          have h0 := bitn_out q (i := p + k) (by omega)
          refine vc_skip ?_
          refine in_normal ?_
          refine then_next ?_
          refine vc_region ?_
          refine vl_det (det_move rfl) rfl ?_
          refine vl_det (det_add rfl rfl (w_i64 (by omega) (by omega))) rfl ?_
          refine vl_det (det_assign rfl) rfl ?_
          refine vl_end [(0, _), (1, _), (6, _), (7, _), (8, _)] ⟨rfl, rfl, rfl, rfl, rfl, trivial⟩ ?_
          refine in_loop_ ⟨_, by omega, k + 1, by omega, rfl, ⟨(by first | rfl | exact int_to (by omega) | exact sl_to (by omega)), (by first | rfl | exact int_to (by omega) | exact sl_to (by omega)), (by first | rfl | exact int_to (by omega) | exact sl_to (by omega)), (by first | rfl | exact int_to (by omega) | exact sl_to (by omega)), (by first | rfl | exact int_to (by omega) | exact sl_to (by omega)), trivial⟩, .refl _⟩
      · skip
        refine vc_exit ?_
        refine then_exit ?_
        refine loop_exit ?_
        refine in_eq ?_
        refine then_next ?_
        refine vc_seq ?_
        refine vc_region ?_
        refine vl_det (det_move rfl) rfl ?_
        refine vl_det (det_move rfl) rfl ?_
        refine vl_det (det_assign rfl) rfl ?_
        refine vl_det (det_assign rfl) rfl ?_
        refine vl_end [(4, _), (5, _)] ⟨rfl, rfl, trivial⟩ ?_
        refine then_next ?_
        refine vc_ret ?_
        refine ret2 rfl rfl rfl ?_
        have hkm : m = k := by omega
        subst hkm
        simp only [pkV, pkN, if_neg h14]; exact ⟨by first | rfl | trivial, by first | rfl | trivial⟩
theorem rget_d (q : List Bool) (p : Nat) (hp : p ≤ q.length) (hq : q.length ≤ 8000000) (n : Int) (h1 : -9223372036854775808 ≤ n) (h2 : n ≤ 9223372036854775807) :
    Does Try.prog B w0 95 [.pointer (some ⟨g, 0, none⟩), .int .i64 n] (Rf g A c q p F) (fun r L => r = .tuple #[.int .u64 (gtV q p n), .int .i64 (gtE q p n)] ∧ L = Rf g A c q (gtP q p n) F) := by
  refine fn_walk Try.func95 34 rfl rfl rfl [(0, .pointer (some ⟨g, 0, none⟩)), (1, .int .i64 n)] ⟨⟨rfl, rfl⟩, ⟨rfl, rfl⟩, trivial⟩ ?_
  refine vc_seq ?_
  refine vc_region ?_
  refine vl_det (det_assign rfl) rfl ?_
  refine vl_det (det_assign rfl) rfl ?_
  refine vl_end [(0, _), (1, _)] ⟨rfl, rfl, trivial⟩ ?_
  refine then_next ?_
  refine vc_seq ?_
  refine vc_seq ?_
  refine vc_region ?_
  refine vl_cut 6 13 [(0, _), (1, _)] (n < 0 ∨ 64 < n) ⟨rfl, rfl, trivial⟩ ?_ ?_
  · skip
    refine vl_det (det_move rfl) rfl ?_
    refine vl_det (det_lss rfl rfl) rfl ?_
    refine vl_det (det_move rfl) rfl ?_
    refine vl_guardn rfl rfl rfl (fun h10 => ?_) (fun h10 => ?_)
    · skip
      refine vl_det (det_move rfl) rfl ?_
      refine vl_guard_t rfl rfl ?_
      refine vl_det (det_gtr rfl rfl) rfl ?_
      refine vl_det (det_pick_f rfl rfl) rfl ?_
      exact vl_cut_end ⟨rfl, rfl, trivial⟩ (by first | rfl | exact bool_to_t (by first | omega | (exact ⟨fun h => by omega, fun h => by omega⟩)) | exact bool_to_f (by first | omega | (exact ⟨fun h => by omega, fun h => by omega⟩)) | exact bool_to (by first | omega | (exact ⟨fun h => by omega, fun h => by omega⟩)) | exact bool_to_b (by first | omega | (exact ⟨fun h => by omega, fun h => by omega⟩)))
    · skip
      refine vl_guard_f rfl rfl rfl rfl ?_
      refine vl_det (det_pick_t rfl rfl) rfl ?_
      exact vl_cut_end ⟨rfl, rfl, trivial⟩ (by first | rfl | exact bool_to_t (by first | omega | (exact ⟨fun h => by omega, fun h => by omega⟩)) | exact bool_to_f (by first | omega | (exact ⟨fun h => by omega, fun h => by omega⟩)) | exact bool_to (by first | omega | (exact ⟨fun h => by omega, fun h => by omega⟩)) | exact bool_to_b (by first | omega | (exact ⟨fun h => by omega, fun h => by omega⟩)))
  · skip
    refine vl_end [(0, _), (1, _), (13, _)] ⟨rfl, rfl, rfl, trivial⟩ ?_
    refine then_next ?_
    refine vc_decideU rfl (fun h13 => ?_) (fun h13 => ?_)
    · skip
      refine vc_seq ?_
      refine vc_region ?_
      refine vl_det (det_assign rfl) rfl ?_
      refine vl_det (det_assign rfl) rfl ?_
      refine vl_end [(4, _), (5, _)] ⟨rfl, rfl, trivial⟩ ?_
      refine then_next ?_
      refine vc_ret ?_
      refine then_ret ?_
      refine ret2 rfl rfl rfl ?_
      simp only [gtV, gtE, gtP, if_pos h13]; exact ⟨by first | rfl | trivial, by first | rfl | trivial⟩
    · skip
      refine vc_skip ?_
      refine then_next ?_
      refine vc_seq ?_
      refine vc_seq ?_
      refine vc_region ?_
      refine vl_cut 4 17 [(0, _), (1, _)] ((q.length : Int) < p + n) ⟨rfl, rfl, trivial⟩ ?_ ?_
      · skip
        refine vl_det (det_move rfl) rfl ?_
        refine vl_det (det_move rfl) rfl ?_
        refine vl_call co126 rfl (rbleft_d q p hp hq) rfl ?_
        rintro _ _ ⟨rfl, hLL⟩
        obtain rfl := hLL.symm
        refine vl_det (det_gtr rfl rfl) rfl ?_
        exact vl_cut_end ⟨rfl, rfl, trivial⟩ (by first | rfl | exact bool_to_t (by first | omega | (exact ⟨fun h => by omega, fun h => by omega⟩)) | exact bool_to_f (by first | omega | (exact ⟨fun h => by omega, fun h => by omega⟩)) | exact bool_to (by first | omega | (exact ⟨fun h => by omega, fun h => by omega⟩)) | exact bool_to_b (by first | omega | (exact ⟨fun h => by omega, fun h => by omega⟩)))
      · skip
        refine vl_end [(0, _), (1, _), (17, _)] ⟨rfl, rfl, rfl, trivial⟩ ?_
        refine then_next ?_
        refine vc_decideU rfl (fun h17 => ?_) (fun h17 => ?_)
        · skip
          refine vc_seq ?_
          refine vc_region ?_
          refine vl_det (det_assign rfl) rfl ?_
          refine vl_det (det_assign rfl) rfl ?_
          refine vl_end [(4, _), (5, _)] ⟨rfl, rfl, trivial⟩ ?_
          refine then_next ?_
          refine vc_ret ?_
          refine then_ret ?_
          refine ret2 rfl rfl rfl ?_
          simp only [gtV, gtE, gtP, if_neg h13, if_pos h17]; exact ⟨by first | rfl | trivial, by first | rfl | trivial⟩
        · skip
          refine vc_skip ?_
          refine then_next ?_
          refine vc_seq ?_
          refine vc_region ?_
          refine vl_det (det_move rfl) rfl ?_
          refine vl_det (det_move rfl) rfl ?_
          refine vl_call co127 rfl (rpeek_d q p hp hq n h1 h2) rfl ?_
          rintro _ _ ⟨rfl, hLL⟩
          obtain rfl := hLL.symm
          refine vl_det (det_move rfl) rfl ?_
          refine vl_det (det_extract rfl rfl) rfl ?_
          refine vl_det (det_extract rfl rfl) rfl ?_
          refine vl_det (det_assign rfl) rfl ?_
          refine vl_det (det_assign rfl) rfl ?_
          refine vl_end [(0, _), (1, _), (6, _)] ⟨rfl, rfl, rfl, trivial⟩ ?_
          refine then_next ?_
          refine vc_seq ?_
          refine vc_region ?_
          refine vl_det (det_move rfl) rfl ?_
          refine vl_det (det_move rfl) rfl ?_
          refine vl_det (det_nilCheck rfl) rfl ?_
          refine vl_det (det_fieldAddr_ Try.underlying144 rfl (by kernel_rfl) rfl rfl) rfl ?_
          refine vl_det (det_load_blk (by kernel_rfl) rfl (by repeat (first | exact .hd | apply Sel.tl)) rfl) rfl ?_
          refine vl_det (det_move rfl) rfl ?_
          refine vl_det (det_add rfl rfl (w_i64 (by omega) (by omega))) rfl ?_
          refine vl_det (det_nilCheck rfl) rfl ?_
          refine vl_det (det_fieldAddr_ Try.underlying144 rfl (by kernel_rfl) rfl rfl) rfl ?_
          refine vl_eff0 (eff_store (by kernel_rfl) rfl rfl rfl (by repeat (first | exact .hd | apply Sel.tl)) (by simp)) ?_
          rintro _ _ rfl
          refine vl_end [(6, _)] ⟨rfl, trivial⟩ ?_
          refine then_next ?_
          refine vc_seq ?_
          refine vc_region ?_
          refine vl_det (det_move rfl) rfl ?_
          refine vl_det (det_assign rfl) rfl ?_
          refine vl_det (det_assign rfl) rfl ?_
          refine vl_end [(4, _), (5, _)] ⟨rfl, rfl, trivial⟩ ?_
          refine then_next ?_
          refine vc_ret ?_
          refine ret_wk (L' := Rf g A c q (gtP q p n) F) (wk_blk (by simp only [gtP, if_neg h13, if_neg h17]; refine rf_at _ (?_ : _ = _); omega) (.refl _)) ?_
          refine ret2 rfl rfl rfl ?_
          simp only [gtV, gtE, pkV, if_neg h13, if_neg h17]; exact ⟨by first | rfl | trivial, by first | rfl | trivial⟩
theorem runaryr_d (q : List Bool) (p : Nat) (hp : p ≤ q.length) (hq : q.length ≤ 8000000) :
    Does Try.prog B w0 96 [.pointer (some ⟨g, 0, none⟩)] (Rf g A c q p F) (fun r L => r = .tuple #[.int .i64 (unV q p), .int .i64 (unR q p)] ∧ L = Rf g A c q (unP q p) F) := by
  have hrl := ref_length q
  refine fn_walk Try.func96 43 rfl rfl rfl [(0, .pointer (some ⟨g, 0, none⟩))] ⟨⟨rfl, rfl⟩, trivial⟩ ?_
  refine vc_seq ?_
  refine vc_region ?_
  refine vl_det (det_assign rfl) rfl ?_
  refine vl_det (det_assign rfl) rfl ?_
  refine vl_end [(0, _)] ⟨rfl, trivial⟩ ?_
  refine then_next ?_
  refine vc_seq ?_
  refine vc_seq ?_
  refine vc_region ?_
  refine vl_det (det_assign rfl) rfl ?_
  refine vl_end [(0, _), (4, _)] ⟨rfl, rfl, trivial⟩ ?_
  refine then_next ?_
  refine vc_block ?_
  refine vc_loopJ (fun zf zL zm => ∃ (k : Nat), (p + k ≤ q.length ∧ Z q p = Z q (p + k)) ∧ q.length - (p + k) = zm ∧ Sub zf [(0, .pointer (some ⟨g, 0, none⟩)), (4, .int .i64 k)] ∧ Wk zL (Rf g A c q p F)) _ ⟨0, ⟨hp, rfl⟩, rfl, ⟨(by first | rfl | exact int_to (by omega) | exact sl_to (by omega)), (by first | rfl | exact int_to (by omega) | exact sl_to (by omega)), trivial⟩, .refl _⟩ ?_
  rintro _ _ _ ⟨k, ⟨hk, hz⟩, rfl, hs, hp⟩
  refine vc_weaken _ hs (vc_wk hp ?_)
  clear hs hp
  have hble := bitn_le q (p + k)
  refine vc_seq ?_
  refine vc_seq ?_
  refine vq_region (by kernel_rfl) (by kernel_rfl) ?_
  refine vq_det (det_move rfl) rfl ?_
  refine vq_det (det_nilCheck rfl) rfl ?_
  refine vq_det (det_fieldAddr_ Try.underlying144 rfl (by kernel_rfl) rfl rfl) rfl ?_
  refine vq_det (det_load_blk (by kernel_rfl) rfl (by repeat (first | exact .hd | apply Sel.tl)) rfl) rfl ?_
  refine vq_det (det_move rfl) rfl ?_
  refine vq_det (det_add rfl rfl (w_i64 (by omega) (by omega))) rfl ?_
  refine vq_det (det_move rfl) rfl ?_
  refine vq_det (det_nilCheck rfl) rfl ?_
  refine vq_det (det_fieldAddr_ Try.underlying144 rfl (by kernel_rfl) rfl rfl) rfl ?_
  refine vq_det (det_load_blk (by kernel_rfl) rfl (by repeat (first | exact .hd | apply Sel.tl)) rfl) rfl ?_
  refine vq_det (det_len_sl Try.underlying41 rfl) rfl ?_
  refine vq_det (det_lss rfl rfl) rfl ?_
  refine vq_end [(0, _), (4, _), (16, _)] ⟨rfl, rfl, rfl, trivial⟩ ?_
  refine then_next ?_
  refine vc_decideU rfl (fun h16 => ?_) (fun h16 => ?_)
  · skip
    refine vc_skip ?_
    refine then_next ?_
    refine vc_seq ?_
    refine vc_block ?_
    refine vc_seq ?_
    refine vq_region (by kernel_rfl) (by kernel_rfl) ?_
    refine vq_det (det_move rfl) rfl ?_
    refine vq_det (det_nilCheck rfl) rfl ?_
    refine vq_det (det_fieldAddr_ Try.underlying144 rfl (by kernel_rfl) rfl rfl) rfl ?_
    refine vq_det (det_load_blk (by kernel_rfl) rfl (by repeat (first | exact .hd | apply Sel.tl)) rfl) rfl ?_
    refine vq_det (det_move rfl) rfl ?_
    refine vq_det (det_nilCheck rfl) rfl ?_
    refine vq_det (det_fieldAddr_ Try.underlying144 rfl (by kernel_rfl) rfl rfl) rfl ?_
    refine vq_det (det_load_blk (by kernel_rfl) rfl (by repeat (first | exact .hd | apply Sel.tl)) rfl) rfl ?_
    refine vq_det (det_move rfl) rfl ?_
    refine vq_det (det_add rfl rfl (w_i64 (by omega) (by omega))) rfl ?_
    refine vq_det (det_indexAddr (i := p + k) Try.underlying41 (by kernel_rfl) rfl rfl rfl (by omega) (by first | (exact Bor.own (by repeat (first | exact List.Mem.head _ | apply List.Mem.tail))) | (repeat (first | assumption | apply Bor.cons)))) rfl ?_
    refine vq_det (det_load_u8 (by kernel_rfl) rfl (by first | (exact Bor.own (by repeat (first | exact List.Mem.head _ | apply List.Mem.tail))) | (repeat (first | assumption | apply Bor.cons))) (by omega)) rfl ?_
    rw [ref_get _ (by omega)]
    refine vq_det (det_eql rfl rfl) rfl ?_
    refine vq_end [(0, _), (4, _), (31, _)] ⟨rfl, rfl, rfl, trivial⟩ ?_
    refine then_next ?_
    refine vc_decideU rfl (fun h31 => ?_) (fun h31 => ?_)
    · skip
      have hb1 : bitn q (p + k) = 1 := by omega
      have hzk := z_hit hb1 (by omega)
      have hzg := zp_ge q p
      have hzl : Z q p < q.length := by omega
      refine vc_seq ?_
      refine vc_region ?_
      refine vl_det (det_move rfl) rfl ?_
      refine vl_det (det_move rfl) rfl ?_
      refine vl_det (det_nilCheck rfl) rfl ?_
      refine vl_det (det_fieldAddr_ Try.underlying144 rfl (by kernel_rfl) rfl rfl) rfl ?_
      refine vl_det (det_load_blk (by kernel_rfl) rfl (by repeat (first | exact .hd | apply Sel.tl)) rfl) rfl ?_
      refine vl_det (det_move rfl) rfl ?_
      refine vl_det (det_add rfl rfl (w_i64 (by omega) (by omega))) rfl ?_
      refine vl_det (det_add rfl rfl (w_i64 (by omega) (by omega))) rfl ?_
      refine vl_det (det_nilCheck rfl) rfl ?_
      refine vl_det (det_fieldAddr_ Try.underlying144 rfl (by kernel_rfl) rfl rfl) rfl ?_
      refine vl_eff0 (eff_store (by kernel_rfl) rfl rfl rfl (by repeat (first | exact .hd | apply Sel.tl)) (by simp)) ?_
      rintro _ _ rfl
      refine vl_end [(4, _)] ⟨rfl, trivial⟩ ?_
      refine then_next ?_
      refine vc_seq ?_
      refine vc_region ?_
      refine vl_det (det_move rfl) rfl ?_
      refine vl_det (det_assign rfl) rfl ?_
      refine vl_det (det_assign rfl) rfl ?_
      refine vl_end [(2, _), (3, _)] ⟨rfl, rfl, trivial⟩ ?_
      refine then_next ?_
      refine vc_ret ?_
      refine in_ret ?_
      refine then_ret ?_
      refine loop_ret ?_
      refine in_ret ?_
      refine then_ret ?_
      refine ret_wk (L' := Rf g A c q (unP q p) F) (wk_blk (by simp only [unP, if_pos hzl]; refine rf_at _ (?_ : _ = _); omega) (.refl _)) ?_
      refine ret2 rfl rfl rfl ?_
      simp only [unV, unR, if_pos hzl]; exact ⟨congrArg (fun x => Value.tuple #[.int .i64 x, .int .i64 0]) (by omega), trivial⟩
    · skip
      refine vc_skip ?_
      refine in_normal ?_
      refine then_next ?_
      refine vc_region ?_
      refine vl_det (det_move rfl) rfl ?_
      refine vl_det (det_add rfl rfl (w_i64 (by omega) (by omega))) rfl ?_
      refine vl_det (det_assign rfl) rfl ?_
      refine vl_end [(0, _), (4, _)] ⟨rfl, rfl, trivial⟩ ?_
      refine in_loop_ ⟨_, by omega, k + 1, ⟨by omega, by rw [hz]; exact z_step (by omega) (by omega)⟩, rfl, ⟨(by first | rfl | exact int_to (by omega) | exact sl_to (by omega)), (by first | rfl | exact int_to (by omega) | exact sl_to (by omega)), trivial⟩, .refl _⟩
  · skip
    refine vc_exit ?_
    refine then_exit ?_
    refine loop_exit ?_
    refine in_eq ?_
    refine then_next ?_
    refine vc_seq ?_
    refine vc_region ?_
    refine vl_det (det_assign rfl) rfl ?_
    refine vl_det (det_assign rfl) rfl ?_
    refine vl_end [(2, _), (3, _)] ⟨rfl, rfl, trivial⟩ ?_
    refine then_next ?_
    refine vc_ret ?_
    refine ret2 rfl rfl rfl ?_
    have hzl : ¬ Z q p < q.length := by have := z_end (q := q) (k := p + k) (by omega); omega
    simp only [unV, unR, unP, if_neg hzl]; exact ⟨by first | rfl | trivial, by first | rfl | trivial⟩
end Go.Proofs.Ytpamjobiohbibaa
namespace Go.Proofs.Ytpamjobiohbibaa
open Go.RowKit
set_option linter.unusedVariables false
theorem rscan_step (m k M : Nat) (u : UInt8) (hk : k ≤ 9) (hm : m < 128 ^ k) (h9 : k = 9 → u.toNat = 1) (hM : M = 128 ^ k) :
    IntKind.u64.wrap ((m : Int) + IntKind.u64.wrap ((u.toNat : Int) % 128 * M)) = ((m + u.toNat % 128 * 128 ^ k : Nat) : Int) ∧
      (k < 9 → m + u.toNat % 128 * 128 ^ k < 128 ^ (k + 1)) ∧ (k < 9 → IntKind.u64.wrap ((M : Int) * 128) = ((128 ^ (k + 1) : Nat) : Int)) := by
  have hst := scan_step m k u hk hm h9
  refine ⟨?_, hst.2.1, fun h => ?_⟩
  · have e : (u.toNat : Int) % 128 * M = ((u.toNat % 128 * 128 ^ k : Nat) : Int) := by rw [hM, Int.natCast_mul]; rfl
    have hlt := hst.2.2
    generalize hq : u.toNat % 128 * 128 ^ k = q at *
    rw [e, wrap_u64 _ (by omega), ← Int.natCast_add, wrap_u64 _ (by omega)]
  · have e9 : (128 : Nat) ^ 9 = 9223372036854775808 := by decide +kernel
    have : (128 : Nat) ^ (k + 1) ≤ 128 ^ 9 := Nat.pow_le_pow_right (by omega) (by omega)
    rw [e9] at this
    have e : (M : Int) * 128 = ((128 ^ (k + 1) : Nat) : Int) := by rw [hM, Nat.pow_succ, Int.natCast_mul]; rfl
    generalize hq : 128 ^ (k + 1) = q at *
    rw [e, wrap_u64 _ (by omega)]
set_option maxRecDepth 100000 in
set_option maxHeartbeats 1600000 in
theorem rscan_c {B : Nat} {A : Option Addr} {n c : Nat} {l : List UInt8} (w : World) (h : Rd w B 1 (.slice A n c) n (bv l)) (hn : n ≤ 1099511627776) (at_ : Nat) (hat : at_ ≤ n) :
    Calls Try.prog 144 #[.slice A n c, .int .i64 at_] w fun e w' => e = .returned (.tuple #[.int .u64 ((scanS (l.drop at_)).1 : Nat), .int .i64 ((at_ + (scanS (l.drop at_)).2.1 : Nat) : Int), .int .i64 (scanS (l.drop at_)).2.2]) ∧ w' = w := by
  have Hr := Lib.hid h; have Hl := Lib.hid h.len_eq
  clear h
  have hat2 : at_ ≤ 1099511627776 := by omega
  go_enter Try.func144, Try.ntmps144
  go_wp2
  go_loop [7, 8, 9, 10] (fun x mm i c10 => ∃ k m M : Nat, k ≤ 9 ∧ at_ + k ≤ n ∧ i = .int .i64 k ∧ x = .int .u64 m ∧ mm = .int .u64 M ∧ Hid (M = 128 ^ k) ∧ Hid (ScanAt (l.drop at_) k m)) (fun _ _ i _ => n - at_ - (intOf i).toNat)
  case atStart => exact ⟨0, 0, 1, by omega, by omega, rfl, rfl, rfl, by simp [Hid], by simp [Hid, ScanAt, scanS]⟩
  case round =>
    obtain ⟨k, m, M, hk9, hkn, rfl, rfl, rfl, HM, HS⟩ := hrel
    by_cases hlt : at_ + k < n
    · obtain ⟨ad, u, rfl, _, hlu, hcell⟩ := Hr.out.byte_at hlt
      have hs := HS.out.1
      have hlu' : (l.drop at_)[k]? = some u := by rw [List.getElem?_drop]; exact hlu
      rw [drop_cons hlu', scanFrom] at hs
      have HL := Lib.hid hs
      have hu : u.toNat < 256 := u.toNat_lt
      clear hs hlu hlu'
      by_cases c1 : k = 9 ∧ u.toNat ≠ 1 ∨ 0 < k ∧ u.toNat = 0
      · have e := HL.out
        rw [if_pos c1] at e
        have HE := Lib.hid e; clear e
        by_cases hk9' : k = 9
        · have b1 : ((u.toNat : Int) != 1) = true := by rw [bne_iff_ne]; omega
          have b9 : ((k : Int) == 9) = true := by rw [beq_iff_eq]; omega
          clear hk9' c1
          go_wp2_with fail
          go_ret3
          rw [HE.out]; exact ⟨ret3 rfl (int_eq (by simp)) rfl, rfl⟩
        · have b9 : ((k : Int) == 9) = false := by rw [beq_eq_false_iff_ne]; omega
          have b0 : ((u.toNat : Int) == 0) = true := by rw [beq_iff_eq]; omega
          have k0 : (0 : Int) < k := by omega
          go_wp2_with fail
          go_ret3
          rw [HE.out]; exact ⟨ret3 rfl (int_eq (by simp)) rfl, rfl⟩
      · have hst := rscan_step m k M u hk9 HS.out.2.1 (by omega) HM.out
        have HT := Lib.hid hst; clear hst
        by_cases c2 : u.toNat < 128
        · have e := HL.out
          rw [if_neg c1, if_pos c2] at e
          have HE := Lib.hid e; clear e
          by_cases hk9' : k = 9
          · have b1 : ((u.toNat : Int) != 1) = false := by rw [bne_eq_false_iff_eq]; omega
            have b0 : ((u.toNat : Int) == 0) = false := by rw [beq_eq_false_iff_ne]; omega
            have b9 : ((k : Int) == 9) = true := by rw [beq_iff_eq]; omega
            have k0 : (0 : Int) < k := by omega
            clear hk9' c1
            go_wp2_with fail
            go_ret3
            rw [HE.out]; exact ⟨ret3 (int_eq HT.out.1) (int_eq (by simp; omega)) rfl, rfl⟩
          · have b9 : ((k : Int) == 9) = false := by rw [beq_eq_false_iff_ne]; omega
            by_cases hk0 : k = 0
            · have k0 : ¬ ((0 : Int) < k) := by omega
              have HK := Lib.hid hk0; clear hk0
              go_wp2_with fail
              go_ret3
              rw [HE.out]; exact ⟨ret3 (int_eq HT.out.1) (int_eq (by simp; omega)) rfl, rfl⟩
            · have k0 : (0 : Int) < k := by omega
              have b0 : ((u.toNat : Int) == 0) = false := by rw [beq_eq_false_iff_ne]; omega
              go_wp2_with fail
              go_ret3
              rw [HE.out]; exact ⟨ret3 (int_eq HT.out.1) (int_eq (by simp; omega)) rfl, rfl⟩
        · have e := HL.out
          rw [if_neg c1, if_neg c2] at e
          have hk9' : k < 9 := by omega
          have HE : Hid (ScanAt (l.drop at_) (k + 1) (m + u.toNat % 128 * 128 ^ k)) := ⟨e, HT.out.2.1 hk9', by omega⟩
          clear e
          have b9 : ((k : Int) == 9) = false := by rw [beq_eq_false_iff_ne]; omega
          by_cases hk0 : k = 0
          · have k0 : ¬ ((0 : Int) < k) := by omega
            have HK := Lib.hid hk0; clear hk0
            go_wp2_with fail
            go_round
            case rel => exact ⟨k + 1, _, _, by omega, by omega, by go_num, int_eq HT.out.1, int_eq (HT.out.2.2 hk9'), rfl, HE⟩
            case measure => simp [intOf]; omega
          · have k0 : (0 : Int) < k := by omega
            have b0 : ((u.toNat : Int) == 0) = false := by rw [beq_eq_false_iff_ne]; omega
            go_wp2_with fail
            go_round
            case rel => exact ⟨k + 1, _, _, by omega, by omega, by go_num, int_eq HT.out.1, int_eq (HT.out.2.2 hk9'), rfl, HE⟩
            case measure => simp [intOf]; omega
    · have e := HS.out.1
      have e0 : List.drop k (List.drop at_ l) = [] := List.drop_of_length_le (by rw [List.length_drop]; have := Hl.out; omega)
      rw [e0, scanFrom] at e
      clear e0
      have HE := Lib.hid e; clear e
      go_wp2_with fail
      go_ret3
      rw [HE.out]; exact ⟨ret3 rfl (int_eq (by simp)) rfl, rfl⟩
end Go.Proofs.Ytpamjobiohbibaa

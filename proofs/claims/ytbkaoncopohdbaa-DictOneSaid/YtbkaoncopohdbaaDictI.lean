/-
  Plain laws of dictionaries: what is read is what is written. No condition.
-/
import Derived.Test.YtbkaoncopohdbaaDictH
namespace Go.Proofs.Ytbkaoncopohdbaa
open Go.RowKit
set_option linter.unusedVariables false
set_option maxRecDepth 20000
theorem nx_rds {s : Cs} {was : Txt} (hw : was.length ≤ 1000) (h : (nxC s was false).e = 0) : mayT was (nxT s was false) ∧ Rds s (nxC s was false) (encN (lcp was (nxT s was false)) ++ encT ((nxT s was false).drop (lcp was (nxT s was false)))) := by
  have hm := nx_may h
  obtain ⟨h1, h2, h3, h4⟩ := nx_ok h
  have h1' : ((s.int' was.length).text' 25).e = 0 := h1
  have hS : nxC s was false = (s.int' was.length).text' 25 := h3
  obtain ⟨h5, h6⟩ := Cs.text_rds h1'
  obtain ⟨h7, h8, h9⟩ := Cs.int_rds h5.e0
  have hX : nxT s was false = was.take (s.int was.length) ++ (s.int' was.length).text 25 := h4
  have hl : lcp was (nxT s was false) = s.int was.length := by
    refine Classical.not_not.1 fun q => h2 (.inr (.inr ⟨rfl, fun e => q ?_⟩))
    rw [h4]; exact e
  refine ⟨hm, ?_⟩
  rw [hl, hS]
  have hd : (nxT s was false).drop (s.int was.length) = (s.int' was.length).text 25 := by
    rw [hX, List.drop_left' (by rw [List.length_take]; omega)]
  rw [hd]
  exact h7.trans h5
theorem nx_rds1 {s : Cs} {was : Txt} (h : (nxC s was true).e = 0) : mayT was (nxT s was true) ∧ Rds s (nxC s was true) (encT (nxT s was true)) := by
  have hm := nx_may h
  obtain ⟨h1, h2, h3, h4⟩ := nx_ok h
  have h1' : (s.text' 25).e = 0 := h1
  have hS : nxC s was true = s.text' 25 := h3
  obtain ⟨h5, h6⟩ := Cs.text_rds h1'
  have hX : nxT s was true = s.text 25 := h4
  refine ⟨hm, ?_⟩
  rw [hX, hS]
  exact h5
theorem end_rest {s : Cs} (h : s.end'.e = 0) : s.e = 0 ∧ s.rest = [] := by
  obtain ⟨h1, h2⟩ := Cs.end_err h
  refine ⟨h1, ?_⟩
  unfold Cs.left at h2
  unfold Cs.rest
  exact List.drop_of_length_le (by omega)
theorem fillF_one : ∀ (m : Nat) (s : Cs) (out : List Txt), (prvT out out.length).length ≤ 1000 → (fillF m false s out).2 = 0 → ∃ r, (fillF m false s out).1 = out ++ r ∧ r.length = m ∧ s.rest = tailT (prvT out out.length) r ∧ ChT (prvT out out.length) r ∧ s.e = 0
  | 0, s, out, hw, h => by
    unfold fillF at h ⊢
    split at h
    · rename_i q; exact absurd h q
    · rename_i q
      rw [if_neg q]
      obtain ⟨h1, h2⟩ := end_rest (by simpa using q)
      exact ⟨[], by simp, rfl, h2, trivial, h1⟩
  | m + 1, s, out, hw, h => by
    unfold fillF at h ⊢
    split at h
    · rename_i q; exact absurd h q
    · rename_i q
      rw [if_neg q]
      have q' : (nxC s (prvT out out.length) false).e = 0 := by simpa using q
      obtain ⟨h1, h2⟩ := nx_rds hw q'
      have hp : prvT (out ++ [nxT s (prvT out out.length) false]) (out ++ [nxT s (prvT out out.length) false]).length = nxT s (prvT out out.length) false := by rw [prvT_end, endT_snoc]
      obtain ⟨r, h3, h4, h5, h6, h7⟩ := fillF_one m _ (out ++ [nxT s (prvT out out.length) false]) (by rw [hp]; have := h1.2.1; omega) h
      rw [hp] at h5 h6
      refine ⟨nxT s (prvT out out.length) false :: r, by rw [h3]; simp, by simp [h4], ?_, ⟨h1, h6⟩, h2.e0⟩
      rw [h2.rest, h5]
      simp only [tailT]
theorem fill_one1 {m : Nat} {b : List UInt8} {out : List Txt} (hm : 1 ≤ m) (h : (fillF m true ⟨b, 0, 0⟩ out).2 = 0) : ∃ r, (fillF m true ⟨b, 0, 0⟩ out).1 = out ++ r ∧ r.length = m ∧ b = bucketT r ∧ ChT (prvT out out.length) r := by
  obtain ⟨k, rfl⟩ : ∃ k, m = k + 1 := ⟨m - 1, by omega⟩
  unfold fillF at h ⊢
  split at h
  · rename_i q; exact absurd h q
  · rename_i q
    rw [if_neg q]
    have q' : (nxC ⟨b, 0, 0⟩ (prvT out out.length) true).e = 0 := by simpa using q
    obtain ⟨h1, h2⟩ := nx_rds1 q'
    have hp : prvT (out ++ [nxT ⟨b, 0, 0⟩ (prvT out out.length) true]) (out ++ [nxT ⟨b, 0, 0⟩ (prvT out out.length) true]).length = nxT ⟨b, 0, 0⟩ (prvT out out.length) true := by rw [prvT_end, endT_snoc]
    obtain ⟨r, h3, h4, h5, h6, h7⟩ := fillF_one k _ (out ++ [nxT ⟨b, 0, 0⟩ (prvT out out.length) true]) (by rw [hp]; have := h1.2.1; omega) h
    rw [hp] at h5 h6
    refine ⟨nxT ⟨b, 0, 0⟩ (prvT out out.length) true :: r, by rw [h3]; simp, by simp [h4], ?_, ⟨h1, h6⟩⟩
    have := h2.rest
    rw [h5] at this
    simpa [Cs.rest, bucketT] using this
theorem sizF_one : ∀ (k : Nat) (s s' : Cs) (out S : List Nat), sizF k s out = (s', S) → s'.e = 0 → ∃ S', S = out ++ S' ∧ S'.length = k ∧ Rds s s' (S'.flatMap encN)
  | 0, s, s', out, S, h, he => by
    simp only [sizF, Prod.mk.injEq] at h
    obtain ⟨rfl, rfl⟩ := h
    exact ⟨[], by simp, rfl, Rds.nil he⟩
  | k + 1, s, s', out, S, h, he => by
    unfold sizF at h
    split at h
    · rename_i q
      simp only [Prod.mk.injEq] at h
      obtain ⟨rfl, rfl⟩ := h
      exact absurd he q
    · obtain ⟨S', h1, h2, h3⟩ := sizF_one k _ _ _ _ h he
      obtain ⟨h4, h5, h6⟩ := Cs.int_rds h3.e0
      refine ⟨s.int 2000 :: S', by rw [h1]; simp, by simp [h2], ?_⟩
      rw [List.flatMap_cons]
      exact h4.trans h3
theorem bodyF_one {sz n : Nat} (hs1 : 1 ≤ sz) : ∀ (S : List Nat) (i : Nat) (s s' : Cs) (out l : List Txt), out.length = min (i * sz) n → S.length + i = chN sz n → bodyF sz n S s out = (l, s', 0) →
    l.length = n ∧ (∃ t, l = out ++ t ∧ ChT (prvT out out.length) t) ∧ Rds s s' (bodyT l sz (List.range' i S.length)) ∧ S = (List.range' i S.length).map (fun j => (bucketT (ck l sz j)).length)
  | [], i, s, s', out, l, ho, hS, h => by
    unfold bodyF at h
    split at h
    · rename_i q
      simp only [Prod.mk.injEq] at h
      exact absurd h.2.2 q
    · rename_i q
      simp only [Prod.mk.injEq] at h
      obtain ⟨rfl, rfl, _⟩ := h
      have hge := chN_ge (sz := sz) (n := n) hs1
      have hi : i = chN sz n := by simpa using hS
      rw [← hi] at hge
      exact ⟨by omega, ⟨[], by simp, trivial⟩, Rds.nil (by simpa using q), by simp⟩
  | k :: S, i, s, s', out, l, ho, hS, h => by
    simp only [List.length_cons] at hS
    have hlt := (chN_lt hs1).1 (show i < chN sz n by omega)
    have hoi : out.length = i * sz := by omega
    have hsz : (i + 1) * sz = i * sz + sz := Nat.succ_mul i sz
    unfold bodyF at h
    split at h
    · rename_i q
      simp only [Prod.mk.injEq] at h
      exact absurd h.2.2 q
    · rename_i q
      split at h
      · rename_i q2
        simp only [Prod.mk.injEq] at h
        exact absurd h.2.2 q2
      · rename_i q2
        obtain ⟨h1, h2, _⟩ := Cs.take_rds (show (s.take' k).e = 0 by simpa using q)
        obtain ⟨r, h3, h4, h5, h6⟩ := fill_one1 (by omega) (show (fillF (min sz (n - out.length)) true ⟨s.take k, 0, 0⟩ out).2 = 0 by simpa using q2)
        rw [h3] at h
        obtain ⟨h7, ⟨t, h8, h9⟩, h10, h11⟩ := bodyF_one hs1 S (i + 1) _ s' (out ++ r) l (by rw [List.length_append, h4, hsz]; omega) (by omega) h
        have hck : ck l sz i = r := by
          unfold ck
          rw [h8, List.append_assoc, ← hoi, List.drop_left]
          rcases Nat.lt_or_ge (n - out.length) sz with hc | hc
          · have ht : t = [] := by
              apply List.eq_nil_of_length_eq_zero
              have := congrArg List.length h8
              rw [h7, List.length_append, List.length_append, h4] at this
              omega
            rw [ht, List.append_nil, List.take_of_length_le (by omega)]
          · rw [List.take_left' (by rw [h4]; omega)]
        have hpr : prvT (out ++ r) (out ++ r).length = endT (prvT out out.length) r := by rw [prvT_end, prvT_end, endT_app]
        rw [hpr] at h9
        refine ⟨h7, ⟨r ++ t, by rw [h8, List.append_assoc], h6.app h9⟩, ?_, ?_⟩
        · simp only [List.length_cons, List.range'_succ, bodyT, List.flatMap_cons]
          rw [hck, ← h5]
          exact h1.trans h10
        · simp only [List.length_cons, List.range'_succ, List.map_cons]
          rw [hck, ← h5, h2, ← h11]
          simp
theorem dict_one {sz : Nat} {b : List UInt8} (hs1 : 1 ≤ sz) (hs2 : sz ≤ 64) (he : (dictR sz b).2.2 = 0) : RisT (dictR sz b).1 ∧ (dictR sz b).2.1 ≤ b.length ∧ dictB sz (dictR sz b).1 = b.take (dictR sz b).2.1 := by
  have hE : ¬ ((sz : Int) < 1 ∨ 64 < (sz : Int)) := by omega
  have hF : (dictF sz b).2.2 = 0 := Classical.not_not.1 fun h => by
    rw [dictR_err hE h] at he; exact h he
  rw [dictR_ok hE hF]
  obtain ⟨l, s', e⟩ : ∃ l s', dictF sz b = (l, s', 0) := ⟨_, _, Prod.ext rfl (Prod.ext rfl hF)⟩
  have e' := e
  unfold dictF at e'
  have hSl : (dictS sz b).1.e = 0 → (dictS sz b).2.length = chN sz (dictN b) ∧ Rds (Cs.int' ⟨b, 0, 0⟩ 1048576) (dictS sz b).1 ((dictS sz b).2.flatMap encN) := by
    intro h0
    obtain ⟨S', h1, h2, h3⟩ := sizF_one (chN sz (dictN b)) (Cs.int' ⟨b, 0, 0⟩ 1048576) (dictS sz b).1 [] (dictS sz b).2 rfl h0
    rw [List.nil_append] at h1
    rw [h1]
    exact ⟨h2, h3⟩
  have h0 : (dictS sz b).1.e = 0 := by
    generalize (dictS sz b).2 = S at e'
    generalize (dictS sz b).1 = u at e' ⊢
    cases S with
    | nil =>
      unfold bodyF at e'
      split at e'
      · rename_i q
        simp only [Prod.mk.injEq] at e'
        exact absurd e'.2.2 q
      · rename_i q; simpa using q
    | cons k S =>
      unfold bodyF at e'
      split at e'
      · rename_i q
        simp only [Prod.mk.injEq] at e'
        exact absurd e'.2.2 q
      · rename_i q
        exact Cs.moved_e0' (s := u) (k := (k : Int).toNat) (er := takeErr u.rest k) (show (u.take' k).e = 0 by simpa using q)
  obtain ⟨h1, h2⟩ := hSl h0
  obtain ⟨h3, ⟨t, h4, h5⟩, h6, h7⟩ := bodyF_one hs1 _ 0 _ s' [] l (by simp) (by omega) e'
  rw [List.nil_append] at h4
  subst h4
  obtain ⟨h8, h9, _⟩ := Cs.int_rds h2.e0
  have h10 := h8.trans (h2.trans h6)
  rw [h1] at h6 h7 h10
  have hH : headT l sz (List.range (chN sz l.length)) = (dictS sz b).2.flatMap encN := by
    rw [h7, List.range_eq_range', h3]
    simp [headT, List.flatMap_map]
  have hD : dictB sz l = encN (Cs.int ⟨b, 0, 0⟩ 1048576) ++ ((dictS sz b).2.flatMap encN ++ bodyT l sz (List.range' 0 (chN sz (dictN b)))) := by
    unfold dictB
    rw [hH, h3, List.range_eq_range', List.append_assoc]
    rfl
  rw [← hD] at h10
  have hat : s'.at_ = (dictB sz l).length := by rw [h10.eq]; simp
  have hbe : b = dictB sz l ++ s'.rest := by simpa [Cs.rest] using h10.rest
  rw [e]
  simp only
  rw [hat]
  have hN : (dictN b : Int) ≤ 1048576 := h9
  refine ⟨ChT.ris (by simpa [prvT] using h5) (by rw [h3]; omega), ?_, ?_⟩
  · conv => rhs; rw [hbe]
    simp
  · conv => rhs; rw [hbe]
    rw [List.take_left]
end Go.Proofs.Ytbkaoncopohdbaa

/-
  Plain laws of dictionaries: what was written is read; what is read is what is written. No condition.
-/
import Derived.Test.YtbkaoncopohdbaaDictM
import Derived.Test.YtbkaoncopohdbaaCurLawp
namespace Go.Proofs.Ytbkaoncopohdbaa
open Go.RowKit
set_option linter.unusedVariables false
set_option maxRecDepth 20000
/-- texts that rise behind another one -/
def ChT : Txt → List Txt → Prop
  | _, [] => True
  | w, s :: r => mayT w s ∧ ChT s r
/-- the last one behind w -/
def endT : Txt → List Txt → Txt
  | w, [] => w
  | _, s :: r => endT s r
theorem endT_snoc : ∀ (w : Txt) (l : List Txt) (x : Txt), endT w (l ++ [x]) = x
  | _, [], _ => rfl
  | _, s :: r, x => endT_snoc s r x
theorem endT_app : ∀ (w : Txt) (a b : List Txt), endT w (a ++ b) = endT (endT w a) b
  | _, [], _ => rfl
  | _, s :: r, b => endT_app s r b
theorem prvT_end : ∀ (l : List Txt), prvT l l.length = endT [] l := by
  intro l
  rcases List.eq_nil_or_concat l with rfl | ⟨l', x, rfl⟩
  · rfl
  · rw [List.concat_eq_append, endT_snoc]
    unfold prvT
    rw [if_neg (by simp)]
    simp
theorem ChT.app : ∀ {w : Txt} {a b : List Txt}, ChT w a → ChT (endT w a) b → ChT w (a ++ b)
  | _, [], _, _, h => h
  | _, s :: r, b, h, k => ⟨h.1, ChT.app h.2 k⟩
theorem ChT.left : ∀ {w : Txt} {a b : List Txt}, ChT w (a ++ b) → ChT w a
  | _, [], _, _ => trivial
  | _, s :: r, b, h => ⟨h.1, ChT.left h.2⟩
theorem ChT.right : ∀ {w : Txt} {a b : List Txt}, ChT w (a ++ b) → ChT (endT w a) b
  | _, [], _, h => h
  | _, s :: r, b, h => ChT.right (a := r) h.2
theorem ChT.get : ∀ {w : Txt} {l : List Txt}, ChT w l → ∀ i, i < l.length → mayT (if i = 0 then w else l.getD (i - 1) []) (l.getD i [])
  | _, [], _, i, hi => absurd hi (by simp)
  | w, s :: r, h, 0, _ => by simpa using h.1
  | w, s :: r, h, i + 1, hi => by
    have := ChT.get h.2 i (by simpa using hi)
    cases i with
    | zero => simpa using this
    | succ i => simpa using this
theorem ChT.of_get : ∀ {w : Txt} {l : List Txt}, (∀ i, i < l.length → mayT (if i = 0 then w else l.getD (i - 1) []) (l.getD i [])) → ChT w l
  | _, [], _ => trivial
  | w, s :: r, h => by
    refine ⟨by simpa using h 0 (by simp), ChT.of_get fun i hi => ?_⟩
    have := h (i + 1) (by simpa using hi)
    cases i with
    | zero => simpa using this
    | succ i => simpa using this
theorem RisT.ch {l : List Txt} (h : RisT l) : ChT [] l := ChT.of_get h.1
theorem ChT.ris {l : List Txt} (h : ChT [] l) (hl : l.length ≤ 1048576) : RisT l := ⟨h.get, hl⟩
theorem lcp_take : ∀ a b : Txt, a.take (lcp a b) = b.take (lcp a b)
  | [], b => by simp [lcp]
  | x :: a, [] => by simp [lcp]
  | x :: a, y :: b => by
    unfold lcp
    split
    · rename_i h; simp [h, lcp_take a b]
    · simp
theorem lcp_lt : ∀ {a b : Txt}, ltT a b → lcp a b < b.length
  | _, [], h => absurd h (not_ltT_nil _)
  | [], y :: b, _ => by simp [lcp]
  | x :: a, y :: b, h => by
    unfold lcp
    rw [ltT_cons] at h
    split
    · rename_i he
      subst he
      rcases h with h | ⟨_, h⟩
      · rw [u8_lt] at h; omega
      · have := lcp_lt h; simp; omega
    · simp
theorem u8len {x : Nat} (h : x < 128) : (encN x).length = 1 := by rw [encN_lt h]; rfl
theorem encT_len1 {t : Txt} (h : t.length < 128) : (encT t).length = t.length + 1 := by
  unfold encT; rw [List.length_append, u8len h]; omega
theorem tailT_27 : ∀ (was : Txt) (r : List Txt), was.length ≤ 25 → (∀ s ∈ r, s.length ≤ 25) → (tailT was r).length ≤ r.length * 27
  | _, [], _, _ => by simp [tailT]
  | was, s :: r, hw, h => by
    have hs := h s (by simp)
    have := tailT_27 s r hs (fun x hx => h x (by simp [hx]))
    have hl := lcp_le was s
    unfold tailT
    rw [List.length_append, List.length_append, u8len (by omega), encT_len1 (by rw [List.length_drop]; omega), List.length_drop, List.length_cons, Nat.add_mul]
    omega
theorem bucketT_27 {X : List Txt} (hl : X.length ≤ 64) (h : ∀ s ∈ X, s.length ≤ 25) : (bucketT X).length ≤ 2000 := by
  cases X with
  | nil => simp [bucketT]
  | cons t r =>
    have ht := h t (by simp)
    have := tailT_27 t r ht (fun x hx => h x (by simp [hx]))
    simp only [List.length_cons] at hl
    unfold bucketT
    rw [List.length_append, encT_len1 (by omega)]
    omega
/-! what was written is read -/
theorem nx_at2 {s : Cs} {was x : Txt} {r : List UInt8} (h0 : s.e = 0) (hw : was.length ≤ 1000) (hm : mayT was x) (hr : s.rest = encN (lcp was x) ++ encT (x.drop (lcp was x)) ++ r) : nxT s was false = x ∧ (nxC s was false).e = 0 ∧ (nxC s was false).rest = r := by
  have hl := lcp_le was x
  have hlt := lcp_lt (not_leT.1 hm.2.2)
  rw [List.append_assoc] at hr
  obtain ⟨h1, h2⟩ := Cs.int_at' h0 (m := was.length) (by omega) (by omega) hr
  have hr1 := h2.rest_eq hr
  obtain ⟨h3, h4⟩ := Cs.text_at' h2.e1 (m := 25) (by rw [List.length_drop]; have := hm.2.1; omega) (by omega) hr1
  have hr2 := h4.rest_eq hr1
  have hX : nxX s was false = x := by
    show was.take (s.int was.length) ++ (s.int' was.length).text 25 = x
    rw [h1, h3, lcp_take, List.take_append_drop]
  have hS : nxS s was false = (s.int' was.length).text' 25 := rfl
  have hB : ¬ nxBad s was false := by
    rintro (h | h | ⟨_, h⟩)
    · have h : (s.int' was.length).text 25 = [] := h
      rw [h3] at h
      have := congrArg List.length h
      rw [List.length_drop] at this
      simp at this; omega
    · rw [hX] at h; exact h hm
    · rw [hX] at h
      exact h h1.symm
  have hC : nxC s was false = (s.int' was.length).text' 25 := by
    unfold nxC
    rw [hS, if_neg (by simpa using h4.e1), if_neg hB]
  refine ⟨?_, by rw [hC]; exact h4.e1, by rw [hC]; exact hr2⟩
  unfold nxT
  rw [hS, if_neg (by simpa using h4.e1), hX]
theorem nx_at1 {s : Cs} {was x : Txt} {r : List UInt8} (h0 : s.e = 0) (hm : mayT was x) (hr : s.rest = encT x ++ r) : nxT s was true = x ∧ (nxC s was true).e = 0 ∧ (nxC s was true).rest = r := by
  obtain ⟨h3, h4⟩ := Cs.text_at' h0 (m := 25) (by have := hm.2.1; omega) (by omega) hr
  have hr2 := h4.rest_eq hr
  have hX : nxX s was true = x := by
    show was.take 0 ++ s.text 25 = x
    rw [h3]; rfl
  have hS : nxS s was true = s.text' 25 := rfl
  have hB : ¬ nxBad s was true := by
    rintro (h | h | ⟨h, _⟩)
    · have h : s.text 25 = [] := h
      rw [h3] at h
      exact hm.1 h
    · rw [hX] at h; exact h hm
    · cases h
  have hC : nxC s was true = s.text' 25 := by
    unfold nxC
    rw [hS, if_neg (by simpa using h4.e1), if_neg hB]
  refine ⟨?_, by rw [hC]; exact h4.e1, by rw [hC]; exact hr2⟩
  unfold nxT
  rw [hS, if_neg (by simpa using h4.e1), hX]
theorem fill_tail : ∀ (r out : List Txt) (s : Cs), s.e = 0 → (prvT out out.length).length ≤ 1000 → s.rest = tailT (prvT out out.length) r → ChT (prvT out out.length) r → fillF r.length false s out = (out ++ r, 0)
  | [], out, s, h0, _, hr, _ => by
    have := Cs.end_at h0 hr
    simp [fillF, this]
  | x :: r, out, s, h0, hw, hr, hc => by
    obtain ⟨h1, h2, h3⟩ := nx_at2 h0 hw hc.1 hr
    have hp : prvT (out ++ [x]) (out ++ [x]).length = x := by rw [prvT_end, endT_snoc]
    show fillF (r.length + 1) false s out = _
    unfold fillF
    rw [if_neg (by simpa using h2), h1, fill_tail r (out ++ [x]) _ h2 (by rw [hp]; have := hc.1.2.1; omega) (by rw [hp]; exact h3) (by rw [hp]; exact hc.2)]
    simp
theorem fill_bucket {X out : List Txt} (hne : X ≠ []) (hc : ChT (prvT out out.length) X) : fillF X.length true ⟨bucketT X, 0, 0⟩ out = (out ++ X, 0) := by
  cases X with
  | nil => exact absurd rfl hne
  | cons x r =>
    obtain ⟨h1, h2, h3⟩ := nx_at1 (s := ⟨bucketT (x :: r), 0, 0⟩) rfl hc.1 (show Cs.rest ⟨bucketT (x :: r), 0, 0⟩ = encT x ++ tailT x r from rfl)
    have hp : prvT (out ++ [x]) (out ++ [x]).length = x := by rw [prvT_end, endT_snoc]
    show fillF (r.length + 1) true _ out = _
    unfold fillF
    rw [if_neg (by simpa using h2), h1, fill_tail r (out ++ [x]) _ h2 (by rw [hp]; have := hc.1.2.1; omega) (by rw [hp]; exact h3) (by rw [hp]; exact hc.2)]
    simp
theorem sizF_at : ∀ (ns : List Nat) (s : Cs) (out : List Nat) (r : List UInt8), s.e = 0 → (∀ n ∈ ns, n ≤ 2000) → s.rest = ns.flatMap encN ++ r → ∃ s', sizF ns.length s out = (s', out ++ ns) ∧ Rds s s' (ns.flatMap encN)
  | [], s, out, r, h0, _, hr => ⟨s, by simp [sizF], Rds.nil h0⟩
  | n :: ns, s, out, r, h0, hn, hr => by
    have hn1 := hn n (by simp)
    rw [List.flatMap_cons, List.append_assoc] at hr
    obtain ⟨h1, h2⟩ := Cs.int_at' h0 (m := 2000) (by omega) (by omega) hr
    obtain ⟨s', h3, h4⟩ := sizF_at ns (s.int' 2000) (out ++ [n]) r h2.e1 (fun x hx => hn x (by simp [hx])) (h2.rest_eq hr)
    refine ⟨s', ?_, ?_⟩
    · show sizF (ns.length + 1) s out = _
      unfold sizF
      rw [if_neg (by simpa using h0), h1, h3]
      simp
    · rw [List.flatMap_cons]; exact h2.trans h4
theorem take_ck (l : List Txt) (sz i : Nat) : l.take (i * sz) ++ ck l sz i = l.take ((i + 1) * sz) := by
  unfold ck
  rw [Nat.add_mul, Nat.one_mul, List.take_add]
theorem bodyF_at {l : List Txt} {sz : Nat} (hR : RisT l) (hs1 : 1 ≤ sz) : ∀ (m i : Nat) (s : Cs) (r : List UInt8), i + m = chN sz l.length → s.e = 0 → s.rest = bodyT l sz (List.range' i m) ++ r →
    ∃ s', bodyF sz l.length ((List.range' i m).map fun j => (bucketT (ck l sz j)).length) s (l.take (i * sz)) = (l, s', 0) ∧ Rds s s' (bodyT l sz (List.range' i m))
  | 0, i, s, r, hi, h0, hr => by
    have hge := chN_ge (sz := sz) (n := l.length) hs1
    refine ⟨s, ?_, Rds.nil h0⟩
    have : i = chN sz l.length := by omega
    simp only [List.range'_zero, List.map_nil, bodyF]
    rw [if_neg (by simpa using h0), this, List.take_of_length_le hge]
  | m + 1, i, s, r, hi, h0, hr => by
    rw [List.range'_succ] at hr ⊢
    have hlt := (chN_lt hs1).1 (show i < chN sz l.length by omega)
    simp only [bodyT, List.flatMap_cons, List.append_assoc] at hr
    obtain ⟨h1, h2⟩ := Cs.take_at' h0 (n := ((bucketT (ck l sz i)).length : Int)) rfl hr
    have hr1 := h2.rest_eq hr
    have htl : (l.take (i * sz)).length = i * sz := by rw [List.length_take]; omega
    have hckl : (ck l sz i).length = min sz (l.length - i * sz) := by simp [ck]
    have hne : ck l sz i ≠ [] := fun h => by have := congrArg List.length h; rw [hckl] at this; simp at this; omega
    have hch : ChT (prvT (l.take (i * sz)) (l.take (i * sz)).length) (ck l sz i) := by
      rw [prvT_end]
      have h := hR.ch
      rw [← List.take_append_drop (i * sz) l] at h
      have h := h.right
      rw [← List.take_append_drop sz (l.drop (i * sz))] at h
      exact h.left
    have hF := fill_bucket (out := l.take (i * sz)) hne hch
    rw [hckl] at hF
    obtain ⟨s', h3, h4⟩ := bodyF_at hR hs1 m (i + 1) _ r (by omega) h2.e1 hr1
    refine ⟨s', ?_, ?_⟩
    · simp only [List.map_cons, bodyF]
      rw [if_neg (by simpa using h2.e1), h1, htl, hF, if_neg (by simp)]
      show bodyF _ _ _ _ (l.take (i * sz) ++ ck l sz i) = _
      rw [take_ck]
      exact h3
    · show Rds s s' (bodyT l sz (i :: List.range' (i + 1) m))
      simp only [bodyT, List.flatMap_cons]
      exact h2.trans h4
theorem dict_back {l : List Txt} {sz : Nat} (hR : RisT l) (hs1 : 1 ≤ sz) (hs2 : sz ≤ 64) (more : List UInt8) : dictR sz (dictB sz l ++ more) = (l, (dictB sz l).length, 0) := by
  have h25 := hR.le
  have hb : (Cs.rest ⟨dictB sz l ++ more, 0, 0⟩) = encN l.length ++ (headT l sz (List.range (chN sz l.length)) ++ (bodyT l sz (List.range (chN sz l.length)) ++ more)) := by simp [Cs.rest, dictB]
  have hl := hR.2
  obtain ⟨h1, h2⟩ := Cs.int_at' (s := ⟨dictB sz l ++ more, 0, 0⟩) rfl (m := 1048576) (x := l.length) (by omega) (by omega) hb
  have hr1 := h2.rest_eq hb
  have hN : dictN (dictB sz l ++ more) = l.length := h1
  have hH : headT l sz (List.range (chN sz l.length)) = ((List.range (chN sz l.length)).map fun j => (bucketT (ck l sz j)).length).flatMap encN := by simp [headT, List.flatMap_map]
  rw [hH] at hr1
  obtain ⟨s2, h3, h4⟩ := sizF_at _ _ [] _ h2.e1 (fun n hn => by
    obtain ⟨j, _, rfl⟩ := List.mem_map.1 hn
    exact bucketT_27 (by simp [ck]; omega) (fun x hx => h25 x (ck_mem hx))) hr1
  have hr2 := h4.rest_eq hr1
  rw [List.range_eq_range'] at hr2
  obtain ⟨s3, h5, h6⟩ := bodyF_at hR hs1 _ 0 s2 more (by omega) h4.e1 hr2
  rw [List.length_map, List.length_range] at h3
  have hS : dictS sz (dictB sz l ++ more) = (s2, (List.range (chN sz l.length)).map fun j => (bucketT (ck l sz j)).length) := by
    unfold dictS; rw [hN, h3]; rfl
  have hF : dictF sz (dictB sz l ++ more) = (l, s3, 0) := by
    unfold dictF
    rw [hN, hS, List.range_eq_range']
    rw [Nat.zero_mul, List.take_zero] at h5
    exact h5
  have hat : s3.at_ = (dictB sz l).length := by
    have h7 := (h2.trans (h4.trans h6)).eq
    rw [h7]
    have hH2 := congrArg List.length hH
    simp only [List.range_eq_range'] at hH2
    simp only [dictB, List.length_append, List.range_eq_range', hH2]
    omega
  rw [dictR_ok (by omega) (by rw [hF]), hF, ← hat]
end Go.Proofs.Ytbkaoncopohdbaa

/-
  Plain laws of cursors: what was written is read; what is read is what stands there. Conditions: numbers fit 64 bits.
-/
import Derived.Test.YtbkaoncopohdbaaCurMk
namespace Go.Proofs.Ytbkaoncopohdbaa
theorem Cs.moved_bad {s : Cs} (h : s.e = 0) (n : Nat) {er : Int} (he : er ≠ 0) : s.moved n er = { s with e := er } := by unfold Cs.moved; rw [if_neg (by simp [h]), if_pos he]
theorem Cs.moved_ok {s : Cs} (h : s.e = 0) (n : Nat) : s.moved n 0 = { s with at_ := s.at_ + n } := by unfold Cs.moved; rw [if_neg (by simp [h]), if_neg (by simp)]
theorem Cs.moved_err {s : Cs} (h : s.e ≠ 0) (n : Nat) (er : Int) : s.moved n er = s := by unfold Cs.moved; rw [if_pos h]
theorem ofNat_toNat (c : UInt8) (n : Nat) (h : n = c.toNat) : UInt8.ofNat n = c := by subst h; simp
/-- bytes that are a number's are that number's only bytes -/
theorem scanFrom_enc : ∀ (l : List UInt8) (i acc : Nat), (scanFrom i acc l).2.2 = 0 →
    ∃ y, (scanFrom i acc l).1 = acc + y * 128 ^ i ∧ i ≤ (scanFrom i acc l).2.1 ∧ encN y = l.take ((scanFrom i acc l).2.1 - i) ∧ (0 < i → 0 < y) ∧ (scanFrom i acc l).2.1 ≤ i + l.length := by
  intro l
  induction l with
  | nil => intro i acc h; simp [scanFrom] at h
  | cons c r ih =>
    intro i acc h
    unfold scanFrom at h ⊢
    by_cases h1 : i = 9 ∧ c.toNat ≠ 1 ∨ 0 < i ∧ c.toNat = 0
    · rw [if_pos h1] at h; simp at h
    · rw [if_neg h1] at h ⊢
      by_cases h2 : c.toNat < 128
      · rw [if_pos h2]
        refine ⟨c.toNat, ?_, by simp, ?_, by omega, by simp only [List.length_cons]; omega⟩
        · show acc + c.toNat % 128 * 128 ^ i = _
          rw [Nat.mod_eq_of_lt h2]
        · show encN c.toNat = List.take (i + 1 - i) (c :: r)
          rw [encN_lt h2, Nat.add_sub_cancel_left]
          simp
      · rw [if_neg h2] at h ⊢
        obtain ⟨y, e1, e2, e3, e4, e5⟩ := ih _ _ h
        have hy := e4 (by omega)
        refine ⟨c.toNat % 128 + 128 * y, ?_, by omega, ?_, by omega, by simp only [List.length_cons]; omega⟩
        · rw [e1, Nat.pow_succ, Nat.add_mul, Nat.add_assoc]
          congr 2
          rw [Nat.mul_comm (128 ^ i) 128, ← Nat.mul_assoc, Nat.mul_comm y 128]
        · rw [encN_ge (by omega)]
          have hc := c.toNat_lt
          rw [show (c.toNat % 128 + 128 * y) / 128 = y by omega, e3, ofNat_toNat c _ (by omega)]
          generalize hN : (scanFrom (i + 1) (acc + c.toNat % 128 * 128 ^ i) r).2.1 = N at *
          rw [show N - i = (N - (i + 1)) + 1 by omega, List.take_succ_cons]
theorem scanS_enc {l : List UInt8} (h : (scanS l).2.2 = 0) : encN (scanS l).1 = l.take (scanS l).2.1 := by
  obtain ⟨y, e1, _, e3, _⟩ := scanFrom_enc l 0 0 h
  have : (scanS l).1 = y := by unfold scanS; rw [e1]; simp
  rw [this, e3]; rfl
/-- a number's bytes are read as that number, whatever stands behind them -/
theorem scanFrom_back (r : List UInt8) : ∀ (n y i acc : Nat), y ≤ n → y * 128 ^ i < 18446744073709551616 → (0 < i → 0 < y) →
    scanFrom i acc (encN y ++ r) = (acc + y * 128 ^ i, i + (encN y).length, 0) := by
  intro n
  induction n with
  | zero =>
    intro y i acc hy h h0
    have hy0 : y = 0 := by omega
    subst hy0
    have hi : i = 0 := by
      rcases Nat.eq_zero_or_pos i with h' | h'
      · exact h'
      · exact absurd (h0 h') (by omega)
    subst hi
    rw [encN_lt (by omega)]
    simp [scanFrom]
  | succ n ih =>
    intro y i acc hy h h0
    have hi9 : i ≤ 9 := by
      rcases Nat.lt_or_ge 9 i with h' | h'
      · exfalso
        have h1 : (128 : Nat) ^ 10 ≤ 128 ^ i := Nat.pow_le_pow_right (by omega) (by omega)
        have e : (128 : Nat) ^ 10 = 1180591620717411303424 := by decide +kernel
        rw [e] at h1
        have h2 : 1 * 128 ^ i ≤ y * 128 ^ i := Nat.mul_le_mul_right _ (h0 (by omega))
        omega
      · exact h'
    have e9 : (128 : Nat) ^ 9 = 9223372036854775808 := by decide +kernel
    have hy9 : i = 9 → y = 1 := by
      intro hi
      rw [hi, e9] at h
      have := h0 (by omega)
      omega
    by_cases hlt : y < 128
    · rw [encN_lt hlt]
      have hu := u8n y (by omega)
      show scanFrom i acc (UInt8.ofNat y :: r) = _
      unfold scanFrom
      rw [hu, if_neg (by omega), if_pos hlt, Nat.mod_eq_of_lt hlt]
      rfl
    · rw [encN_ge (by omega)]
      have hu := u8n (128 + y % 128) (by omega)
      show scanFrom i acc (UInt8.ofNat (128 + y % 128) :: (encN (y / 128) ++ r)) = _
      unfold scanFrom
      rw [hu, if_neg (by omega), if_neg (by omega), show (128 + y % 128) % 128 = y % 128 by omega]
      have hd : y = y % 128 + 128 * (y / 128) := by omega
      have hm : y * 128 ^ i = y % 128 * 128 ^ i + y / 128 * 128 ^ (i + 1) := by
        conv => lhs; rw [hd, Nat.add_mul]
        rw [Nat.pow_succ, Nat.mul_comm (128 ^ i) 128, ← Nat.mul_assoc, Nat.mul_comm (y / 128) 128]
      rw [ih (y / 128) (i + 1) _ (by omega) (by omega) (by omega), hm]
      simp only [List.length_cons]
      rw [show acc + y % 128 * 128 ^ i + y / 128 * 128 ^ (i + 1) = acc + (y % 128 * 128 ^ i + y / 128 * 128 ^ (i + 1)) by omega, show i + 1 + (encN (y / 128)).length = i + ((encN (y / 128)).length + 1) by omega]
theorem scanS_back (x : Nat) (hx : x < 18446744073709551616) (r : List UInt8) : scanS (encN x ++ r) = (x, (encN x).length, 0) := by
  have := scanFrom_back r x x 0 0 (Nat.le_refl _) (by simpa using hx) (by omega)
  simpa [scanS] using this
theorem Cs.num_err {s : Cs} (h : s.num'.e = 0) : s.e = 0 ∧ (scanS s.rest).2.2 = 0 ∧ s.num = (scanS s.rest).1 ∧ s.num' = { s with at_ := s.at_ + (scanS s.rest).2.1 } := by
  unfold Cs.num' at h ⊢
  by_cases h0 : s.e = 0
  · by_cases he : (scanS s.rest).2.2 = 0
    · rw [he, Cs.moved_ok h0]
      exact ⟨h0, rfl, by unfold Cs.num; rw [if_neg (by simp [h0])], rfl⟩
    · rw [Cs.moved_bad h0 _ he] at h
      exact absurd h he
  · rw [Cs.moved_err h0] at h
    exact absurd h h0
theorem Cs.end_err {s : Cs} (h : s.end'.e = 0) : s.e = 0 ∧ s.left = 0 := by
  unfold Cs.end' at h
  split at h
  · unfold Cs.failed at h
    split at h
    · exact absurd h (by simp)
    · rename_i h1 h2
      exact absurd h h2
  · exact ⟨h, by omega⟩
/-- bytes that are read as a number, with none left, are that number's bytes -/
theorem one_law (l : List UInt8) (h : (Cs.end' (Cs.num' ⟨l, 0, 0⟩)).e = 0) : encN (Cs.num ⟨l, 0, 0⟩) = l := by
  obtain ⟨h1, h2⟩ := Cs.end_err h
  obtain ⟨_, h4, h5, h6⟩ := Cs.num_err h1
  rw [h6] at h2
  rw [h5]
  simp only [Cs.rest, List.drop_zero, Cs.left] at h4 h2 ⊢
  rw [scanS_enc h4, List.take_of_length_le (by omega)]
/-- a fixed number's bytes are that number -/
theorem leVal_append (a b : List UInt8) : leVal (a ++ b) = leVal a + 256 ^ a.length * leVal b := by
  induction a with
  | nil => simp [leVal]
  | cons c r ih =>
    simp only [List.cons_append, leVal, ih, List.length_cons, Nat.pow_succ]
    rw [Nat.mul_add, Nat.add_assoc]
    congr 2
    rw [← Nat.mul_assoc, Nat.mul_comm 256]
theorem leVal_fixL (x : Nat) : ∀ k, leVal (fixL x k) = x % 2 ^ (8 * k) := by
  intro k
  induction k with
  | zero => simp [fixL, leVal, Nat.mod_one]
  | succ k ih =>
    have e7 : (256 : Nat) ^ k = 2 ^ (8 * k) := by rw [show (256 : Nat) = 2 ^ 8 from rfl, ← Nat.pow_mul]
    rw [fixL, leVal_append, ih, fixL_length, e7]
    simp only [leVal, Nat.mul_zero, Nat.add_zero]
    rw [u8n _ (Nat.mod_lt _ (by omega)), show 8 * (k + 1) = 8 * k + 8 by omega, Nat.pow_add, Nat.mod_mul]
/-- a number that stands ahead is read -/
theorem Cs.num_at {s : Cs} {x : Nat} {r : List UInt8} (h0 : s.e = 0) (hx : x < 18446744073709551616) (hr : s.rest = encN x ++ r) :
    s.num = x ∧ s.num' = { s with at_ := s.at_ + (encN x).length } := by
  unfold Cs.num Cs.num'
  rw [hr, scanS_back x hx r, if_neg (by simp [h0])]
  exact ⟨rfl, Cs.moved_ok h0 _⟩
theorem Cs.rest_move {s : Cs} {a r : List UInt8} {n : Nat} (hr : s.rest = a ++ r) (hn : n = a.length) : Cs.rest { s with at_ := s.at_ + n } = r := by
  unfold Cs.rest at hr ⊢
  show s.b.drop (s.at_ + n) = r
  rw [← List.drop_drop, hr, hn, List.drop_left]
/-- a text that stands ahead is read -/
theorem Cs.text_at {s : Cs} {t r : List UInt8} (h0 : s.e = 0) {most : Int} (ht : (t.length : Int) ≤ most) (hm : most ≤ 9223372036854775807) (hr : s.rest = encT t ++ r) :
    s.text most = t ∧ s.text' most = { s with at_ := s.at_ + (encT t).length } := by
  have hs : scanS (encT t ++ r) = (t.length, (encN t.length).length, 0) := by
    unfold encT; rw [List.append_assoc]; exact scanS_back _ (by omega) _
  have hl : limS (encT t ++ r) most = (t.length, (encN t.length).length, 0) := by
    unfold limS; rw [hs]; simp only [ne_eq, not_true_eq_false, if_false]
    rw [if_neg (by omega)]
  have hx : textS (encT t ++ r) most = (t, (encN t.length).length + t.length, 0) := by
    unfold textS; rw [hl]; simp only [ne_eq, not_true_eq_false, if_false]
    rw [if_neg (by simp only [encT, List.length_append]; omega)]
    have e1 : (encT t ++ r).drop (encN t.length).length = t ++ r := by unfold encT; rw [List.append_assoc, List.drop_left]
    rw [e1, List.take_left]
  unfold Cs.text Cs.text'
  rw [hr, hx, if_neg (by simp [h0])]
  refine ⟨rfl, ?_⟩
  rw [Cs.moved_ok h0]
  simp [encT]
theorem Cs.take_at {s : Cs} {t r : List UInt8} (h0 : s.e = 0) {n : Int} (hn : n = t.length) (hr : s.rest = t ++ r) :
    s.take n = t ∧ s.take' n = { s with at_ := s.at_ + t.length } := by
  have ht : takeErr (t ++ r) n = 0 := by
    unfold takeErr
    rw [if_neg (by omega), if_neg (by simp; omega)]
  unfold Cs.take Cs.take'
  rw [hr, ht, if_neg (by simp [h0]), if_neg (by simp), hn, Int.toNat_natCast, List.take_left]
  exact ⟨rfl, Cs.moved_ok h0 _⟩
theorem Cs.end_at {s : Cs} (h0 : s.e = 0) (hr : s.rest = []) : s.end'.e = 0 := by
  unfold Cs.end'
  have : s.left = 0 := by
    have := congrArg List.length hr
    simp [Cs.rest] at this
    unfold Cs.left; omega
  rw [if_neg (by omega)]
  exact h0
/-- p was read -/
structure Rds (s s' : Cs) (p : List UInt8) : Prop where
  e0 : s.e = 0
  eq : s' = ⟨s.b, s.at_ + p.length, 0⟩
  rest : s.rest = p ++ s'.rest
theorem Rds.e1 {s s' : Cs} {p : List UInt8} (h : Rds s s' p) : s'.e = 0 := by rw [h.eq]
theorem Rds.nil {s : Cs} (h : s.e = 0) : Rds s s [] := ⟨h, by cases s; simp at h; simp [h], rfl⟩
theorem Rds.trans {s s' s'' : Cs} {p q : List UInt8} (h : Rds s s' p) (k : Rds s' s'' q) : Rds s s'' (p ++ q) := by
  refine ⟨h.e0, ?_, by rw [h.rest, k.rest, List.append_assoc]⟩
  rw [k.eq, h.eq, List.length_append, Nat.add_assoc]
theorem Rds.of_moved {s : Cs} {k : Nat} {er : Int} {p : List UInt8} (h : (s.moved k er).e = 0) (hp : er = 0 → p = s.rest.take k) (hk : er = 0 → k ≤ s.rest.length) : er = 0 ∧ Rds s (s.moved k er) p := by
  by_cases h0 : s.e = 0
  · by_cases he : er = 0
    · subst he
      have e1 := hp rfl
      have e2 := hk rfl
      have hl : p.length = k := by rw [e1, List.length_take]; omega
      rw [Cs.moved_ok h0]
      refine ⟨rfl, h0, by rw [hl, ← h0], ?_⟩
      rw [e1]
      show s.rest = s.rest.take k ++ s.b.drop (s.at_ + k)
      rw [← List.drop_drop]
      exact (List.take_append_drop k s.rest).symm
    · rw [Cs.moved_bad h0 _ he] at h
      exact absurd h he
  · rw [Cs.moved_err h0] at h
    exact absurd h h0
theorem Rds.rest_eq {s s' : Cs} {p r : List UInt8} (h : Rds s s' p) (hr : s.rest = p ++ r) : s'.rest = r := by
  have := h.rest
  rw [hr] at this
  exact (List.append_cancel_left this).symm
theorem scanFrom_pos : ∀ (l : List UInt8) (i acc : Nat), (scanFrom i acc l).2.2 = 0 → i + 1 ≤ (scanFrom i acc l).2.1 := by
  intro l
  induction l with
  | nil => intro i acc h; simp [scanFrom] at h
  | cons c r ih =>
    intro i acc h
    unfold scanFrom at h ⊢
    split
    · rename_i h1
      rw [if_pos h1] at h
      simp at h
    · rename_i h1
      rw [if_neg h1] at h
      split
      · simp
      · rename_i h2
        rw [if_neg h2] at h
        have := ih _ _ h
        omega
theorem Cs.num_rds {s : Cs} (h : s.num'.e = 0) : Rds s s.num' (encN s.num) ∧ s.num < 18446744073709551616 := by
  have h0 := (Cs.num_err h).1
  have h2 := (Cs.num_err h).2.1
  have h3 := (Cs.num_err h).2.2.1
  exact ⟨(Rds.of_moved h (fun _ => by rw [h3, scanS_enc h2]) (fun _ => (scanS_facts _).2.1)).2, by rw [h3]; exact (scanS_facts _).1⟩
theorem Cs.num_at' {s : Cs} {x : Nat} {r : List UInt8} (h0 : s.e = 0) (hx : x < 18446744073709551616) (hr : s.rest = encN x ++ r) : s.num = x ∧ Rds s s.num' (encN x) := by
  obtain ⟨h1, h2⟩ := Cs.num_at h0 hx hr
  refine ⟨h1, h0, by rw [h2, h0], ?_⟩
  rw [h2, Cs.rest_move hr rfl, hr]
theorem limS_ok {l : List UInt8} {m : Int} (h : (limS l m).2.2 = 0) : (scanS l).2.2 = 0 ∧ limS l m = ((scanS l).1, (scanS l).2.1, 0) ∧ ((scanS l).1 : Int) ≤ m := by
  unfold limS at h ⊢
  by_cases h1 : (scanS l).2.2 ≠ 0
  · rw [if_pos h1] at h; exact absurd h h1
  · rw [if_neg h1] at h ⊢
    by_cases h2 : m < 0 ∨ m < (scanS l).1
    · rw [if_pos h2] at h; simp at h
    · rw [if_neg h2] at h ⊢
      exact ⟨by simpa using h1, rfl, by omega⟩
theorem Cs.moved_e0 {s : Cs} {k : Nat} {er : Int} (h : (s.moved k er).e = 0) : s.e = 0 ∧ er = 0 := by
  by_cases h0 : s.e = 0
  · by_cases he : er = 0
    · exact ⟨h0, he⟩
    · rw [Cs.moved_bad h0 _ he] at h; exact absurd h he
  · rw [Cs.moved_err h0] at h; exact absurd h h0
theorem Cs.int_rds {s : Cs} {m : Int} (h : (s.int' m).e = 0) : Rds s (s.int' m) (encN (s.int m)) ∧ (s.int m : Int) ≤ m ∧ s.int m < 18446744073709551616 := by
  obtain ⟨h0, he⟩ := Cs.moved_e0 h
  obtain ⟨h1, h2, h3⟩ := limS_ok he
  have hi : s.int m = (scanS s.rest).1 := by rw [(Cs.int_mk h0 m).1, h2]
  refine ⟨(Rds.of_moved h (fun _ => by rw [hi, scanS_enc h1, h2]) (fun _ => by rw [h2]; exact (scanS_facts _).2.1)).2, by rw [hi]; exact h3, by rw [hi]; exact (scanS_facts _).1⟩
theorem Cs.int_at' {s : Cs} {x : Nat} {r : List UInt8} (h0 : s.e = 0) {m : Int} (hx : (x : Int) ≤ m) (hm : m ≤ 9223372036854775807) (hr : s.rest = encN x ++ r) : s.int m = x ∧ Rds s (s.int' m) (encN x) := by
  have hs := scanS_back x (by omega) r
  have hl : limS s.rest m = (x, (encN x).length, 0) := by
    unfold limS; rw [hr, hs]; simp only [ne_eq, not_true_eq_false, if_false]
    rw [if_neg (by omega)]
  have h2 := (Cs.int_mk h0 m).2
  rw [hl] at h2
  refine ⟨by rw [(Cs.int_mk h0 m).1, hl], h0, h2, ?_⟩
  rw [h2, hr]
  congr 1
  exact (Cs.rest_move hr rfl).symm
theorem Cs.text_rds {s : Cs} {m : Int} (h : (s.text' m).e = 0) : Rds s (s.text' m) (encT (s.text m)) ∧ ((s.text m).length : Int) ≤ m := by
  obtain ⟨h0, he⟩ := Cs.moved_e0 h
  have e : textS s.rest m = tex3 s.rest (limS s.rest m).1 (limS s.rest m).2.1 (limS s.rest m).2.2 := rfl
  rw [e] at he
  by_cases hl : (limS s.rest m).2.2 = 0
  · obtain ⟨h1, h2, h3⟩ := limS_ok hl
    by_cases hx : s.rest.length - (limS s.rest m).2.1 < (limS s.rest m).1
    · rw [tex3_b (by simpa using hl) hx] at he; simp at he
    · have e2 := tex3_c (l := s.rest) (x := (limS s.rest m).1) (k := (limS s.rest m).2.1) (er := (limS s.rest m).2.2) (by simpa using hl) hx
      rw [← e, h2] at e2
      rw [h2] at hx
      simp only at e2 hx
      have hk := (scanS_facts s.rest).2.1
      have ht : s.text m = (s.rest.drop (scanS s.rest).2.1).take (scanS s.rest).1 := by rw [(Cs.text_mk h0 m).1, e2]
      have htl : (s.text m).length = (scanS s.rest).1 := by rw [ht, List.length_take, List.length_drop]; omega
      refine ⟨(Rds.of_moved h (fun _ => ?_) (fun _ => by rw [e2]; simp only; omega)).2, by rw [htl]; exact h3⟩
      rw [encT, htl, scanS_enc h1, ht, e2]
      simp only
      rw [List.take_add]
  · rw [tex3_a hl] at he; exact absurd he hl
theorem Cs.text_at' {s : Cs} {t r : List UInt8} (h0 : s.e = 0) {m : Int} (ht : (t.length : Int) ≤ m) (hm : m ≤ 9223372036854775807) (hr : s.rest = encT t ++ r) : s.text m = t ∧ Rds s (s.text' m) (encT t) := by
  obtain ⟨h1, h2⟩ := Cs.text_at h0 ht hm hr
  refine ⟨h1, h0, by rw [h2, h0], ?_⟩
  rw [h2, Cs.rest_move hr rfl, hr]
theorem Cs.take_rds {s : Cs} {n : Int} (h : (s.take' n).e = 0) : Rds s (s.take' n) (s.take n) ∧ (s.take n).length = n.toNat ∧ 0 ≤ n := by
  obtain ⟨h0, he⟩ := Cs.moved_e0 h
  have ht := takeErr_le he
  have e : s.take n = s.rest.take n.toNat := by rw [take_of h0, takeT, if_neg (by simpa using he)]
  exact ⟨(Rds.of_moved h (fun _ => e) (fun _ => ht.2)).2, by rw [e, List.length_take]; omega, ht.1⟩
theorem Cs.take_at' {s : Cs} {t r : List UInt8} (h0 : s.e = 0) {n : Int} (hn : n = t.length) (hr : s.rest = t ++ r) : s.take n = t ∧ Rds s (s.take' n) t := by
  obtain ⟨h1, h2⟩ := Cs.take_at h0 hn hr
  refine ⟨h1, h0, by rw [h2, h0], ?_⟩
  rw [h2, Cs.rest_move hr rfl, hr]
theorem Cs.byte_rds {s : Cs} (h : s.byte'.e = 0) : Rds s s.byte' [s.byte] := by
  obtain ⟨h1, h2, _⟩ := Cs.take_rds h
  have h3 : (s.take 1).length = 1 := h2
  obtain ⟨c, hc⟩ := List.length_eq_one_iff.1 h3
  have : s.byte = c := by unfold Cs.byte; rw [hc]; rfl
  rw [this, ← hc]; exact h1
theorem Cs.byte_at' {s : Cs} {c : UInt8} {r : List UInt8} (h0 : s.e = 0) (hr : s.rest = c :: r) : s.byte = c ∧ Rds s s.byte' [c] := by
  obtain ⟨h1, h2⟩ := Cs.take_at' (t := [c]) (n := 1) h0 rfl hr
  exact ⟨by unfold Cs.byte; rw [h1]; rfl, h2⟩
theorem encN_pos (x : Nat) : 1 ≤ (encN x).length := by
  by_cases h : 128 ≤ x
  · rw [encN_ge h]; simp
  · rw [encN_lt (by omega)]; simp
theorem encT_pos (t : List UInt8) : 1 ≤ (encT t).length := by
  have := encN_pos t.length
  unfold encT; rw [List.length_append]; omega
end Go.Proofs.Ytbkaoncopohdbaa

/-
  Rising rows of numbers, plain laws: what was written is read; what is read is what was written. Condition: bounds to 20000.
-/
import Derived.Test.YtpgmokfhcdibhaaEfQ
import Derived.Test.YtpgmokfhcdibhaaBitBk
import Derived.Test.YtpgmokfhcdibhaaScanB
namespace Go.Proofs.Ytpgmokfhcdibhaa
open Go.RowKit
set_option linter.unusedVariables false
set_option maxRecDepth 20000
theorem bitn_ext {a b : List Bool} (hl : a.length = b.length) (h : ∀ i, i < a.length → bitn a i = bitn b i) : a = b := by
  apply List.ext_getElem hl
  intro i h1 h2
  apply toNat_inj
  rw [← getD_get h1, ← getD_get h2]
  exact h i h1
theorem bitn_take {q : List Bool} {n i : Nat} (h : i < n) : bitn (q.take n) i = bitn q i := by
  simp [bitn, List.getD_eq_getElem?_getD, h]
theorem unp_append (a b : List UInt8) : unp (a ++ b) = unp a ++ unp b := by
  refine bitn_ext (by simp [unp_length]; omega) (fun i hi => ?_)
  rw [unp_length, List.length_append] at hi
  rw [unp_bit _ (by rw [List.length_append]; exact hi)]
  by_cases h : i < 8 * a.length
  · rw [bitn_left (by rw [unp_length]; exact h), unp_bit _ h]
    congr 2
    rw [List.getD_eq_getElem?_getD, List.getD_eq_getElem?_getD, List.getElem?_append_left (by omega)]
  · have e := bitn_right (unp a) (unp b) (i - 8 * a.length)
    rw [unp_length, show 8 * a.length + (i - 8 * a.length) = i by omega] at e
    rw [e, unp_bit _ (by omega), show (i - 8 * a.length) % 8 = i % 8 by omega, show (i - 8 * a.length) / 8 = i / 8 - a.length by omega]
    congr 2
    rw [List.getD_eq_getElem?_getD, List.getD_eq_getElem?_getD, List.getElem?_append_right (by omega)]
theorem unp_take (l : List UInt8) {k : Nat} (h : k ≤ l.length) : unp (l.take k) = (unp l).take (8 * k) := by
  have e : unp l = unp (l.take k) ++ unp (l.drop k) := by rw [← unp_append, List.take_append_drop]
  rw [e, List.take_left' (by rw [unp_length, List.length_take]; omega)]
theorem hi_zeros (m : Nat) : hi 0 m m = List.replicate m false := by
  apply List.ext_getElem
  · simp [hi]
  · intro i h1 h2; simp [hi]
theorem part_zeros (q r : List Bool) (m : Nat) : part (q ++ (List.replicate m false ++ r)) q.length m = 0 := by
  rw [← hi_zeros]; exact part_put q r 0 m (Nat.two_pow_pos m)
theorem take_part (q : List Bool) (i m : Nat) (h : i + m ≤ q.length) : q.take (i + m) = q.take i ++ hi (part q i m) m m := by
  refine bitn_ext (by simp [hi_length]; omega) (fun k hk => ?_)
  rw [List.length_take] at hk
  rw [bitn_take (by omega)]
  by_cases hlt : k < i
  · rw [bitn_left (by rw [List.length_take]; omega), bitn_take hlt]
  · have e := bitn_right (q.take i) (hi (part q i m) m m) (k - i)
    rw [List.length_take, Nat.min_eq_left (by omega), show i + (k - i) = k by omega] at e
    rw [e, hi_bit _ _ (by omega)]
    have e2 := part_shift q i (k - i + 1) (m - 1 - (k - i))
    rw [show k - i + 1 + (m - 1 - (k - i)) = m by omega] at e2
    rw [e2, part, show i + (k - i) = k by omega]
    have := bitn_le q k
    omega
theorem take_un (q : List Bool) : ∀ m pos, q.length - pos ≤ m → Z q pos < q.length → q.take (Z q pos + 1) = q.take pos ++ un (Z q pos - pos)
  | 0, pos, h, hz => absurd hz (by rw [z_end (by omega)]; omega)
  | m + 1, pos, h, hz => by
    by_cases hp : pos < q.length
    · by_cases hb : bitn q pos = 1
      · rw [z_hit hb hp, Nat.sub_self, take_getD hp false]
        have : q.getD pos false = true := by
          unfold bitn at hb
          cases h : q.getD pos false
          · rw [h] at hb; simp at hb
          · rfl
        rw [this]; rfl
      · have hs := z_step hb hp
        rw [hs] at hz ⊢
        have hge : pos + 1 ≤ Z q (pos + 1) := z_ge _ _ _
        rw [take_un q m (pos + 1) (by omega) hz, take_getD hp false]
        have : q.getD pos false = false := by
          unfold bitn at hb
          cases h : q.getD pos false
          · rfl
          · rw [h] at hb; simp at hb
        rw [this, show Z q (pos + 1) - pos = (Z q (pos + 1) - (pos + 1)) + 1 by omega]
        simp [un, List.replicate_succ]
    · exact absurd hz (by rw [z_end (by omega)]; omega)
/-- numbers rise above 'was', below a bound -/
def up (bound : Nat) : Int → List Nat → Prop
  | _, [] => True
  | was, x :: r => was < x ∧ x < bound ∧ up bound (x : Int) r
theorem up_of {bound : Nat} : ∀ (xs : List Nat) (was : Int), (∀ i, i < xs.length → xs.getD i 0 < bound ∧ (0 < i → xs.getD (i - 1) 0 < xs.getD i 0)) → (0 < xs.length → was < xs.getD 0 0) → up bound was xs
  | [], _, _, _ => trivial
  | x :: r, was, h, h0 => by
    refine ⟨h0 (by simp), (h 0 (by simp)).1, up_of r x (fun i hi => ?_) (fun hr => ?_)⟩
    · have := h (i + 1) (by simp; omega)
      refine ⟨this.1, fun hp => ?_⟩
      have h2 := this.2 (by omega)
      rw [Nat.add_sub_cancel] at h2
      obtain ⟨j, rfl⟩ : ∃ j, i = j + 1 := ⟨i - 1, by omega⟩
      exact h2
    · have := (h 1 (by simp; omega)).2 (by omega)
      exact Int.ofNat_lt.2 this
theorem up_iff {bound : Nat} : ∀ (xs : List Nat) (was : Int), up bound was xs → (∀ i, i < xs.length → xs.getD i 0 < bound ∧ (0 < i → xs.getD (i - 1) 0 < xs.getD i 0)) ∧ (0 < xs.length → was < xs.getD 0 0)
  | [], _, _ => ⟨fun i hi => absurd hi (by simp), fun h => absurd h (by simp)⟩
  | x :: r, was, ⟨h1, h2, h3⟩ => by
    obtain ⟨a, b⟩ := up_iff r x h3
    refine ⟨fun i hi => ?_, fun _ => h1⟩
    cases i with
    | zero => exact ⟨h2, fun h => absurd h (by omega)⟩
    | succ j =>
      have hj : j < r.length := by simp at hi; omega
      refine ⟨(a j hj).1, fun _ => ?_⟩
      cases j with
      | zero => exact Int.ofNat_lt.1 (b hj)
      | succ k => exact (a (k + 1) hj).2 (by omega)
theorem loS_get {p w : Nat} (hp : p = 2 ^ w) : ∀ (xs : List Nat) (pre R : List Bool) (i : Nat), i < xs.length → part (pre ++ (loS p w xs ++ R)) (pre.length + i * w) w = xs.getD i 0 % p
  | [], _, _, _, h => absurd h (by simp)
  | x :: r, pre, R, 0, h => by
    have := part_put pre (loS p w r ++ R) (x % p) w (by rw [hp]; exact Nat.mod_lt _ (Nat.two_pow_pos w))
    rw [Nat.zero_mul, Nat.add_zero]
    simpa [loS, List.append_assoc] using this
  | x :: r, pre, R, i + 1, h => by
    have := loS_get hp r (pre ++ hi (x % p) w w) R i (by simp at h; omega)
    rw [List.length_append, hi_length, Nat.add_assoc, show w + i * w = (i + 1) * w by rw [Nat.succ_mul]; omega] at this
    simpa [loS, List.append_assoc] using this
theorem loR_back {p w : Nat} (hp : p = 2 ^ w) (xs : List Nat) (R : List Bool) : loR (loS p w xs ++ R) w xs.length = xs.map (· % p) := by
  apply List.ext_getElem
  · simp [loR]
  · intro i h1 h2
    have h3 : i < xs.length := by simpa [loR] using h1
    have := loS_get hp xs [] R i h3
    rw [List.nil_append, List.length_nil, Nat.zero_add] at this
    simp [loR, this, List.getD_eq_getElem?_getD, h3]
theorem rw_back {bound p w : Nat} (hp : p = 2 ^ w) (q R : List Bool) : ∀ (xs : List Nat) (pre : List Bool) (high : Nat) (was : Int) (out : List Nat), q = pre ++ (unS p high xs ++ R) → up bound was xs → high = was.toNat / p →
    rwF bound p q (xs.map (· % p)) pre.length high was out = (out ++ xs, (pre ++ unS p high xs).length, 0)
  | [], pre, high, was, out, hq, hu, hh => by simp [rwF, unS]
  | x :: r, pre, high, was, out, hq, ⟨u1, u2, u3⟩, hh => by
    have hp0 : 0 < p := by rw [hp]; exact Nat.two_pow_pos w
    have hle : high ≤ x / p := by rw [hh]; exact Nat.div_le_div_right (by omega)
    have hq' : q = pre ++ (un (x / p - high) ++ (unS p (x / p) r ++ R)) := by rw [hq]; simp [unS, List.append_assoc]
    have hz : Z q pre.length = pre.length + (x / p - high) := by rw [hq']; exact z_un pre _ _
    have hlt : Z q pre.length < q.length := by rw [hz, hq']; simp [un_length]; omega
    have e1 : high + (Z q pre.length - pre.length) = x / p := by rw [hz]; omega
    have e2 : x / p * p + x % p = x := by rw [Nat.mul_comm]; exact Nat.div_add_mod x p
    have ih := rw_back hp q R r (pre ++ un (x / p - high)) (x / p) (x : Int) (out ++ [x]) (by rw [hq', List.append_assoc]) u3 (by simp)
    rw [List.map_cons, rwF, if_neg (by omega), e1, e2, if_neg (by omega), if_neg (by omega)]
    rw [show Z q pre.length + 1 = (pre ++ un (x / p - high)).length by rw [List.length_append, un_length, hz]; omega, ih]
    simp [unS, List.append_assoc]
/-- a row that was written is read -/
theorem efRow_back {bound : Nat} {xs : List Nat} (hR : RisN bound xs) (more : List UInt8) (hn : 0 < xs.length) :
    efRow bound xs.length (packed (efQ (2 ^ wid bound xs.length) (wid bound xs.length) xs) ++ more) = (xs, (packed (efQ (2 ^ wid bound xs.length) (wid bound xs.length) xs)).length, 0) := by
  obtain ⟨w, hw⟩ : ∃ w, w = wid bound xs.length := ⟨_, rfl⟩
  obtain ⟨p, hp⟩ : ∃ p, p = 2 ^ w := ⟨_, rfl⟩
  obtain ⟨Q, hQ⟩ : ∃ Q, Q = efQ p w xs := ⟨_, rfl⟩
  obtain ⟨b, hb⟩ : ∃ b, b = packed Q ++ more := ⟨_, rfl⟩
  rw [← hw, ← hp, ← hQ, ← hb]
  have hu : unp b = Q ++ (pad Q ++ unp more) := by rw [hb, unp_append, unp_of_packed, List.append_assoc]
  have hq2 : unp b = loS p w xs ++ (unS p 0 xs ++ (pad Q ++ unp more)) := by
    have e : Q = loS p w xs ++ unS p 0 xs := hQ
    rw [hu]; generalize pad Q = P; rw [e, List.append_assoc]
  have hlo : loR (unp b) w xs.length = xs.map (· % p) := by rw [hq2]; exact loR_back hp xs _
  have hF : efF bound xs.length b = (xs, Q.length, 0) := by
    unfold efF
    rw [← hw, ← hp, hlo]
    have := rw_back (bound := bound) hp (unp b) (pad Q ++ unp more) xs (loS p w xs) 0 (-1) [] hq2 (up_of xs (-1) hR (fun _ => by omega)) (by simp)
    rw [loS_length] at this
    rw [this, List.nil_append, hQ, efQ]
  have hpl := pad_length Q
  have hul := unp_length b
  have hml := unp_length more
  have hbl : b.length = (Q.length + 7) / 8 + more.length := by rw [hb, List.length_append, packed_length]
  have hr : efRest bound xs.length b = (pad Q).length := by
    unfold efRest
    rw [hF]
    simp only
    omega
  have hlen : (loS p w xs).length ≤ (unp b).length := by rw [hq2, List.length_append]; omega
  rw [loS_length] at hlen
  unfold efRow
  rw [← hw, if_neg (by omega), hr, hF]
  have hz := part_zeros Q (unp more) (pad Q).length
  rw [show List.replicate (pad Q).length false = pad Q by simp [pad], ← hu] at hz
  rw [if_neg (by simp), if_neg (by simp only [hz]; simp)]
  rw [packed_length]
  simp only
  congr 2
  omega
/-- a row that is read is what was written -/
theorem rw_one {bound p w : Nat} (hp : p = 2 ^ w) (q : List Bool) : ∀ (ls : List Nat) (pos high : Nat) (was : Int) (out : List Nat), (∀ x ∈ ls, x < p) → pos ≤ q.length → (rwF bound p q ls pos high was out).2.2 = 0 →
    ∃ ys, (rwF bound p q ls pos high was out).1 = out ++ ys ∧ ls = ys.map (· % p) ∧ up bound was ys ∧ (rwF bound p q ls pos high was out).2.1 ≤ q.length ∧ q.take (rwF bound p q ls pos high was out).2.1 = q.take pos ++ unS p high ys
  | [], pos, high, was, out, hl, hpos, h => ⟨[], by simp [rwF], rfl, trivial, by simpa [rwF] using hpos, by simp [rwF, unS]⟩
  | x :: r, pos, high, was, out, hl, hpos, h => by
    have hx := hl x (by simp)
    have hp0 : 0 < p := by omega
    by_cases h1 : Z q pos < q.length
    · obtain ⟨y, hy⟩ : ∃ y, y = (high + (Z q pos - pos)) * p + x := ⟨_, rfl⟩
      have hyd : y / p = high + (Z q pos - pos) := by rw [hy, Nat.mul_comm, Nat.mul_add_div hp0, Nat.div_eq_of_lt hx, Nat.add_zero]
      have hym : y % p = x := by rw [hy, Nat.mul_comm, Nat.mul_add_mod, Nat.mod_eq_of_lt hx]
      rw [rwF, if_neg (by omega), ← hy] at h ⊢
      by_cases h2 : (y : Int) ≤ was
      · rw [if_pos h2] at h; simp at h
      · by_cases h3 : bound ≤ y
        · rw [if_neg h2, if_pos h3] at h; simp at h
        · rw [if_neg h2, if_neg h3] at h ⊢
          obtain ⟨ys, e1, e2, e3, e4, e5⟩ := rw_one hp q r (Z q pos + 1) (high + (Z q pos - pos)) y (out ++ [y]) (fun z hz => hl z (by simp [hz])) (by omega) h
          refine ⟨y :: ys, by rw [e1]; simp, by rw [List.map_cons, hym, ← e2], ⟨by omega, by omega, e3⟩, e4, ?_⟩
          rw [e5, take_un q _ pos (Nat.le_refl _) h1, unS, hyd, show high + (Z q pos - pos) - high = Z q pos - pos by omega, List.append_assoc]
    · rw [rwF, if_pos h1] at h; simp at h
theorem loR_take (q : List Bool) (w : Nat) : ∀ n, n * w ≤ q.length → q.take (n * w) = (loR q w n).flatMap fun x => hi x w w
  | 0, _ => by simp [loR]
  | n + 1, h => by
    rw [Nat.succ_mul] at h ⊢
    rw [take_part q _ _ h, loR_take q w n (by omega), loR_succ, List.flatMap_append]
    simp
theorem efRow_one {bound n : Nat} {b : List UInt8} (h : (efRow bound n b).2.2 = 0) :
    (efRow bound n b).1.length = n ∧ RisN bound (efRow bound n b).1 ∧ packed (efQ (2 ^ wid bound n) (wid bound n) (efRow bound n b).1) = b.take (efRow bound n b).2.1 := by
  obtain ⟨w, hw⟩ : ∃ w, w = wid bound n := ⟨_, rfl⟩
  obtain ⟨p, hp⟩ : ∃ p, p = 2 ^ w := ⟨_, rfl⟩
  rw [← hw, ← hp]
  by_cases h1 : (unp b).length < n * w
  · rw [efRow_lo (by rw [← hw]; exact h1)] at h; simp at h
  · have h1' : ¬ (unp b).length < n * wid bound n := by rw [← hw]; exact h1
    by_cases h2 : (efF bound n b).2.2 = 0
    · by_cases h3 : part (unp b) (efF bound n b).2.1 (efRest bound n b) = 0
      · rw [efRow_ok h1' (by simpa using h2) (by simpa using h3)]
        have hF : efF bound n b = rwF bound p (unp b) (loR (unp b) w n) (n * w) 0 (-1) [] := by unfold efF; rw [← hw, ← hp]
        have hlt : ∀ x ∈ loR (unp b) w n, x < p := by
          intro x hx
          obtain ⟨i, _, rfl⟩ := List.mem_map.1 hx
          rw [hp]; exact part_lt _ _ _
        obtain ⟨ys, e1, e2, e3, e4, e5⟩ := rw_one (bound := bound) hp (unp b) (loR (unp b) w n) (n * w) 0 (-1) [] hlt (by omega) (by rw [← hF]; exact h2)
        rw [← hF] at e1 e4 e5
        rw [List.nil_append] at e1
        have hyl : ys.length = n := by
          have := congrArg List.length e2
          rw [loR_length, List.length_map] at this
          exact this.symm
        have hQ : efQ p w ys = (unp b).take (efF bound n b).2.1 := by
          rw [e5, loR_take _ _ _ (by omega), e2, efQ, loS, List.flatMap_map]
        obtain ⟨pos, hpos⟩ : ∃ pos, pos = (efF bound n b).2.1 := ⟨_, rfl⟩
        have hrest : efRest bound n b = ((unp b).length - pos) % 8 := by unfold efRest; rw [hpos]
        rw [← hpos] at e4 hQ h3
        rw [← hpos, e1]
        have hul := unp_length b
        refine ⟨hyl, (up_iff ys _ e3).1, ?_⟩
        simp only
        obtain ⟨K, hK⟩ : ∃ K, pos + efRest bound n b = 8 * K := ⟨(pos + efRest bound n b) / 8, by omega⟩
        rw [hK, show b.length - ((unp b).length - 8 * K) / 8 = K by omega]
        have hKl : K ≤ b.length := by omega
        have hQl : (efQ p w ys).length = pos := by rw [hQ, List.length_take]; omega
        have ez : unp (b.take K) = efQ p w ys ++ List.replicate (efRest bound n b) false := by
          rw [unp_take b hKl, ← hK, take_part _ _ _ (by omega), h3, hi_zeros, hQ]
        have ep : pad (efQ p w ys) = List.replicate (efRest bound n b) false := by
          unfold pad
          rw [hQl]
          congr 1
          omega
        rw [← unp_packed (packed (efQ p w ys)), unp_of_packed, ep, ← ez, unp_packed]
      · rw [efRow_p h1' (by simpa using h2) (by simpa using h3)] at h; simp at h
    · rw [efRow_e h1' h2] at h; exact absurd h h2
end Go.Proofs.Ytpgmokfhcdibhaa

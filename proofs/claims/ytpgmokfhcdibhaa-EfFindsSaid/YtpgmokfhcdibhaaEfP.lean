/-
  Rising rows of numbers: plain functions. No condition.
-/
import Derived.Test.YtpgmokfhcdibhaaBitW
import Derived.Test.YtpgmokfhcdibhaaNumPure
namespace Go.Proofs.Ytpgmokfhcdibhaa
open Go.RowKit
set_option linter.unusedVariables false
set_option maxRecDepth 20000
def natv (l : List Nat) : List Value := l.map fun (n : Nat) => Value.int .i64 (n : Int)
@[simp] theorem natv_append (l k : List Nat) : natv (l ++ k) = natv l ++ natv k := by simp [natv]
@[simp] theorem natv_length (l : List Nat) : (natv l).length = l.length := by simp [natv]
theorem natv_one (l : List Nat) : ∀ u ∈ natv l, u.oneCell' = true := by
  intro u hu; obtain ⟨b, _, rfl⟩ := List.mem_map.1 hu; rfl
theorem natv_get {l : List Nat} {k : Nat} (h : k < l.length) : (natv l)[k * 1]? = some (.int .i64 (l.getD k 0 : Nat)) := by
  simp [natv, List.getD, List.getElem?_eq_getElem h]
def u16v (l : List Nat) : List Value := l.map fun (n : Nat) => Value.int .u16 (n : Int)
@[simp] theorem u16v_append (l k : List Nat) : u16v (l ++ k) = u16v l ++ u16v k := by simp [u16v]
@[simp] theorem u16v_length (l : List Nat) : (u16v l).length = l.length := by simp [u16v]
theorem u16v_get {l : List Nat} {k : Nat} (h : k < l.length) : (u16v l)[k * 1]? = some (.int .u16 (l.getD k 0 : Nat)) := by
  simp [u16v, List.getD, List.getElem?_eq_getElem h]
/-- numbers rise below a bound -/
def risC (bound : Int) (ids : List Int) (i : Nat) : Prop := 0 ≤ ids.getD i 0 ∧ ids.getD i 0 < bound ∧ (0 < i → ids.getD (i - 1) 0 < ids.getD i 0)
def Ris (bound : Int) (ids : List Int) : Prop := ∀ i, i < ids.length → risC bound ids i
instance (bound : Int) (ids : List Int) (i : Nat) : Decidable (risC bound ids i) := inferInstanceAs (Decidable (_ ∧ _ ∧ _))
instance (bound : Int) (ids : List Int) : Decidable (Ris bound ids) := inferInstanceAs (Decidable (∀ i, i < ids.length → _))
/-- .. as numbers that are not below 0 -/
def RisN (bound : Nat) (xs : List Nat) : Prop := ∀ i, i < xs.length → xs.getD i 0 < bound ∧ (0 < i → xs.getD (i - 1) 0 < xs.getD i 0)
theorem Ris.nats {bound : Int} {ids : List Int} (h : Ris bound ids) : ∃ xs : List Nat, ids = xs.map (fun (n : Nat) => (n : Int)) := by
  refine ⟨ids.map Int.toNat, ?_⟩
  apply List.ext_getElem
  · simp
  · intro i h1 h2
    have := (h i h1).1
    rw [List.getD_eq_getElem?_getD, List.getElem?_eq_getElem h1] at this
    simp at this ⊢
    omega
theorem cast_getD (xs : List Nat) (i : Nat) : (xs.map (fun (n : Nat) => (n : Int))).getD i 0 = ((xs.getD i 0 : Nat) : Int) := by
  simp only [List.getD_eq_getElem?_getD, List.getElem?_map]
  cases xs[i]? <;> rfl
theorem ris_iff (bound : Nat) (xs : List Nat) : Ris bound (xs.map (fun (n : Nat) => (n : Int))) ↔ RisN bound xs := by
  unfold Ris RisN risC
  simp only [cast_getD, List.length_map]
  exact ⟨fun h i hi => by have := h i hi; omega, fun h i hi => by have := h i hi; omega⟩
theorem ints_nat (xs : List Nat) : ints .i64 (xs.map (fun (n : Nat) => (n : Int))) = natv xs := by simp [ints, natv]
theorem RisN.ge {bound : Nat} {xs : List Nat} (h : RisN bound xs) : ∀ i, i < xs.length → i ≤ xs.getD i 0
  | 0, _ => Nat.zero_le _
  | i + 1, hi => by
    have h1 := RisN.ge h i (by omega)
    have h2 := (h (i + 1) hi).2 (by omega)
    rw [Nat.add_sub_cancel] at h2
    omega
theorem RisN.len {bound : Nat} {xs : List Nat} (h : RisN bound xs) : xs.length ≤ bound := by
  rcases Nat.eq_zero_or_pos xs.length with h0 | h0
  · omega
  · have h1 := h.ge (xs.length - 1) (by omega)
    have h2 := (h (xs.length - 1) (by omega)).1
    omega
/-- low bits, and how many -/
def wid (bound n : Nat) : Nat := Nat.log2 (bound / n)
theorem wid_le {bound n : Nat} (h : bound ≤ 20000) : wid bound n ≤ 14 := by
  unfold wid
  by_cases h0 : bound / n = 0
  · rw [h0]; decide
  · have : bound / n < 2 ^ 15 := by have := Nat.div_le_self bound n; omega
    have := (Nat.log2_lt h0).2 this
    omega
theorem pow_le14 {w : Nat} (h : w ≤ 14) : 2 ^ w ≤ 16384 := Nat.pow_le_pow_right (by omega) h
def unS (p was : Nat) : List Nat → List Bool
  | [] => []
  | x :: xs => un (x / p - was) ++ unS p (x / p) xs
def loS (p w : Nat) (xs : List Nat) : List Bool := xs.flatMap fun x => hi (x % p) w w
def efQ (p w : Nat) (xs : List Nat) : List Bool := loS p w xs ++ unS p 0 xs
def efB (bound : Nat) (xs : List Nat) : List UInt8 := encN xs.length ++ (if xs.length = 0 then [] else packed (efQ (2 ^ wid bound xs.length) (wid bound xs.length) xs))
def efW (bound : Int) (ids : List Int) : List UInt8 × Int := if bound < 0 ∨ 20000 < bound ∨ ¬ Ris bound ids then ([], 13) else (efB bound.toNat (ids.map Int.toNat), 0)
theorem efW_bad {bound : Int} {ids : List Int} (h : bound < 0 ∨ 20000 < bound ∨ ¬ Ris bound ids) : efW bound ids = ([], 13) := if_pos h
theorem efW_ok {bound : Nat} {xs : List Nat} (h : ¬ ((bound : Int) < 0 ∨ (20000 : Int) < bound ∨ ¬ Ris bound (xs.map (fun (n : Nat) => (n : Int))))) : efW bound (xs.map (fun (n : Nat) => (n : Int))) = (efB bound xs, 0) := by
  have e : (xs.map (fun (n : Nat) => (n : Int))).map Int.toNat = xs := by simp [Function.comp_def]
  unfold efW
  rw [if_neg h, Int.toNat_natCast, e]
theorem loS_snoc (p w : Nat) (xs : List Nat) (x : Nat) : loS p w (xs ++ [x]) = loS p w xs ++ hi (x % p) w w := by simp [loS]
theorem loS_length (p w : Nat) (xs : List Nat) : (loS p w xs).length = xs.length * w := by
  induction xs with
  | nil => simp [loS]
  | cons x xs ih => simp only [loS, List.flatMap_cons, List.length_append, hi_length, List.length_cons, Nat.succ_mul] at ih ⊢; omega
def lastP (p was : Nat) (xs : List Nat) : Nat := xs.foldl (fun _ x => x / p) was
theorem lastP_snoc (p was : Nat) (xs : List Nat) (x : Nat) : lastP p was (xs ++ [x]) = x / p := by simp [lastP]
theorem unS_snoc (p : Nat) (x : Nat) : ∀ (xs : List Nat) (was : Nat), unS p was (xs ++ [x]) = unS p was xs ++ un (x / p - lastP p was xs)
  | [], was => by simp [unS, lastP]
  | y :: xs, was => by
    rw [List.cons_append, unS, unS, unS_snoc p x xs (y / p), List.append_assoc]
    rfl
theorem lastP_take {p : Nat} {xs : List Nat} {k : Nat} (h : k < xs.length) : lastP p 0 (xs.take (k + 1)) = xs.getD k 0 / p := by
  rw [take_getD h 0, lastP_snoc]
theorem lastP_le {bound p : Nat} {xs : List Nat} (h : RisN bound xs) {k : Nat} (hk : k < xs.length) : lastP p 0 (xs.take k) ≤ xs.getD k 0 / p := by
  rcases k with _ | k
  · simp [lastP]
  · rw [lastP_take (by omega)]
    have := (h (k + 1) hk).2 (by omega)
    rw [Nat.add_sub_cancel] at this
    exact Nat.div_le_div_right (Nat.le_of_lt this)
/-- the unary part's length: all steps together are the last number's high part -/
theorem unS_length {bound p : Nat} {xs : List Nat} (h : RisN bound xs) : ∀ k, k ≤ xs.length → (unS p 0 (xs.take k)).length = k + lastP p 0 (xs.take k)
  | 0, _ => by simp [unS, lastP]
  | k + 1, hk => by
    have h1 := unS_length h (p := p) k (by omega)
    have h2 := lastP_le (p := p) h (k := k) (by omega)
    rw [lastP_take (by omega), take_getD (by omega) 0, unS_snoc, List.length_append, un_length, h1]
    omega
theorem lastP_bd {bound p : Nat} {xs : List Nat} (h : RisN bound xs) (k : Nat) (hk : k ≤ xs.length) : lastP p 0 (xs.take k) ≤ bound := by
  rcases k with _ | k
  · simp [lastP]
  · rw [lastP_take (by omega)]
    have := (h k (by omega)).1
    have := Nat.div_le_self (xs.getD k 0) p
    omega
theorem efQ_len {bound p w : Nat} {xs : List Nat} (h : RisN bound xs) (hb : bound ≤ 20000) (hw : w ≤ 14) : (efQ p w xs).length ≤ 400000 := by
  have h1 := loS_length p w xs
  have h2 := unS_length (p := p) h xs.length (Nat.le_refl _)
  have h3 := lastP_bd (p := p) h xs.length (Nat.le_refl _)
  have h4 := h.len
  rw [List.take_length] at h2 h3
  have h5 : xs.length * w ≤ 20000 * 14 := Nat.mul_le_mul (by omega) hw
  unfold efQ
  rw [List.length_append]; omega
end Go.Proofs.Ytpgmokfhcdibhaa

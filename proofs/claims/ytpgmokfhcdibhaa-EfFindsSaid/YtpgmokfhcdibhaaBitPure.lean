/-
  Plain laws on rows of bits. No condition.
-/
import Derived.Test.YtpgmokfhcdibhaaEngF
import Derived.Test.YtpgmokfhcdibhaaBits
namespace Go.Proofs.Ytpgmokfhcdibhaa
def bitn (q : List Bool) (i : Nat) : Nat := (q.getD i false).toNat
theorem bitn_le (q : List Bool) (i : Nat) : bitn q i ≤ 1 := Bool.toNat_le _
/-- the number that 'm' bits from place 'i' on are, bits 0 behind the end -/
def part (q : List Bool) (i : Nat) : Nat → Nat
  | 0 => 0
  | m + 1 => 2 * part q i m + bitn q (i + m)
theorem part_lt (q : List Bool) (i : Nat) : ∀ m, part q i m < 2 ^ m
  | 0 => by simp [part]
  | m + 1 => by have := part_lt q i m; have := bitn_le q (i + m); simp only [part, Nat.pow_succ]; omega
def octet (q : List Bool) (k : Nat) : UInt8 := UInt8.ofNat (part q (8 * k) 8)
theorem octet_nat (q : List Bool) (k : Nat) : (octet q k).toNat = part q (8 * k) 8 := by
  have := part_lt q (8 * k) 8
  rw [octet, UInt8.toNat_ofNat']
  exact Nat.mod_eq_of_lt this
def octets (q : List Bool) (k : Nat) : List UInt8 := (List.range k).map (octet q)
theorem octets_length (q : List Bool) (k : Nat) : (octets q k).length = k := by simp [octets]
theorem octets_succ (q : List Bool) (k : Nat) : octets q (k + 1) = octets q k ++ [octet q k] := by simp [octets, List.range_succ]
def packed (q : List Bool) : List UInt8 := octets q ((q.length + 7) / 8)
theorem packed_length (q : List Bool) : (packed q).length = (q.length + 7) / 8 := octets_length _ _
theorem octets_get (q : List Bool) {n k : Nat} (h : k < n) : (octets q n).getD k 0 = octet q k := by
  simp [octets, List.getD_eq_getElem?_getD, h]
theorem bitn_app (q : List Bool) (b : Bool) (i : Nat) : bitn (q ++ [b]) i = if i = q.length then b.toNat else bitn q i := by
  unfold bitn
  split
  · subst i; simp [List.getD_eq_getElem?_getD]
  · simp only [List.getD_eq_getElem?_getD, List.getElem?_append]
    split
    · rfl
    · rw [List.getElem?_eq_none (by simp; omega), List.getElem?_eq_none (by omega)]
theorem bitn_out (q : List Bool) {i : Nat} (h : q.length ≤ i) : bitn q i = 0 := by
  simp [bitn, List.getD_eq_getElem?_getD, h]
theorem part_keep (q : List Bool) (b : Bool) (i : Nat) : ∀ m, (q.length < i ∨ i + m ≤ q.length) → part (q ++ [b]) i m = part q i m
  | 0, _ => rfl
  | m + 1, h => by
    rw [part, part, part_keep q b i m (by omega), bitn_app, if_neg (by omega)]
theorem part_zero (q : List Bool) (i : Nat) : ∀ m, q.length ≤ i → part q i m = 0
  | 0, _ => rfl
  | m + 1, h => by rw [part, part_zero q i m h, bitn_out q (by omega)]
/-- a bit more in the midst: the bits behind are 0 -/
theorem part_tail (q : List Bool) (i m : Nat) (h : i + m = q.length) : ∀ j, part q i (m + j) = part q i m * 2 ^ j
  | 0 => by simp
  | j + 1 => by
    rw [← Nat.add_assoc, part, part_tail q i m h j, bitn_out q (by omega), Nat.pow_succ]
    rw [Nat.mul_comm 2, Nat.mul_assoc]; rfl
theorem part_set (q : List Bool) (b : Bool) (i m : Nat) (h : i + m = q.length) (j : Nat) : part (q ++ [b]) i (m + 1 + j) = part q i (m + 1 + j) ||| b.toNat * 2 ^ j := by
  rw [part_tail (q ++ [b]) i (m + 1) (by simp; omega), Nat.add_assoc, part_tail q i m h, part, part_keep q b i m (by omega), bitn_app, if_pos h, Nat.add_comm 1 j]
  have hb := Bool.toNat_le b
  have e : part q i m * 2 ^ (j + 1) = 2 ^ (j + 1) * part q i m := Nat.mul_comm _ _
  rw [e, ← Nat.two_pow_add_eq_or_of_lt (by rw [Nat.pow_succ]; have := Nat.two_pow_pos j; rcases b with _ | _ <;> simp <;> omega), Nat.add_mul, Nat.pow_succ]
  congr 1
  rw [Nat.mul_comm 2 (part q i m), Nat.mul_assoc, Nat.mul_comm 2 (2 ^ j), Nat.mul_comm (part q i m)]
theorem octet_eq {q q' : List Bool} {k : Nat} (h : part q (8 * k) 8 = part q' (8 * k) 8) : octet q k = octet q' k := by rw [octet, octet, h]
theorem octets_keep (q : List Bool) (b : Bool) {n : Nat} (h : 8 * n ≤ q.length) : octets (q ++ [b]) n = octets q n := by
  simp only [octets]
  apply List.map_congr_left
  intro k hk
  have := List.mem_range.mp hk
  exact octet_eq (part_keep q b _ _ (by omega))
theorem part_bound (q : List Bool) (k : Nat) : part q k 8 < 256 := part_lt q k 8
/-- the row of bytes with room for one more bit -/
def room (q : List Bool) : List UInt8 := octets q (q.length / 8 + 1)
theorem room_length (q : List Bool) : (room q).length = q.length / 8 + 1 := octets_length _ _
theorem room_new {q : List Bool} (h : q.length % 8 = 0) : packed q ++ [0] = room q := by
  rw [packed, room, show (q.length + 7) / 8 = q.length / 8 by omega, octets_succ]
  congr 2
  rw [octet, part_zero q _ _ (by omega)]; rfl
theorem room_old {q : List Bool} (h : ¬ q.length % 8 = 0) : packed q = room q := by
  rw [packed, room, show (q.length + 7) / 8 = q.length / 8 + 1 by omega]
theorem room_get (q : List Bool) : ((room q).getD (q.length / 8) 0).toNat = part q (8 * (q.length / 8)) 8 := by
  rw [room, octets_get q (by omega), octet_nat]
theorem or_u8 {a b : Nat} (ha : a < 256) (hb : b < 256) : IntKind.u8.wrap ((BitVec.ofInt IntKind.u8.bits (a : Int) ||| BitVec.ofInt IntKind.u8.bits (b : Int)).toNat : Int) = ((a ||| b : Nat) : Int) := u8_or a b ha hb
theorem and_u64 {a b : Nat} (ha : a < 18446744073709551616) (hb : b < 18446744073709551616) : IntKind.u64.wrap ((BitVec.ofInt IntKind.u64.bits (a : Int) &&& BitVec.ofInt IntKind.u64.bits (b : Int)).toNat : Int) = ((a &&& b : Nat) : Int) := u64_and a b ha hb
theorem or_u64 {a b : Nat} (ha : a < 18446744073709551616) (hb : b < 18446744073709551616) : IntKind.u64.wrap ((BitVec.ofInt IntKind.u64.bits (a : Int) ||| BitVec.ofInt IntKind.u64.bits (b : Int)).toNat : Int) = ((a ||| b : Nat) : Int) := u64_or a b ha hb
theorem part_now (q : List Bool) (b : Bool) : part q (8 * (q.length / 8)) 8 ||| b.toNat * 2 ^ (7 - q.length % 8) = part (q ++ [b]) (8 * (q.length / 8)) 8 := by
  have := part_set q b (8 * (q.length / 8)) (q.length % 8) (by omega) (7 - q.length % 8)
  rw [show q.length % 8 + 1 + (7 - q.length % 8) = 8 by omega] at this
  exact this.symm
theorem room_set (q : List Bool) (b : Bool) : (room q).set (q.length / 8) (octet (q ++ [b]) (q.length / 8)) = packed (q ++ [b]) := by
  rw [packed, room, octets_succ, List.set_append_right _ _ (by rw [octets_length]; omega), octets_length, Nat.sub_self, List.length_append, List.length_singleton,
    show (q.length + 1 + 7) / 8 = q.length / 8 + 1 by omega, octets_succ, octets_keep q b (by omega)]
  rfl
theorem sh_u8 {b : Bool} {m : Nat} (h : m < 8) : IntKind.u8.wrap ((b.toNat : Int) * 2 ^ min (7 - (m : Int)).toNat IntKind.u8.bits) = ((b.toNat * 2 ^ (7 - m) : Nat) : Int) := by
  have : ∀ (b : Bool) (m : Fin 8), IntKind.u8.wrap ((b.toNat : Int) * 2 ^ min (7 - ((m : Nat) : Int)).toNat IntKind.u8.bits) = ((b.toNat * 2 ^ (7 - m.val) : Nat) : Int) := by decide +kernel
  exact this b ⟨m, h⟩
theorem sh_lt {b : Bool} {m : Nat} : b.toNat * 2 ^ (7 - m) < 256 := by
  have : 2 ^ (7 - m) ≤ 2 ^ 7 := Nat.pow_le_pow_right (by omega) (by omega)
  rcases b with _ | _ <;> simp <;> omega
theorem tmod8 (n : Nat) : (n : Int).tmod 8 = ((n % 8 : Nat) : Int) := by rw [Int.tmod_eq_emod_of_nonneg (by omega)]; omega
theorem quo8 {n : Nat} (h : n ≤ 9000000000000000000) : IntKind.i64.wrap ((n : Int).tdiv 8) = ((n / 8 : Nat) : Int) := by
  have : (n : Int).tdiv 8 = ((n / 8 : Nat) : Int) := (Int.ofNat_tdiv n 8).symm
  rw [this]; exact w_i64 (by omega) (by omega)
theorem or_now (q : List Bool) (b : Bool) : IntKind.u8.wrap ((BitVec.ofInt IntKind.u8.bits ((((room q).getD (q.length / 8) 0).toNat : Nat) : Int) ||| BitVec.ofInt IntKind.u8.bits ((b.toNat * 2 ^ (7 - q.length % 8) : Nat) : Int)).toNat : Int) = ((octet (q ++ [b]) (q.length / 8)).toNat : Int) := by
  rw [or_u8 (UInt8.toNat_lt _) sh_lt, room_get, part_now, octet_nat]
theorem part_shift (q : List Bool) (i m : Nat) : ∀ j, part q i (m + j) / 2 ^ j = part q i m
  | 0 => by simp
  | j + 1 => by
    have := bitn_le q (i + (m + j))
    rw [← Nat.add_assoc, part, Nat.pow_succ, Nat.mul_comm (2 ^ j), ← Nat.div_div_eq_div_mul, show (2 * part q i (m + j) + bitn q (i + (m + j))) / 2 = part q i (m + j) by omega]
    exact part_shift q i m j
theorem packed_get (q : List Bool) {i : Nat} (h : i < q.length) : ((packed q).getD (i / 8) 0).toNat = part q (8 * (i / 8)) 8 := by
  rw [packed, octets_get q (by omega), octet_nat]
theorem shr_u8 {x m : Nat} (hm : m < 8) : (x : Int).fdiv (2 ^ min (7 - (m : Int)).toNat IntKind.u8.bits) = ((x / 2 ^ (7 - m) : Nat) : Int) := by
  have e : min (7 - (m : Int)).toNat IntKind.u8.bits = 7 - m := by
    show min _ 8 = _
    omega
  rw [e, Int.fdiv_eq_ediv_of_nonneg _ (Int.le_of_lt (Int.pow_pos (by omega)))]
  rw [Int.natCast_ediv, Int.natCast_pow]; rfl
theorem shr_lt (l : List UInt8) (i j : Nat) : (l.getD i 0).toNat / 2 ^ j < 18446744073709551616 := Nat.lt_of_le_of_lt (Nat.div_le_self _ _) (Nat.lt_of_lt_of_le (UInt8.toNat_lt _) (by omega))
theorem bit_now (q : List Bool) {i : Nat} (h : i < q.length) : IntKind.u64.wrap ((BitVec.ofInt IntKind.u64.bits ((((packed q).getD (i / 8) 0).toNat / 2 ^ (7 - i % 8) : Nat) : Int) &&& BitVec.ofInt IntKind.u64.bits 1).toNat : Int) = (bitn q i : Int) := by
  have hl : ((packed q).getD (i / 8) 0).toNat / 2 ^ (7 - i % 8) < 18446744073709551616 := Nat.lt_of_le_of_lt (Nat.div_le_self _ _) (Nat.lt_of_lt_of_le (UInt8.toNat_lt _) (by omega))
  have := and_u64 (b := 1) hl (by omega)
  rw [show ((1 : Nat) : Int) = 1 from rfl] at this
  rw [this, packed_get q h, Nat.and_one_is_mod]
  have e := part_shift q (8 * (i / 8)) (i % 8 + 1) (7 - i % 8)
  rw [show i % 8 + 1 + (7 - i % 8) = 8 by omega] at e
  rw [e, part, show 8 * (i / 8) + i % 8 = i by omega]
  have := bitn_le q i
  omega
theorem dbl_u64 {x m : Nat} (hx : x < 2 ^ m) (hm : m < 64) : IntKind.u64.wrap ((x : Int) * 2 ^ min (1 : Int).toNat IntKind.u64.bits) = ((2 * x : Nat) : Int) := by
  have h : x < 2 ^ 63 := Nat.lt_of_lt_of_le hx (Nat.pow_le_pow_right (by omega) (by omega))
  have e : min (1 : Int).toNat IntKind.u64.bits = 1 := by decide
  rw [e, w_u64 (by omega) (by omega)]
  omega
theorem or_bit {x m b : Nat} (hx : x < 2 ^ m) (hm : m < 64) (hb : b ≤ 1) : IntKind.u64.wrap ((BitVec.ofInt IntKind.u64.bits ((2 * x : Nat) : Int) ||| BitVec.ofInt IntKind.u64.bits (b : Int)).toNat : Int) = ((2 * x + b : Nat) : Int) := by
  have h : x < 2 ^ 63 := Nat.lt_of_lt_of_le hx (Nat.pow_le_pow_right (by omega) (by omega))
  rw [or_u64 (by omega) (by omega)]
  have := Nat.two_pow_add_eq_or_of_lt (i := 1) (b := b) (by omega) x
  rw [Nat.pow_one] at this
  rw [← this]
/-- the first m of the n bits of v -/
def hi (v n m : Nat) : List Bool := (List.range m).map fun j => v.testBit (n - 1 - j)
theorem hi_length (v n m : Nat) : (hi v n m).length = m := by simp [hi]
theorem hi_succ (v n m : Nat) : hi v n (m + 1) = hi v n m ++ [v.testBit (n - 1 - m)] := by simp [hi, List.range_succ]
theorem hi_zero (v n : Nat) : hi v n 0 = [] := rfl
theorem bit_of (v i : Nat) : v / 2 ^ i % 2 = (v.testBit i).toNat := by rw [Nat.toNat_testBit]
theorem shr_and (v i : Nat) (hv : v < 18446744073709551616) : IntKind.u64.wrap ((BitVec.ofInt IntKind.u64.bits ((v / 2 ^ i : Nat) : Int) &&& BitVec.ofInt IntKind.u64.bits 1).toNat : Int) = ((v.testBit i).toNat : Int) := by
  have hl : v / 2 ^ i < 18446744073709551616 := Nat.lt_of_le_of_lt (Nat.div_le_self _ _) hv
  have := and_u64 (b := 1) hl (by omega)
  rw [show ((1 : Nat) : Int) = 1 from rfl] at this
  rw [this, Nat.and_one_is_mod, bit_of]
theorem shr_at (v : Nat) {x : Int} {e : Nat} (hx : x = e) (he : e ≤ 64) : (v : Int).fdiv (2 ^ min x.toNat IntKind.u64.bits) = ((v / 2 ^ e : Nat) : Int) := by
  subst hx
  have e : min (e : Int).toNat IntKind.u64.bits = e := by
    show min _ 64 = _
    omega
  rw [e, Int.fdiv_eq_ediv_of_nonneg _ (Int.le_of_lt (Int.pow_pos (by omega)))]
  rw [Int.natCast_ediv, Int.natCast_pow]; rfl
/-- may v be put as n bits -/
def Puts (v : Nat) (n : Int) : Prop := 0 ≤ n ∧ n ≤ 64 ∧ v < 2 ^ n.toNat
instance (v : Nat) (n : Int) : Decidable (Puts v n) := inferInstanceAs (Decidable (_ ∧ _))
theorem puts_shr {v n : Nat} (h : ¬ ((v / 2 ^ n : Nat) : Int) = 0) : ¬ v < 2 ^ n := fun hv => h (by rw [Nat.div_eq_of_lt hv]; rfl)
theorem puts_shr0 {v n : Nat} (h : ((v / 2 ^ n : Nat) : Int) = 0) : v < 2 ^ n := by
  have h' : v / 2 ^ n = 0 := by exact_mod_cast h
  exact (Nat.div_eq_zero_iff.1 h').resolve_left (Nat.ne_of_gt (Nat.two_pow_pos n))
def ref (q : List Bool) : List UInt8 := q.map fun b => if b then 1 else 0
theorem ref_length (q : List Bool) : (ref q).length = q.length := by simp [ref]
theorem ref_get (q : List Bool) {i : Nat} (h : i < q.length) : ((ref q).getD i 0).toNat = bitn q i := by
  simp only [ref, List.getD_eq_getElem?_getD, List.getElem?_map, List.getElem?_eq_getElem h, Option.map_some, Option.getD_some, bitn]
  cases q[i] <;> rfl
theorem ref_app (q r : List Bool) : ref (q ++ r) = ref q ++ ref r := by simp [ref]
theorem ref_bit (b : Bool) : bv (ref [b]) = [.int .u8 b.toNat] := by cases b <;> rfl
def un (n : Nat) : List Bool := List.replicate n false ++ [true]
theorem un_length (n : Nat) : (un n).length = n + 1 := by simp [un]
theorem rep_snoc (n : Nat) : List.replicate (n + 1) false = List.replicate n false ++ [false] := List.replicate_succ' ..
/-- the low m bits of v, the lowest first -/
def lo (v m : Nat) : List Bool := (List.range m).map v.testBit
theorem lo_length (v m : Nat) : (lo v m).length = m := by simp [lo]
theorem lo_succ (v m : Nat) : lo v (m + 1) = lo v m ++ [v.testBit m] := by simp [lo, List.range_succ]
theorem lo_get (v : Nat) {m i : Nat} (h : i < m) : (lo v m).getD i false = v.testBit i := by simp [lo, List.getD_eq_getElem?_getD, h]
theorem bv_add (l m : List UInt8) : bv (l ++ m) = bv l ++ bv m := by simp [bv]
theorem tmod2 (n : Nat) : (n : Int).tmod 2 = ((n % 2 : Nat) : Int) := by rw [Int.tmod_eq_emod_of_nonneg (by omega)]; omega
theorem lo_bit (v m : Nat) : IntKind.u8.wrap ((v / 2 ^ m % 2 : Nat) : Int) = ((v.testBit m).toNat : Int) := by
  rw [bit_of]
  have := Bool.toNat_le (v.testBit m)
  exact w_u8 (by omega) (by omega)
theorem half_u64 {v : Nat} (m : Nat) (hv : v < 18446744073709551616) : IntKind.u64.wrap (((v / 2 ^ m : Nat) : Int).tdiv 2) = ((v / 2 ^ (m + 1) : Nat) : Int) := by
  have e : ((v / 2 ^ m : Nat) : Int).tdiv 2 = ((v / 2 ^ m / 2 : Nat) : Int) := (Int.ofNat_tdiv _ 2).symm
  have hl : v / 2 ^ m / 2 < 18446744073709551616 := Nat.lt_of_le_of_lt (Nat.le_trans (Nat.div_le_self _ _) (Nat.div_le_self _ _)) hv
  rw [e, wrap_u64 _ hl, Nat.div_div_eq_div_mul, Nat.pow_succ]
theorem octet_conv (q : List Bool) (k : Nat) {j : Nat} (hj : j = 8) : IntKind.u8.wrap (part q (8 * k) j : Int) = ((octet q k).toNat : Int) := by
  subst hj
  have := part_bound q (8 * k)
  rw [octet_nat]
  exact w_u8 (by omega) (by omega)
end Go.Proofs.Ytpgmokfhcdibhaa

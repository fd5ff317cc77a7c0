/-
  Texts of one proof, joined: part 8. No condition.
-/
import Derived.Test.YtpamjobiohbibaaMp7
namespace Go.Proofs.Ytpamjobiohbibaa
def bitn (q : List Bool) (i : Nat) : Nat := (q.getD i false).toNat
theorem bitn_le (q : List Bool) (i : Nat) : bitn q i ≤ 1 := Bool.toNat_le _
/-- the number that 'm' bits from place 'i' on are, bits 0 behind the end -/
def part (q : List Bool) (i : Nat) : Nat → Nat
  | 0 => 0
  | m + 1 => 2 * part q i m + bitn q (i + m)
theorem part_lt (q : List Bool) (i : Nat) : ∀ m, part q i m < 2 ^ m
  | 0 => by simp [part]
  | m + 1 => by have := part_lt q i m; have := bitn_le q (i + m); simp only [part, Nat.pow_succ]; omega
def octet (q : List Bool) (k : Nat) : UInt8 := UInt8.ofNat (part q (8 * k) 8)
theorem octet_nat (q : List Bool) (k : Nat) : (octet q k).toNat = part q (8 * k) 8 := by
  have := part_lt q (8 * k) 8
  rw [octet, UInt8.toNat_ofNat']
  exact Nat.mod_eq_of_lt this
def octets (q : List Bool) (k : Nat) : List UInt8 := (List.range k).map (octet q)
theorem octets_length (q : List Bool) (k : Nat) : (octets q k).length = k := by simp [octets]
theorem octets_succ (q : List Bool) (k : Nat) : octets q (k + 1) = octets q k ++ [octet q k] := by simp [octets, List.range_succ]
def packed (q : List Bool) : List UInt8 := octets q ((q.length + 7) / 8)
theorem packed_length (q : List Bool) : (packed q).length = (q.length + 7) / 8 := octets_length _ _
theorem octets_get (q : List Bool) {n k : Nat} (h : k < n) : (octets q n).getD k 0 = octet q k := by
  simp [octets, List.getD_eq_getElem?_getD, h]
theorem bitn_app (q : List Bool) (b : Bool) (i : Nat) : bitn (q ++ [b]) i = if i = q.length then b.toNat else bitn q i := by
  unfold bitn
  split
  · subst i; simp [List.getD_eq_getElem?_getD]
  · simp only [List.getD_eq_getElem?_getD, List.getElem?_append]
    split
    · rfl
    · rw [List.getElem?_eq_none (by simp; omega), List.getElem?_eq_none (by omega)]
theorem bitn_out (q : List Bool) {i : Nat} (h : q.length ≤ i) : bitn q i = 0 := by
  simp [bitn, List.getD_eq_getElem?_getD, h]
theorem part_keep (q : List Bool) (b : Bool) (i : Nat) : ∀ m, (q.length < i ∨ i + m ≤ q.length) → part (q ++ [b]) i m = part q i m
  | 0, _ => rfl
  | m + 1, h => by
    rw [part, part, part_keep q b i m (by omega), bitn_app, if_neg (by omega)]
theorem part_zero (q : List Bool) (i : Nat) : ∀ m, q.length ≤ i → part q i m = 0
  | 0, _ => rfl
  | m + 1, h => by rw [part, part_zero q i m h, bitn_out q (by omega)]
/-- a bit more in the midst: the bits behind are 0 -/
theorem part_tail (q : List Bool) (i m : Nat) (h : i + m = q.length) : ∀ j, part q i (m + j) = part q i m * 2 ^ j
  | 0 => by simp
  | j + 1 => by
    rw [← Nat.add_assoc, part, part_tail q i m h j, bitn_out q (by omega), Nat.pow_succ]
    rw [Nat.mul_comm 2, Nat.mul_assoc]; rfl
theorem part_set (q : List Bool) (b : Bool) (i m : Nat) (h : i + m = q.length) (j : Nat) : part (q ++ [b]) i (m + 1 + j) = part q i (m + 1 + j) ||| b.toNat * 2 ^ j := by
  rw [part_tail (q ++ [b]) i (m + 1) (by simp; omega), Nat.add_assoc, part_tail q i m h, part, part_keep q b i m (by omega), bitn_app, if_pos h, Nat.add_comm 1 j]
  have hb := Bool.toNat_le b
  have e : part q i m * 2 ^ (j + 1) = 2 ^ (j + 1) * part q i m := Nat.mul_comm _ _
  rw [e, ← Nat.two_pow_add_eq_or_of_lt (by rw [Nat.pow_succ]; have := Nat.two_pow_pos j; rcases b with _ | _ <;> simp <;> omega), Nat.add_mul, Nat.pow_succ]
  congr 1
  rw [Nat.mul_comm 2 (part q i m), Nat.mul_assoc, Nat.mul_comm 2 (2 ^ j), Nat.mul_comm (part q i m)]
theorem octet_eq {q q' : List Bool} {k : Nat} (h : part q (8 * k) 8 = part q' (8 * k) 8) : octet q k = octet q' k := by rw [octet, octet, h]
theorem octets_keep (q : List Bool) (b : Bool) {n : Nat} (h : 8 * n ≤ q.length) : octets (q ++ [b]) n = octets q n := by
  simp only [octets]
  apply List.map_congr_left
  intro k hk
  have := List.mem_range.mp hk
  exact octet_eq (part_keep q b _ _ (by omega))
theorem part_bound (q : List Bool) (k : Nat) : part q k 8 < 256 := part_lt q k 8
/-- the row of bytes with room for one more bit -/
def room (q : List Bool) : List UInt8 := octets q (q.length / 8 + 1)
theorem room_length (q : List Bool) : (room q).length = q.length / 8 + 1 := octets_length _ _
theorem room_new {q : List Bool} (h : q.length % 8 = 0) : packed q ++ [0] = room q := by
  rw [packed, room, show (q.length + 7) / 8 = q.length / 8 by omega, octets_succ]
  congr 2
  rw [octet, part_zero q _ _ (by omega)]; rfl
theorem room_old {q : List Bool} (h : ¬ q.length % 8 = 0) : packed q = room q := by
  rw [packed, room, show (q.length + 7) / 8 = q.length / 8 + 1 by omega]
theorem room_get (q : List Bool) : ((room q).getD (q.length / 8) 0).toNat = part q (8 * (q.length / 8)) 8 := by
  rw [room, octets_get q (by omega), octet_nat]
theorem or_u8 {a b : Nat} (ha : a < 256) (hb : b < 256) : IntKind.u8.wrap ((BitVec.ofInt IntKind.u8.bits (a : Int) ||| BitVec.ofInt IntKind.u8.bits (b : Int)).toNat : Int) = ((a ||| b : Nat) : Int) := u8_or a b ha hb
theorem and_u64 {a b : Nat} (ha : a < 18446744073709551616) (hb : b < 18446744073709551616) : IntKind.u64.wrap ((BitVec.ofInt IntKind.u64.bits (a : Int) &&& BitVec.ofInt IntKind.u64.bits (b : Int)).toNat : Int) = ((a &&& b : Nat) : Int) := u64_and a b ha hb
theorem or_u64 {a b : Nat} (ha : a < 18446744073709551616) (hb : b < 18446744073709551616) : IntKind.u64.wrap ((BitVec.ofInt IntKind.u64.bits (a : Int) ||| BitVec.ofInt IntKind.u64.bits (b : Int)).toNat : Int) = ((a ||| b : Nat) : Int) := u64_or a b ha hb
theorem part_now (q : List Bool) (b : Bool) : part q (8 * (q.length / 8)) 8 ||| b.toNat * 2 ^ (7 - q.length % 8) = part (q ++ [b]) (8 * (q.length / 8)) 8 := by
  have := part_set q b (8 * (q.length / 8)) (q.length % 8) (by omega) (7 - q.length % 8)
  rw [show q.length % 8 + 1 + (7 - q.length % 8) = 8 by omega] at this
  exact this.symm
theorem room_set (q : List Bool) (b : Bool) : (room q).set (q.length / 8) (octet (q ++ [b]) (q.length / 8)) = packed (q ++ [b]) := by
  rw [packed, room, octets_succ, List.set_append_right _ _ (by rw [octets_length]; omega), octets_length, Nat.sub_self, List.length_append, List.length_singleton,
    show (q.length + 1 + 7) / 8 = q.length / 8 + 1 by omega, octets_succ, octets_keep q b (by omega)]
  rfl
theorem sh_u8 {b : Bool} {m : Nat} (h : m < 8) : IntKind.u8.wrap ((b.toNat : Int) * 2 ^ min (7 - (m : Int)).toNat IntKind.u8.bits) = ((b.toNat * 2 ^ (7 - m) : Nat) : Int) := by
  have : ∀ (b : Bool) (m : Fin 8), IntKind.u8.wrap ((b.toNat : Int) * 2 ^ min (7 - ((m : Nat) : Int)).toNat IntKind.u8.bits) = ((b.toNat * 2 ^ (7 - m.val) : Nat) : Int) := by decide +kernel
  exact this b ⟨m, h⟩
theorem sh_lt {b : Bool} {m : Nat} : b.toNat * 2 ^ (7 - m) < 256 := by
  have : 2 ^ (7 - m) ≤ 2 ^ 7 := Nat.pow_le_pow_right (by omega) (by omega)
  rcases b with _ | _ <;> simp <;> omega
theorem tmod8 (n : Nat) : (n : Int).tmod 8 = ((n % 8 : Nat) : Int) := by rw [Int.tmod_eq_emod_of_nonneg (by omega)]; omega
theorem quo8 {n : Nat} (h : n ≤ 9000000000000000000) : IntKind.i64.wrap ((n : Int).tdiv 8) = ((n / 8 : Nat) : Int) := by
  have : (n : Int).tdiv 8 = ((n / 8 : Nat) : Int) := (Int.ofNat_tdiv n 8).symm
  rw [this]; exact w_i64 (by omega) (by omega)
theorem or_now (q : List Bool) (b : Bool) : IntKind.u8.wrap ((BitVec.ofInt IntKind.u8.bits ((((room q).getD (q.length / 8) 0).toNat : Nat) : Int) ||| BitVec.ofInt IntKind.u8.bits ((b.toNat * 2 ^ (7 - q.length % 8) : Nat) : Int)).toNat : Int) = ((octet (q ++ [b]) (q.length / 8)).toNat : Int) := by
  rw [or_u8 (UInt8.toNat_lt _) sh_lt, room_get, part_now, octet_nat]
theorem part_shift (q : List Bool) (i m : Nat) : ∀ j, part q i (m + j) / 2 ^ j = part q i m
  | 0 => by simp
  | j + 1 => by
    have := bitn_le q (i + (m + j))
    rw [← Nat.add_assoc, part, Nat.pow_succ, Nat.mul_comm (2 ^ j), ← Nat.div_div_eq_div_mul, show (2 * part q i (m + j) + bitn q (i + (m + j))) / 2 = part q i (m + j) by omega]
    exact part_shift q i m j
theorem packed_get (q : List Bool) {i : Nat} (h : i < q.length) : ((packed q).getD (i / 8) 0).toNat = part q (8 * (i / 8)) 8 := by
  rw [packed, octets_get q (by omega), octet_nat]
theorem shr_u8 {x m : Nat} (hm : m < 8) : (x : Int).fdiv (2 ^ min (7 - (m : Int)).toNat IntKind.u8.bits) = ((x / 2 ^ (7 - m) : Nat) : Int) := by
  have e : min (7 - (m : Int)).toNat IntKind.u8.bits = 7 - m := by
    show min _ 8 = _
    omega
  rw [e, Int.fdiv_eq_ediv_of_nonneg _ (Int.le_of_lt (Int.pow_pos (by omega)))]
  rw [Int.natCast_ediv, Int.natCast_pow]; rfl
theorem shr_lt (l : List UInt8) (i j : Nat) : (l.getD i 0).toNat / 2 ^ j < 18446744073709551616 := Nat.lt_of_le_of_lt (Nat.div_le_self _ _) (Nat.lt_of_lt_of_le (UInt8.toNat_lt _) (by omega))
theorem bit_now (q : List Bool) {i : Nat} (h : i < q.length) : IntKind.u64.wrap ((BitVec.ofInt IntKind.u64.bits ((((packed q).getD (i / 8) 0).toNat / 2 ^ (7 - i % 8) : Nat) : Int) &&& BitVec.ofInt IntKind.u64.bits 1).toNat : Int) = (bitn q i : Int) := by
  have hl : ((packed q).getD (i / 8) 0).toNat / 2 ^ (7 - i % 8) < 18446744073709551616 := Nat.lt_of_le_of_lt (Nat.div_le_self _ _) (Nat.lt_of_lt_of_le (UInt8.toNat_lt _) (by omega))
  have := and_u64 (b := 1) hl (by omega)
  rw [show ((1 : Nat) : Int) = 1 from rfl] at this
  rw [this, packed_get q h, Nat.and_one_is_mod]
  have e := part_shift q (8 * (i / 8)) (i % 8 + 1) (7 - i % 8)
  rw [show i % 8 + 1 + (7 - i % 8) = 8 by omega] at e
  rw [e, part, show 8 * (i / 8) + i % 8 = i by omega]
  have := bitn_le q i
  omega
theorem dbl_u64 {x m : Nat} (hx : x < 2 ^ m) (hm : m < 64) : IntKind.u64.wrap ((x : Int) * 2 ^ min (1 : Int).toNat IntKind.u64.bits) = ((2 * x : Nat) : Int) := by
  have h : x < 2 ^ 63 := Nat.lt_of_lt_of_le hx (Nat.pow_le_pow_right (by omega) (by omega))
  have e : min (1 : Int).toNat IntKind.u64.bits = 1 := by decide
  rw [e, w_u64 (by omega) (by omega)]
  omega
theorem or_bit {x m b : Nat} (hx : x < 2 ^ m) (hm : m < 64) (hb : b ≤ 1) : IntKind.u64.wrap ((BitVec.ofInt IntKind.u64.bits ((2 * x : Nat) : Int) ||| BitVec.ofInt IntKind.u64.bits (b : Int)).toNat : Int) = ((2 * x + b : Nat) : Int) := by
  have h : x < 2 ^ 63 := Nat.lt_of_lt_of_le hx (Nat.pow_le_pow_right (by omega) (by omega))
  rw [or_u64 (by omega) (by omega)]
  have := Nat.two_pow_add_eq_or_of_lt (i := 1) (b := b) (by omega) x
  rw [Nat.pow_one] at this
  rw [← this]
/-- the first m of the n bits of v -/
def hi (v n m : Nat) : List Bool := (List.range m).map fun j => v.testBit (n - 1 - j)
theorem hi_length (v n m : Nat) : (hi v n m).length = m := by simp [hi]
theorem hi_succ (v n m : Nat) : hi v n (m + 1) = hi v n m ++ [v.testBit (n - 1 - m)] := by simp [hi, List.range_succ]
theorem hi_zero (v n : Nat) : hi v n 0 = [] := rfl
theorem bit_of (v i : Nat) : v / 2 ^ i % 2 = (v.testBit i).toNat := by rw [Nat.toNat_testBit]
theorem shr_and (v i : Nat) (hv : v < 18446744073709551616) : IntKind.u64.wrap ((BitVec.ofInt IntKind.u64.bits ((v / 2 ^ i : Nat) : Int) &&& BitVec.ofInt IntKind.u64.bits 1).toNat : Int) = ((v.testBit i).toNat : Int) := by
  have hl : v / 2 ^ i < 18446744073709551616 := Nat.lt_of_le_of_lt (Nat.div_le_self _ _) hv
  have := and_u64 (b := 1) hl (by omega)
  rw [show ((1 : Nat) : Int) = 1 from rfl] at this
  rw [this, Nat.and_one_is_mod, bit_of]
theorem shr_at (v : Nat) {x : Int} {e : Nat} (hx : x = e) (he : e ≤ 64) : (v : Int).fdiv (2 ^ min x.toNat IntKind.u64.bits) = ((v / 2 ^ e : Nat) : Int) := by
  subst hx
  have e : min (e : Int).toNat IntKind.u64.bits = e := by
    show min _ 64 = _
    omega
  rw [e, Int.fdiv_eq_ediv_of_nonneg _ (Int.le_of_lt (Int.pow_pos (by omega)))]
  rw [Int.natCast_ediv, Int.natCast_pow]; rfl
/-- may v be put as_ n bits -/
def Puts (v : Nat) (n : Int) : Prop := 0 ≤ n ∧ n ≤ 64 ∧ v < 2 ^ n.toNat
instance (v : Nat) (n : Int) : Decidable (Puts v n) := inferInstanceAs (Decidable (_ ∧ _))
theorem puts_shr {v n : Nat} (h : ¬ ((v / 2 ^ n : Nat) : Int) = 0) : ¬ v < 2 ^ n := fun hv => h (by rw [Nat.div_eq_of_lt hv]; rfl)
theorem puts_shr0 {v n : Nat} (h : ((v / 2 ^ n : Nat) : Int) = 0) : v < 2 ^ n := by
  have h' : v / 2 ^ n = 0 := by exact_mod_cast h
  exact (Nat.div_eq_zero_iff.1 h').resolve_left (Nat.ne_of_gt (Nat.two_pow_pos n))
def ref (q : List Bool) : List UInt8 := q.map fun b => if b then 1 else 0
theorem ref_length (q : List Bool) : (ref q).length = q.length := by simp [ref]
theorem ref_get (q : List Bool) {i : Nat} (h : i < q.length) : ((ref q).getD i 0).toNat = bitn q i := by
  simp only [ref, List.getD_eq_getElem?_getD, List.getElem?_map, List.getElem?_eq_getElem h, Option.map_some, Option.getD_some, bitn]
  cases q[i] <;> rfl
theorem ref_app (q r : List Bool) : ref (q ++ r) = ref q ++ ref r := by simp [ref]
theorem ref_bit (b : Bool) : bv (ref [b]) = [.int .u8 b.toNat] := by cases b <;> rfl
def un (n : Nat) : List Bool := List.replicate n false ++ [true]
theorem un_length (n : Nat) : (un n).length = n + 1 := by simp [un]
theorem rep_snoc (n : Nat) : List.replicate (n + 1) false = List.replicate n false ++ [false] := List.replicate_succ' ..
/-- the low m bits of v, the lowest first -/
def lo (v m : Nat) : List Bool := (List.range m).map v.testBit
theorem lo_length (v m : Nat) : (lo v m).length = m := by simp [lo]
theorem lo_succ (v m : Nat) : lo v (m + 1) = lo v m ++ [v.testBit m] := by simp [lo, List.range_succ]
theorem lo_get (v : Nat) {m i : Nat} (h : i < m) : (lo v m).getD i false = v.testBit i := by simp [lo, List.getD_eq_getElem?_getD, h]
theorem bv_add (l m : List UInt8) : bv (l ++ m) = bv l ++ bv m := by simp [bv]
theorem tmod2 (n : Nat) : (n : Int).tmod 2 = ((n % 2 : Nat) : Int) := by rw [Int.tmod_eq_emod_of_nonneg (by omega)]; omega
theorem lo_bit (v m : Nat) : IntKind.u8.wrap ((v / 2 ^ m % 2 : Nat) : Int) = ((v.testBit m).toNat : Int) := by
  rw [bit_of]
  have := Bool.toNat_le (v.testBit m)
  exact w_u8 (by omega) (by omega)
theorem half_u64 {v : Nat} (m : Nat) (hv : v < 18446744073709551616) : IntKind.u64.wrap (((v / 2 ^ m : Nat) : Int).tdiv 2) = ((v / 2 ^ (m + 1) : Nat) : Int) := by
  have e : ((v / 2 ^ m : Nat) : Int).tdiv 2 = ((v / 2 ^ m / 2 : Nat) : Int) := (Int.ofNat_tdiv _ 2).symm
  have hl : v / 2 ^ m / 2 < 18446744073709551616 := Nat.lt_of_le_of_lt (Nat.le_trans (Nat.div_le_self _ _) (Nat.div_le_self _ _)) hv
  rw [e, wrap_u64 _ hl, Nat.div_div_eq_div_mul, Nat.pow_succ]
theorem octet_conv (q : List Bool) (k : Nat) {j : Nat} (hj : j = 8) : IntKind.u8.wrap (part q (8 * k) j : Int) = ((octet q k).toNat : Int) := by
  subst hj
  have := part_bound q (8 * k)
  rw [octet_nat]
  exact w_u8 (by omega) (by omega)
end Go.Proofs.Ytpamjobiohbibaa
namespace Go.Proofs.Ytpamjobiohbibaa
open Go.RowKit
set_option linter.unusedVariables false
set_option maxRecDepth 20000
variable {B : Nat} {w0 : World} {F : List Ch} {A : Option Addr} {n c g : Nat} {bt : TypeId} {f : Ch → List Ch}
theorem bv_set (l : List UInt8) (k : Nat) (u : UInt8) : (bv l).set k (.int .u8 u.toNat) = bv (l.set k u) := by simp [bv, List.map_set]
theorem bv_app (l m : List UInt8) : bv l ++ bv m = bv (l ++ m) := by simp [bv]
theorem bv_len (l : List UInt8) : (bv l).length = l.length := by simp [bv]
theorem add_d (q : List Bool) (b : Bool) (hq : q.length ≤ 8000000) :
    Does Try.prog B w0 114 [.pointer (some ⟨g, 0, none⟩), .int .u64 b.toNat] (.blk g bt [.slice A (packed q).length c, .int .i64 q.length] :: .own 5 1 A (packed q).length c (bv (packed q)) :: F)
      (fun r L => r = .tuple #[] ∧ ∃ A' c', L = .blk g bt [.slice A' (packed (q ++ [b])).length c', .int .i64 (q ++ [b]).length] :: .own 5 1 A' (packed (q ++ [b])).length c' (bv (packed (q ++ [b]))) :: F) := by
  have hpl := packed_length q
  have hrl := room_length q
  have hb2 := Bool.toNat_le b
  refine fn_walk Try.func114 48 rfl rfl rfl [(0, .pointer (some ⟨g, 0, none⟩)), (1, .int .u64 b.toNat)] ⟨⟨rfl, rfl⟩, ⟨rfl, rfl⟩, trivial⟩ ?_
  refine vc_seqJ (fun zf zL => ∃ (A' : Option Addr) (c' : Nat), Sub zf [(0, .pointer (some ⟨g, 0, none⟩)), (1, .int .u64 b.toNat)] ∧ Wk zL (.blk g bt [.slice A' (room q).length c', .int .i64 q.length] :: .own 5 1 A' (room q).length c' (bv (room q)) :: F)) ?_ ?_
  · skip
    refine vc_seq ?_
    refine vc_region ?_
    refine vl_det (det_move rfl) rfl ?_
    refine vl_det (det_nilCheck rfl) rfl ?_
    refine vl_det (det_fieldAddr_ Try.underlying106 rfl (by kernel_rfl) rfl rfl) rfl ?_
    refine vl_det (det_load_blk (by kernel_rfl) rfl (by repeat (first | exact .hd | apply Sel.tl)) rfl) rfl ?_
    refine vl_det (det_rem rfl rfl (by omega) (tmod8 _)) rfl ?_
    refine vl_det (det_eql rfl rfl) rfl ?_
    refine vl_end [(0, _), (1, _), (9, _)] ⟨rfl, rfl, rfl, trivial⟩ ?_
    refine then_next ?_
    refine vc_decideU rfl (fun h9 => ?_) (fun h9 => ?_)
    · skip
      refine vc_region ?_
      refine vl_det (det_move rfl) rfl ?_
      refine vl_det (det_move rfl) rfl ?_
      refine vl_det (det_nilCheck rfl) rfl ?_
      refine vl_det (det_fieldAddr_ Try.underlying106 rfl (by kernel_rfl) rfl rfl) rfl ?_
      refine vl_det (det_load_blk (by kernel_rfl) rfl (by repeat (first | exact .hd | apply Sel.tl)) rfl) rfl ?_
      refine vl_push slT41 rfl rfl rfl rfl rfl (fun _ => rfl) (by repeat (first | exact .hd | apply Sel.tl)) (by omega) (by omega) ?_
      intro _ A16 c16
      refine vl_det (det_nilCheck rfl) rfl ?_
      refine vl_det (det_fieldAddr_ Try.underlying106 rfl (by kernel_rfl) rfl rfl) rfl ?_
      refine vl_eff0 (eff_store (by kernel_rfl) rfl rfl rfl (by repeat (first | exact .hd | apply Sel.tl)) (by simp)) ?_
      rintro _ _ rfl
      refine vl_end [(0, _), (1, _)] ⟨rfl, rfl, trivial⟩ ?_
      exact in_join ⟨A16, c16, ⟨(by first | rfl | exact int_to (by omega) | exact sl_to (by omega)), (by first | rfl | exact int_to (by omega) | exact sl_to (by omega)), trivial⟩, wk_blk (by rw [show (packed q).length + 1 = (room q).length by omega]; rfl) (wk_own (by omega) (by rw [← room_new (by omega)]; simp [bv]) (.refl _))⟩
    · skip
      refine vc_skip ?_
      exact in_join ⟨A, c, ⟨(by first | rfl | exact int_to (by omega) | exact sl_to (by omega)), (by first | rfl | exact int_to (by omega) | exact sl_to (by omega)), trivial⟩, wk_blk (by rw [room_old (by omega)]) (wk_own (by rw [room_old (by omega)]) (by rw [room_old (by omega)]) (.refl _))⟩
  · rintro _ _ ⟨A', c', hs, hp⟩
    refine vc_weaken _ hs (vc_wk hp ?_)
    clear hs hp
    refine vc_seq ?_
    refine vc_own_some (A := A') (n := (room q).length) (xs := bv (room q)) (.tail _ (.head _)) (by omega) ?_
    intro ad hA
    subst hA
    refine vh_region (S := .blk g bt [.slice (some ad) (room q).length c', .int .i64 q.length] :: F) (by kernel_rfl) (by repeat (first | exact List.Sublist.refl _ | exact List.nil_sublist _ | apply List.Sublist.cons_cons | apply List.Sublist.cons)) ?_
    refine vh_take 0 rfl (by kernel_rfl) (by kernel_rfl) (by kernel_rfl) (det_move rfl) rfl ?_
    refine vh_take 1 rfl (by kernel_rfl) (by kernel_rfl) (by kernel_rfl) (det_nilCheck rfl) rfl ?_
    refine vh_take 2 rfl (by kernel_rfl) (by kernel_rfl) (by kernel_rfl) (det_fieldAddr_ Try.underlying106 rfl (by kernel_rfl) rfl rfl) rfl ?_
    refine vh_take 3 rfl (by kernel_rfl) (by kernel_rfl) (by kernel_rfl) (det_load_blk (by kernel_rfl) rfl (by repeat (first | exact .hd | apply Sel.tl)) rfl) rfl ?_
    refine vh_take 4 rfl (by kernel_rfl) (by kernel_rfl) (by kernel_rfl) (det_move rfl) rfl ?_
    refine vh_take 5 rfl (by kernel_rfl) (by kernel_rfl) (by kernel_rfl) (det_nilCheck rfl) rfl ?_
    refine vh_take 6 rfl (by kernel_rfl) (by kernel_rfl) (by kernel_rfl) (det_fieldAddr_ Try.underlying106 rfl (by kernel_rfl) rfl rfl) rfl ?_
    refine vh_take 7 rfl (by kernel_rfl) (by kernel_rfl) (by kernel_rfl) (det_load_blk (by kernel_rfl) rfl (by repeat (first | exact .hd | apply Sel.tl)) rfl) rfl ?_
    refine vh_take 8 rfl (by kernel_rfl) (by kernel_rfl) (by kernel_rfl) (det_quo rfl rfl (by omega) (quo8 (by omega))) rfl ?_
    refine vh_take 9 rfl (by kernel_rfl) (by kernel_rfl) (by kernel_rfl) (det_indexAddr_some (size := 1) (i := q.length / 8) Try.underlying41 (by kernel_rfl) rfl rfl rfl (by omega)) rfl ?_
    refine vh_take 11 rfl (by kernel_rfl) (by kernel_rfl) (by kernel_rfl) (det_move rfl) rfl ?_
    refine vh_take 12 rfl (by kernel_rfl) (by kernel_rfl) (by kernel_rfl) (det_conv Try.underlying33 Try.underlying5 rfl (w_u8 (by omega) (by omega))) rfl ?_
    refine vh_take 13 rfl (by kernel_rfl) (by kernel_rfl) (by kernel_rfl) (det_move rfl) rfl ?_
    refine vh_take 14 rfl (by kernel_rfl) (by kernel_rfl) (by kernel_rfl) (det_nilCheck rfl) rfl ?_
    refine vh_take 15 rfl (by kernel_rfl) (by kernel_rfl) (by kernel_rfl) (det_fieldAddr_ Try.underlying106 rfl (by kernel_rfl) rfl rfl) rfl ?_
    refine vh_take 16 rfl (by kernel_rfl) (by kernel_rfl) (by kernel_rfl) (det_load_blk (by kernel_rfl) rfl (by repeat (first | exact .hd | apply Sel.tl)) rfl) rfl ?_
    refine vh_take 17 rfl (by kernel_rfl) (by kernel_rfl) (by kernel_rfl) (det_rem rfl rfl (by omega) (tmod8 _)) rfl ?_
    refine vh_take 18 rfl (by kernel_rfl) (by kernel_rfl) (by kernel_rfl) (det_sub rfl rfl (w_i64 (by omega) (by omega))) rfl ?_
    refine vh_take 19 rfl (by kernel_rfl) (by kernel_rfl) (by kernel_rfl) (det_shl rfl rfl (by omega) (sh_u8 (by omega))) rfl ?_
    refine vh_one 10 (by kernel_rfl) ?_
    refine st_det rfl .no (det_load_u8 (by kernel_rfl) rfl (by first | (exact Bor.own (by repeat (first | exact List.Mem.head _ | apply List.Mem.tail))) | (repeat (first | assumption | apply Bor.cons))) (by omega)) rfl (by repeat (first | exact List.Sublist.refl _ | exact List.nil_sublist _ | apply List.Sublist.cons_cons | apply List.Sublist.cons)) ?_
    refine vh_take 20 rfl (by kernel_rfl) (by kernel_rfl) (by kernel_rfl) (det_or rfl rfl (or_now q b)) rfl ?_
    refine vh_take 21 rfl (by kernel_rfl) (by kernel_rfl) (by kernel_rfl) (det_indexAddr_some (size := 1) (i := q.length / 8) Try.underlying41 (by kernel_rfl) rfl rfl rfl (by omega)) rfl ?_
    refine vh_one 22 (by kernel_rfl) ?_
    refine st_eff0 rfl .no (eff_store_row (by kernel_rfl) rfl rfl rfl (by repeat (first | exact .hd | apply Sel.tl)) (by rw [bv_len]; omega)) (by rintro _ _ rfl; exact (by repeat (first | exact List.Sublist.refl _ | exact List.nil_sublist _ | apply List.Sublist.cons_cons | apply List.Sublist.cons))) ?_
    rintro _ _ rfl
    refine vh_done [(0, _)] ⟨rfl, trivial⟩ (by kernel_rfl) ?_
    refine then_next ?_
    refine vc_region ?_
    refine vl_det (det_move rfl) rfl ?_
    refine vl_det (det_nilCheck rfl) rfl ?_
    refine vl_det (det_fieldAddr_ Try.underlying106 rfl (by kernel_rfl) rfl rfl) rfl ?_
    refine vl_det (det_load_blk (by kernel_rfl) rfl (by repeat (first | exact .hd | apply Sel.tl)) rfl) rfl ?_
    refine vl_det (det_add rfl rfl (w_i64 (by omega) (by omega))) rfl ?_
    refine vl_det (det_nilCheck rfl) rfl ?_
    refine vl_det (det_fieldAddr_ Try.underlying106 rfl (by kernel_rfl) rfl rfl) rfl ?_
    refine vl_eff0 (eff_store (by kernel_rfl) rfl rfl rfl (by repeat (first | exact .hd | apply Sel.tl)) (by simp)) ?_
    rintro _ _ rfl
    refine vl_end [] trivial ?_
    refine ret_n ?_
    refine ret_wk (L' := .blk g bt [.slice (some ad) (packed (q ++ [b])).length c', .int .i64 (q ++ [b]).length] :: .own 5 1 (some ad) (packed (q ++ [b])).length c' (bv (packed (q ++ [b]))) :: F) (wk_blk (by rw [← room_set q b]; simp) (wk_own (by rw [← room_set q b]; simp) (by rw [Nat.mul_one, bv_set, room_set]) (.refl _))) ?_
    refine ret0 rfl ?_
    exact ⟨rfl, _, c', rfl⟩
theorem bit_d (q : List Bool) (i : Nat) (hi : i < q.length) (hq : q.length ≤ 8000000000) (rest : List Value) (l : List UInt8) (hl : packed q = l) (hn : n = l.length) (hs : Sel (.blk g bt (.slice A n c :: rest)) F f) (hb : Bor B w0 F 1 (.slice A n c) n (bv l)) :
    Does Try.prog B w0 147 [.pointer (some ⟨g, 0, none⟩), .int .i64 i] F
      (fun r L => r = .int .u64 (bitn q i) ∧ L = F) := by
  subst hn
  subst hl
  have hpl := packed_length q
  refine fn_walk Try.func147 19 rfl rfl rfl [(0, .pointer (some ⟨g, 0, none⟩)), (1, .int .i64 i)] ⟨⟨rfl, rfl⟩, ⟨rfl, rfl⟩, trivial⟩ ?_
  refine vc_seq ?_
  refine vc_region ?_
  refine vl_det (det_assign rfl) rfl ?_
  refine vl_end [(0, _), (1, _)] ⟨rfl, rfl, trivial⟩ ?_
  refine then_next ?_
  refine vc_seq ?_
  refine vc_region ?_
  refine vl_det (det_move rfl) rfl ?_
  refine vl_det (det_nilCheck rfl) rfl ?_
  refine vl_det (det_fieldAddr_ Try.underlying106 rfl (by kernel_rfl) rfl rfl) rfl ?_
  refine vl_det (det_load_blk (by kernel_rfl) rfl hs rfl) rfl ?_
  refine vl_det (det_move rfl) rfl ?_
  refine vl_det (det_quo rfl rfl (by omega) (quo8 (by omega))) rfl ?_
  refine vl_det (det_indexAddr (i := i / 8) Try.underlying41 (by kernel_rfl) rfl rfl rfl (by omega) (by first | (exact Bor.own (by repeat (first | exact List.Mem.head _ | apply List.Mem.tail))) | (repeat (first | assumption | apply Bor.cons)))) rfl ?_
  refine vl_det (det_load_u8 (by kernel_rfl) rfl (by first | (exact Bor.own (by repeat (first | exact List.Mem.head _ | apply List.Mem.tail))) | (repeat (first | assumption | apply Bor.cons))) (by omega)) rfl ?_
  refine vl_det (det_move rfl) rfl ?_
  refine vl_det (det_rem rfl rfl (by omega) (tmod8 _)) rfl ?_
  refine vl_det (det_sub rfl rfl (w_i64 (by omega) (by omega))) rfl ?_
  refine vl_det (det_shr rfl rfl (by omega) (shr_u8 (by omega))) rfl ?_
  refine vl_det (det_conv Try.underlying5 Try.underlying33 rfl (wrap_u64 _ (shr_lt _ _ _))) rfl ?_
  refine vl_det (det_and rfl rfl (bit_now q hi)) rfl ?_
  refine vl_det (det_assign rfl) rfl ?_
  refine vl_end [(4, _)] ⟨rfl, trivial⟩ ?_
  refine then_next ?_
  refine vc_ret ?_
  refine ret1 rfl rfl ?_
  exact ⟨rfl, rfl⟩
theorem number_d (q : List Bool) (p m : Nat) (hp : p ≤ q.length) (hm : m ≤ 64) (hq : q.length ≤ 8000000000) (rest : List Value) (l : List UInt8) (hl : packed q = l) (hn : n = l.length) (hs : Sel (.blk g bt (.slice A n c :: .int .i64 q.length :: rest)) F f) (hb : Bor B w0 F 1 (.slice A n c) n (bv l)) :
    Does Try.prog B w0 148 [.pointer (some ⟨g, 0, none⟩), .int .i64 p, .int .i64 m] F
      (fun r L => r = .int .u64 (part q p m) ∧ L = F) := by
  refine fn_walk Try.func148 31 rfl rfl rfl [(0, .pointer (some ⟨g, 0, none⟩)), (1, .int .i64 p), (2, .int .i64 m)] ⟨⟨rfl, rfl⟩, ⟨rfl, rfl⟩, ⟨rfl, rfl⟩, trivial⟩ ?_
  refine vc_seq ?_
  refine vc_region ?_
  refine vl_det (det_assign rfl) rfl ?_
  refine vl_end [(0, _), (1, _), (2, _)] ⟨rfl, rfl, rfl, trivial⟩ ?_
  refine then_next ?_
  refine vc_seq ?_
  refine vc_region ?_
  refine vl_det (det_assign rfl) rfl ?_
  refine vl_end [(0, _), (1, _), (2, _), (7, _)] ⟨rfl, rfl, rfl, rfl, trivial⟩ ?_
  refine then_next ?_
  refine vc_seq ?_
  refine vc_seq ?_
  refine vc_region ?_
  refine vl_det (det_move rfl) rfl ?_
  refine vl_det (det_assign rfl) rfl ?_
  refine vl_end [(0, _), (1, _), (2, _), (7, _), (8, _)] ⟨rfl, rfl, rfl, rfl, rfl, trivial⟩ ?_
  refine then_next ?_
  refine vc_block ?_
  refine vc_loopJ (fun zf zL zm => ∃ (k : Nat), (k ≤ m) ∧ m - k = zm ∧ Sub zf [(0, .pointer (some ⟨g, 0, none⟩)), (1, .int .i64 p), (2, .int .i64 m), (7, .int .u64 (part q p k)), (8, .int .i64 (p + k : Nat))] ∧ Wk zL (F)) _ ⟨0, Nat.zero_le _, rfl, ⟨(by first | rfl | exact int_to (by omega) | exact sl_to (by omega)), (by first | rfl | exact int_to (by omega) | exact sl_to (by omega)), (by first | rfl | exact int_to (by omega) | exact sl_to (by omega)), (by first | rfl | exact int_to (by omega) | exact sl_to (by omega)), (by first | rfl | exact int_to (by omega) | exact sl_to (by omega)), trivial⟩, .refl _⟩ ?_
  rintro _ _ _ ⟨k, hk, rfl, hs, hp⟩
  refine vc_weaken _ hs (vc_wk hp ?_)
  clear hs hp
  have hlt := part_lt q p k
  have hble := bitn_le q (p + k)
  have hps : part q p (k + 1) = 2 * part q p k + bitn q (p + k) := rfl
  refine vc_seq ?_
  refine vc_seq ?_
  refine vc_region ?_
  refine vl_det (det_move rfl) rfl ?_
  refine vl_det (det_move rfl) rfl ?_
  refine vl_det (det_move rfl) rfl ?_
  refine vl_det (det_add rfl rfl (w_i64 (by omega) (by omega))) rfl ?_
  refine vl_det (det_lss rfl rfl) rfl ?_
  refine vl_end [(0, _), (1, _), (2, _), (7, _), (8, _), (14, _)] ⟨rfl, rfl, rfl, rfl, rfl, rfl, trivial⟩ ?_
  refine then_next ?_
  refine vc_decideU rfl (fun h14 => ?_) (fun h14 => ?_)
  · skip
    refine vc_skip ?_
    refine then_next ?_
    refine vc_seq ?_
    refine vc_block ?_
    refine vc_seq ?_
    refine vc_region ?_
    refine vl_det (det_move rfl) rfl ?_
    refine vl_det (det_shl rfl rfl (by omega) (dbl_u64 hlt (by omega))) rfl ?_
    refine vl_det (det_assign rfl) rfl ?_
    refine vl_end [(0, _), (1, _), (2, _), (7, _), (8, _)] ⟨rfl, rfl, rfl, rfl, rfl, trivial⟩ ?_
    refine then_next ?_
    refine vc_seq ?_
    refine vc_region ?_
    refine vl_det (det_move rfl) rfl ?_
    refine vl_det (det_move rfl) rfl ?_
    refine vl_det (det_nilCheck rfl) rfl ?_
    refine vl_det (det_fieldAddr_ Try.underlying106 rfl (by kernel_rfl) rfl rfl) rfl ?_
    refine vl_det (det_load_blk (by kernel_rfl) rfl hs rfl) rfl ?_
    refine vl_det (det_lss (m := (p + k : Nat)) rfl rfl) rfl ?_
    refine vl_end [(0, _), (1, _), (2, _), (7, _), (8, _), (24, _)] ⟨rfl, rfl, rfl, rfl, rfl, rfl, trivial⟩ ?_
    refine then_next ?_
    refine vc_decideU rfl (fun h24 => ?_) (fun h24 => ?_)
    · skip
      refine vc_region ?_
      refine vl_det (det_move rfl) rfl ?_
      refine vl_det (det_move rfl) rfl ?_
      refine vl_det (det_move rfl) rfl ?_
      refine vl_call co147 rfl (bit_d q (p + k) (by omega) hq _ l hl hn hs hb) rfl ?_
      rintro _ _ ⟨rfl, hLL⟩
      obtain rfl := hLL.symm
      refine vl_det (det_or rfl rfl (or_bit hlt (by omega) hble)) rfl ?_
      refine vl_det (det_assign rfl) rfl ?_
      refine vl_end [(0, _), (1, _), (2, _), (7, _), (8, _)] ⟨rfl, rfl, rfl, rfl, rfl, trivial⟩ ?_
      refine in_normal ?_
      refine then_next ?_
      refine vc_region ?_
      refine vl_det (det_move rfl) rfl ?_
      refine vl_det (det_add rfl rfl (w_i64 (by omega) (by omega))) rfl ?_
      refine vl_det (det_assign rfl) rfl ?_
      refine vl_end [(0, _), (1, _), (2, _), (7, _), (8, _)] ⟨rfl, rfl, rfl, rfl, rfl, trivial⟩ ?_
      refine in_loop_ ⟨_, by omega, k + 1, by omega, rfl, ⟨(by first | rfl | exact int_to (by omega) | exact sl_to (by omega)), (by first | rfl | exact int_to (by omega) | exact sl_to (by omega)), (by first | rfl | exact int_to (by omega) | exact sl_to (by omega)), (by first | rfl | exact int_to (by omega) | exact sl_to (by omega)), (by first | rfl | exact int_to (by omega) | exact sl_to (by omega)), trivial⟩, .refl _⟩
    · skip
      have h0 := bitn_out q (i := p + k) (by omega)
      refine vc_skip ?_
      refine in_normal ?_
      refine then_next ?_
      refine vc_region ?_
      refine vl_det (det_move rfl) rfl ?_
      refine vl_det (det_add rfl rfl (w_i64 (by omega) (by omega))) rfl ?_
      refine vl_det (det_assign rfl) rfl ?_
      refine vl_end [(0, _), (1, _), (2, _), (7, _), (8, _)] ⟨rfl, rfl, rfl, rfl, rfl, trivial⟩ ?_
      refine in_loop_ ⟨_, by omega, k + 1, by omega, rfl, ⟨(by first | rfl | exact int_to (by omega) | exact sl_to (by omega)), (by first | rfl | exact int_to (by omega) | exact sl_to (by omega)), (by first | rfl | exact int_to (by omega) | exact sl_to (by omega)), (by first | rfl | exact int_to (by omega) | exact sl_to (by omega)), (by first | rfl | exact int_to (by omega) | exact sl_to (by omega)), trivial⟩, .refl _⟩
  · skip
    refine vc_exit ?_
    refine then_exit ?_
    refine loop_exit ?_
    refine in_eq ?_
    refine then_next ?_
    refine vc_seq ?_
    refine vc_region ?_
    refine vl_det (det_move rfl) rfl ?_
    refine vl_det (det_assign rfl) rfl ?_
    refine vl_end [(6, _)] ⟨rfl, trivial⟩ ?_
    refine then_next ?_
    refine vc_ret ?_
    refine ret1 rfl rfl ?_
    have hk' : k = m := by omega
    subst hk'
    exact ⟨rfl, rfl⟩
end Go.Proofs.Ytpamjobiohbibaa
namespace Go.Proofs.Ytpamjobiohbibaa
open Go.RowKit
set_option linter.unusedVariables false
set_option maxRecDepth 20000
set_option maxHeartbeats 1000000 in
/-- slices.Clone of bytes -/
theorem clone_c {B : Nat} {v : Value} {n : Nat} {l : List UInt8} (w : World) (h : Rd w B 1 v n (bv l)) (hn : n ≤ 1099511627776) :
    Calls Try.prog 115 #[v] w fun e w' => ∃ v', e = .returned v' ∧ w'.ownsRow w.heap.size 5 1 v' n (bv l) ∧ Below w.heap.size w w' := by
  have h' := h
  obtain ⟨A, c, rfl, hc, hl, hr⟩ := h
  have hnil := fun w => Lib.run_eql_slice_nil (P := Try.prog) w 41 5 A n c 0 0 Try.underlying41
  rcases A with _ | ad
  · have h0 : n = 0 := by
      rcases Nat.eq_zero_or_pos n with h0 | h0
      · exact h0
      · obtain ⟨ad, h, _⟩ := hr h0; cases h
    subst h0
    have hl0 : l = [] := List.eq_nil_of_length_eq_zero (by simpa using hl)
    subst hl0
    clear hr hl h'
    go_enter Try.func115, Try.ntmps115
    go_wp2
    go_ret
    exact ⟨_, rfl, World.ownsRow_nil _ _ _ _, Below.refl _ _⟩
  · have hcap : n ≤ c := hc
    have hown : (w.alloc (.cells #[] 5)).ownsRow w.heap.size 5 1 (.slice (some ⟨w.heap.size, 0, none⟩) 0 0) 0 [] := ⟨rfl, .inr ⟨_, 0, #[], rfl, Nat.le_refl _, heap_alloc_new w _, Nat.le_refl _, by unfold maxLen; omega, rfl, rfl⟩⟩
    have hr' : Rd (w.alloc (.cells #[] 5)) B 1 (.slice (some ad) n c) n (bv l) := by
      obtain ⟨A, c', hv, h2, h3, h4⟩ := h'
      refine ⟨A, c', hv, h2, h3, fun hn => ?_⟩
      obtain ⟨ad', e, hb, hcell⟩ := h4 hn
      refine ⟨ad', e, hb, fun j u hu => ?_⟩
      have := hcell j u hu
      rw [World.cell?_alloc_lt w _ _ (World.block_lt_of_cell? w _ this)]
      exact this
    have H1 := Lib.hid hown; have H2 := Lib.hid hr'
    clear hr hl h' hown hr'
    go_enter Try.func115, Try.ntmps115
    have hb0 : Below w.heap.size w (w.alloc (.cells #[] 5)) := (Below.refl _ _).alloc (Nat.le_refl _) _
    have hs0 : w.heap.size ≤ (w.alloc (.cells #[] 5)).heap.size := hb0.size
    have H3 := Lib.hid hb0; have H4 := Lib.hid hs0
    clear hb0 hs0
    go_wp2_with (at_builtin; refine wp_app slT41 rfl (.tmp 5) (.tmp 6) rfl rfl H1.out rfl H2.out (bv_one _) H3.out (Nat.le_refl _) H4.out (by omega) (by omega) ?_; intro v2 w2 hown2 hb2 hg2)
    go_ret
    have e0 : 0 + n = n := by omega
    rw [e0, List.nil_append] at hown2
    exact ⟨v2, rfl, hown2, hb2⟩
theorem clone_d {B : Nat} {w0 : World} {F : List Ch} {A : Option Addr} {n c : Nat} (l : List UInt8) (hb : Bor B w0 F 1 (.slice A n c) n (bv l)) (hn : n ≤ 1099511627776) :
    Does Try.prog B w0 115 [.slice A n c] F (fun r L => ∃ A' c', r = .slice A' n c' ∧ L = .own 5 1 A' n c' (bv l) :: F) :=
  Does.of_own fun w hw => clone_c w (hb w hw) hn
end Go.Proofs.Ytpamjobiohbibaa
namespace Go.Proofs.Ytpamjobiohbibaa
open Go.RowKit
set_option linter.unusedVariables false
set_option maxRecDepth 20000
variable {B : Nat} {w0 : World} {F : List Ch} {A : Option Addr} {n c g : Nat} {bt : TypeId} {f : Ch → List Ch}
/-- a writer's memory -/
abbrev Wr (g : Nat) (bt : TypeId) (A : Option Addr) (c : Nat) (q : List Bool) (F : List Ch) : List Ch := .blk g bt [.slice A (packed q).length c, .int .i64 q.length] :: .own 5 1 A (packed q).length c (bv (packed q)) :: F
theorem put_d (q : List Bool) (v : Nat) (hv : v < 18446744073709551616) (n : Nat) (hn : n ≤ 64) (hp : v < 2 ^ n) (hq : q.length ≤ 7000000) :
    Does Try.prog B w0 68 [.pointer (some ⟨g, 0, none⟩), .int .u64 v, .int .i64 n] (Wr g bt A c q F)
      (fun r L => r = .int .i64 0 ∧ ∃ A' c', L = Wr g bt A' c' (q ++ hi v n n) F) := by
  refine fn_walk Try.func68 42 rfl rfl rfl [(0, .pointer (some ⟨g, 0, none⟩)), (1, .int .u64 v), (2, .int .i64 n)] ⟨⟨rfl, rfl⟩, ⟨rfl, rfl⟩, ⟨rfl, rfl⟩, trivial⟩ ?_
  refine vc_seq ?_
  refine vc_region ?_
  refine vl_det (det_assign rfl) rfl ?_
  refine vl_end [(0, _), (1, _), (2, _)] ⟨rfl, rfl, rfl, trivial⟩ ?_
  refine then_next ?_
  refine vc_seq ?_
  refine vc_seq ?_
  refine vc_region ?_
  refine vl_cut 20 27 [(0, _), (1, _), (2, _)] (False) ⟨rfl, rfl, rfl, trivial⟩ ?_ ?_
  · skip
    refine vl_det (det_move rfl) rfl ?_
    refine vl_det (det_ptr_nil Try.underlying160 rfl rfl) rfl ?_
    refine vl_det (det_move rfl) rfl ?_
    refine vl_guard_t rfl rfl ?_
    refine vl_det (det_move rfl) rfl ?_
    refine vl_guard_t rfl rfl ?_
    refine vl_det (det_lss rfl rfl) rfl ?_
    refine vl_det (det_pick_f rfl rfl) rfl ?_
    refine vl_det (det_move rfl) rfl ?_
    refine vl_guardn rfl rfl rfl (fun h14 => ?_) (fun h14 => ?_)
    · skip
      refine vl_det (det_move rfl) rfl ?_
      refine vl_guard_t rfl rfl ?_
      refine vl_det (det_gtr rfl rfl) rfl ?_
      refine vl_det (det_pick_f rfl rfl) rfl ?_
      refine vl_det (det_move rfl) rfl ?_
      refine vl_guardn rfl rfl rfl (fun h18 => ?_) (fun h18 => ?_)
      · skip
        refine vl_det (det_move rfl) rfl ?_
        refine vl_guard_t rfl rfl ?_
        refine vl_det (det_lss rfl rfl) rfl ?_
        refine vl_guard_t rfl rfl ?_
        refine vl_det (det_move rfl) rfl ?_
        refine vl_guardp rfl rfl rfl (fun h21 => ?_) (fun h21 => ?_)
        · skip
          refine vl_det (det_move rfl) rfl ?_
          refine vl_guard_t rfl rfl ?_
          refine vl_det (det_move rfl) rfl ?_
          refine vl_guard_t rfl rfl ?_
          refine vl_det (det_shr rfl rfl (by omega) (shr_at v (e := n) rfl (by omega))) rfl ?_
          refine vl_guard_t rfl rfl ?_
          refine vl_det (det_neq rfl rfl) rfl ?_
          refine vl_guard_t rfl rfl ?_
          refine vl_det (det_pick_t rfl rfl) rfl ?_
          refine vl_det (det_pick_f rfl rfl) rfl ?_
          exact vl_cut_end ⟨rfl, rfl, rfl, trivial⟩ (by first | rfl | exact bool_to_t (by first | (exact ⟨fun h => puts_shr h hp, False.elim⟩) | omega | (simp at h10; done)) | exact bool_to_f (by first | (exact ⟨fun h => puts_shr h hp, False.elim⟩) | omega | (simp at h10; done)) | exact bool_to (by first | (exact ⟨fun h => puts_shr h hp, False.elim⟩) | omega | (simp at h10; done)) | exact bool_to_b (by first | (exact ⟨fun h => puts_shr h hp, False.elim⟩) | omega | (simp at h10; done)))
        · skip
          refine vl_guard_f rfl rfl rfl rfl ?_
          refine vl_guard_f rfl rfl rfl rfl ?_
          refine vl_guard_f rfl rfl rfl rfl ?_
          refine vl_guard_t rfl rfl ?_
          refine vl_det (det_pick_f rfl rfl) rfl ?_
          refine vl_det (det_pick_f rfl rfl) rfl ?_
          exact vl_cut_end ⟨rfl, rfl, rfl, trivial⟩ (by first | rfl | exact bool_to_t (by first | (exact ⟨fun h => puts_shr h hp, False.elim⟩) | omega | (simp at h10; done)) | exact bool_to_f (by first | (exact ⟨fun h => puts_shr h hp, False.elim⟩) | omega | (simp at h10; done)) | exact bool_to (by first | (exact ⟨fun h => puts_shr h hp, False.elim⟩) | omega | (simp at h10; done)) | exact bool_to_b (by first | (exact ⟨fun h => puts_shr h hp, False.elim⟩) | omega | (simp at h10; done)))
      · skip
        refine vl_guard_f rfl rfl rfl rfl ?_
        refine vl_guard_f rfl rfl rfl rfl ?_
        refine vl_guard_u rfl rfl rfl ?_
        refine vl_guard_u rfl rfl rfl ?_
        refine vl_guard_u rfl rfl rfl ?_
        refine vl_guard_u rfl rfl rfl ?_
        refine vl_guard_f rfl rfl rfl rfl ?_
        refine vl_det (det_pick_t rfl rfl) rfl ?_
        exact vl_cut_end ⟨rfl, rfl, rfl, trivial⟩ (by first | rfl | exact bool_to_t (by first | (exact ⟨fun h => puts_shr h hp, False.elim⟩) | omega | (simp at h10; done)) | exact bool_to_f (by first | (exact ⟨fun h => puts_shr h hp, False.elim⟩) | omega | (simp at h10; done)) | exact bool_to (by first | (exact ⟨fun h => puts_shr h hp, False.elim⟩) | omega | (simp at h10; done)) | exact bool_to_b (by first | (exact ⟨fun h => puts_shr h hp, False.elim⟩) | omega | (simp at h10; done)))
    · skip
      refine vl_guard_f rfl rfl rfl rfl ?_
      refine vl_det (det_pick_t rfl rfl) rfl ?_
      refine vl_det (det_move rfl) rfl ?_
      refine vl_guard_f rfl rfl rfl rfl ?_
      refine vl_guard_f rfl rfl rfl rfl ?_
      refine vl_guard_f rfl rfl rfl rfl ?_
      refine vl_guard_u rfl rfl rfl ?_
      refine vl_guard_u rfl rfl rfl ?_
      refine vl_guard_u rfl rfl rfl ?_
      refine vl_guard_u rfl rfl rfl ?_
      refine vl_guard_f rfl rfl rfl rfl ?_
      refine vl_det (det_pick_t rfl rfl) rfl ?_
      exact vl_cut_end ⟨rfl, rfl, rfl, trivial⟩ (by first | rfl | exact bool_to_t (by first | (exact ⟨fun h => puts_shr h hp, False.elim⟩) | omega | (simp at h10; done)) | exact bool_to_f (by first | (exact ⟨fun h => puts_shr h hp, False.elim⟩) | omega | (simp at h10; done)) | exact bool_to (by first | (exact ⟨fun h => puts_shr h hp, False.elim⟩) | omega | (simp at h10; done)) | exact bool_to_b (by first | (exact ⟨fun h => puts_shr h hp, False.elim⟩) | omega | (simp at h10; done)))
  · skip
    refine vl_end [(0, _), (1, _), (2, _), (27, _)] ⟨rfl, rfl, rfl, rfl, trivial⟩ ?_
    refine then_next ?_
    refine vc_decideU rfl (fun h27 => ?_) (fun h27 => ?_)
    · skip
      exfalso; omega
    · skip
      refine vc_skip ?_
      refine then_next ?_
      refine vc_seq ?_
      refine vc_seq ?_
      refine vc_region ?_
      refine vl_det (det_move rfl) rfl ?_
      refine vl_det (det_sub rfl rfl (w_i64 (by omega) (by omega))) rfl ?_
      refine vl_det (det_assign rfl) rfl ?_
      refine vl_end [(0, _), (1, _), (7, _)] ⟨rfl, rfl, rfl, trivial⟩ ?_
      refine then_next ?_
      refine vc_block ?_
      refine vc_loopJ (fun zf zL zm => ∃ (m : Nat) (A' : Option Addr) (c' : Nat), (m ≤ n) ∧ n - m = zm ∧ Sub zf [(0, .pointer (some ⟨g, 0, none⟩)), (1, .int .u64 v), (7, .int .i64 ((n : Int) - m - 1))] ∧ Wk zL (Wr g bt A' c' (q ++ hi v n m) F)) _ ⟨0, A, c, Nat.zero_le _, rfl, ⟨(by first | rfl | exact int_to (by omega) | exact sl_to (by omega)), (by first | rfl | exact int_to (by omega) | exact sl_to (by omega)), (by first | rfl | exact int_to (by omega) | exact sl_to (by omega)), trivial⟩, wk_blk (by rw [hi_zero, List.append_nil]) (wk_own (by rw [hi_zero, List.append_nil]) (by rw [hi_zero, List.append_nil]) (.refl _))⟩ ?_
      rintro _ _ _ ⟨m, A', c', hm, rfl, hs, hp⟩
      refine vc_weaken _ hs (vc_wk hp ?_)
      clear hs hp
      have hll : (q ++ hi v n m).length = q.length + m := by rw [List.length_append, hi_length]
      refine vc_seq ?_
      refine vc_seq ?_
      refine vc_region ?_
      refine vl_det (det_move rfl) rfl ?_
      refine vl_det (det_geq rfl rfl) rfl ?_
      refine vl_end [(0, _), (1, _), (7, _), (31, _)] ⟨rfl, rfl, rfl, rfl, trivial⟩ ?_
      refine then_next ?_
      refine vc_decideU rfl (fun h31 => ?_) (fun h31 => ?_)
      · skip
        refine vc_skip ?_
        refine then_next ?_
        refine vc_seq ?_
        refine vc_block ?_
        refine vh_region (S := F) (by kernel_rfl) (by repeat (first | exact List.Sublist.refl _ | exact List.nil_sublist _ | apply List.Sublist.cons_cons | apply List.Sublist.cons)) ?_
        refine vh_take 0 rfl (by kernel_rfl) (by kernel_rfl) (by kernel_rfl) (det_move rfl) rfl ?_
        refine vh_take 1 rfl (by kernel_rfl) (by kernel_rfl) (by kernel_rfl) (det_nilCheck rfl) rfl ?_
        refine vh_take 2 rfl (by kernel_rfl) (by kernel_rfl) (by kernel_rfl) (det_fieldAddr_ Try.underlying108 rfl (by kernel_rfl) rfl rfl) rfl ?_
        refine vh_take 3 rfl (by kernel_rfl) (by kernel_rfl) (by kernel_rfl) (det_move rfl) rfl ?_
        refine vh_take 4 rfl (by kernel_rfl) (by kernel_rfl) (by kernel_rfl) (det_move rfl) rfl ?_
        refine vh_take 5 rfl (by kernel_rfl) (by kernel_rfl) (by kernel_rfl) (det_shr rfl rfl (by omega) (shr_at v (e := n - 1 - m) (by omega) (by omega))) rfl ?_
        refine vh_take 6 rfl (by kernel_rfl) (by kernel_rfl) (by kernel_rfl) (det_and rfl rfl (shr_and v _ hv)) rfl ?_
        refine vh_one 7 (by kernel_rfl) ?_
        refine st_call rfl .no co114 rfl (add_d (q ++ hi v n m) (v.testBit (n - 1 - m)) (by omega)) rfl (by rintro _ _ ⟨rfl, A41, c41, rfl⟩; exact (by repeat (first | exact List.Sublist.refl _ | exact List.nil_sublist _ | apply List.Sublist.cons_cons | apply List.Sublist.cons))) ?_
        rintro _ _ ⟨rfl, A41, c41, hLL⟩
        obtain rfl := hLL.symm
        refine vh_done [(0, _), (1, _), (7, _)] ⟨rfl, rfl, rfl, trivial⟩ (by kernel_rfl) ?_
        refine in_normal ?_
        refine then_next ?_
        refine vc_region ?_
        refine vl_det (det_move rfl) rfl ?_
        refine vl_det (det_sub rfl rfl (w_i64 (by omega) (by omega))) rfl ?_
        refine vl_det (det_assign rfl) rfl ?_
        refine vl_end [(0, _), (1, _), (7, _)] ⟨rfl, rfl, rfl, trivial⟩ ?_
        refine in_loop_ ⟨_, by omega, m + 1, A41, c41, by omega, rfl, ⟨(by first | rfl | exact int_to (by omega) | exact sl_to (by omega)), (by first | rfl | exact int_to (by omega) | exact sl_to (by omega)), (by first | rfl | exact int_to (by omega) | exact sl_to (by omega)), trivial⟩, wk_blk (by rw [hi_succ, List.append_assoc]) (wk_own (by rw [hi_succ, List.append_assoc]) (by rw [hi_succ, List.append_assoc]) (.refl _))⟩
      · skip
        refine vc_exit ?_
        refine then_exit ?_
        refine loop_exit ?_
        refine in_eq ?_
        refine then_next ?_
        refine vc_seq ?_
        refine vc_region ?_
        refine vl_det (det_assign rfl) rfl ?_
        refine vl_end [(6, _)] ⟨rfl, trivial⟩ ?_
        refine then_next ?_
        refine vc_ret ?_
        refine ret1 rfl rfl ?_
        have hm' : m = n := by omega
        subst hm'
        exact ⟨rfl, A', c', rfl⟩
theorem putbad_d (q : List Bool) (v : Nat) (hv : v < 18446744073709551616) (n : Int) (h1 : -9223372036854775808 ≤ n) (h2 : n < 9223372036854775808) (hp : ¬ Puts v n) :
    Does Try.prog B w0 68 [.pointer (some ⟨g, 0, none⟩), .int .u64 v, .int .i64 n] F
      (fun r L => r = .int .i64 13 ∧ L = F) := by
  refine fn_walk Try.func68 42 rfl rfl rfl [(0, .pointer (some ⟨g, 0, none⟩)), (1, .int .u64 v), (2, .int .i64 n)] ⟨⟨rfl, rfl⟩, ⟨rfl, rfl⟩, ⟨rfl, rfl⟩, trivial⟩ ?_
  refine vc_seq ?_
  refine vc_region ?_
  refine vl_det (det_assign rfl) rfl ?_
  refine vl_end [(0, _), (1, _), (2, _)] ⟨rfl, rfl, rfl, trivial⟩ ?_
  refine then_next ?_
  refine vc_seq ?_
  refine vc_seq ?_
  refine vc_region ?_
  refine vl_cut 20 27 [(0, _), (1, _), (2, _)] (True) ⟨rfl, rfl, rfl, trivial⟩ ?_ ?_
  · skip
    refine vl_det (det_move rfl) rfl ?_
    refine vl_det (det_ptr_nil Try.underlying160 rfl rfl) rfl ?_
    refine vl_det (det_move rfl) rfl ?_
    refine vl_guard_t rfl rfl ?_
    refine vl_det (det_move rfl) rfl ?_
    refine vl_guard_t rfl rfl ?_
    refine vl_det (det_lss rfl rfl) rfl ?_
    refine vl_det (det_pick_f rfl rfl) rfl ?_
    refine vl_det (det_move rfl) rfl ?_
    refine vl_guardn rfl rfl rfl (fun h14 => ?_) (fun h14 => ?_)
    · skip
      refine vl_det (det_move rfl) rfl ?_
      refine vl_guard_t rfl rfl ?_
      refine vl_det (det_gtr rfl rfl) rfl ?_
      refine vl_det (det_pick_f rfl rfl) rfl ?_
      refine vl_det (det_move rfl) rfl ?_
      refine vl_guardn rfl rfl rfl (fun h18 => ?_) (fun h18 => ?_)
      · skip
        refine vl_det (det_move rfl) rfl ?_
        refine vl_guard_t rfl rfl ?_
        refine vl_det (det_lss rfl rfl) rfl ?_
        refine vl_guard_t rfl rfl ?_
        refine vl_det (det_move rfl) rfl ?_
        refine vl_guardp rfl rfl rfl (fun h21 => ?_) (fun h21 => ?_)
        · skip
          refine vl_det (det_move rfl) rfl ?_
          refine vl_guard_t rfl rfl ?_
          refine vl_det (det_move rfl) rfl ?_
          refine vl_guard_t rfl rfl ?_
          refine vl_det (det_shr rfl rfl (by omega) (shr_at v (e := n.toNat) (by omega) (by omega))) rfl ?_
          refine vl_guard_t rfl rfl ?_
          refine vl_det (det_neq rfl rfl) rfl ?_
          refine vl_guard_t rfl rfl ?_
          refine vl_det (det_pick_t rfl rfl) rfl ?_
          refine vl_det (det_pick_f rfl rfl) rfl ?_
          exact vl_cut_end ⟨rfl, rfl, rfl, trivial⟩ (by first | rfl | exact bool_to_t (by first | (exact trivial) | (exact ⟨fun _ => trivial, fun _ h => hp ⟨by omega, by omega, puts_shr0 h⟩⟩) | (exact fun _ => hp ⟨by omega, by omega, by rw [show n.toNat = 64 by omega]; exact hv⟩) | omega) | exact bool_to_f (by first | (exact trivial) | (exact ⟨fun _ => trivial, fun _ h => hp ⟨by omega, by omega, puts_shr0 h⟩⟩) | (exact fun _ => hp ⟨by omega, by omega, by rw [show n.toNat = 64 by omega]; exact hv⟩) | omega) | exact bool_to (by first | (exact trivial) | (exact ⟨fun _ => trivial, fun _ h => hp ⟨by omega, by omega, puts_shr0 h⟩⟩) | (exact fun _ => hp ⟨by omega, by omega, by rw [show n.toNat = 64 by omega]; exact hv⟩) | omega) | exact bool_to_b (by first | (exact trivial) | (exact ⟨fun _ => trivial, fun _ h => hp ⟨by omega, by omega, puts_shr0 h⟩⟩) | (exact fun _ => hp ⟨by omega, by omega, by rw [show n.toNat = 64 by omega]; exact hv⟩) | omega))
        · skip
          refine vl_guard_f rfl rfl rfl rfl ?_
          refine vl_guard_f rfl rfl rfl rfl ?_
          refine vl_guard_f rfl rfl rfl rfl ?_
          refine vl_guard_t rfl rfl ?_
          refine vl_det (det_pick_f rfl rfl) rfl ?_
          refine vl_det (det_pick_f rfl rfl) rfl ?_
          exact vl_cut_end ⟨rfl, rfl, rfl, trivial⟩ (by first | rfl | exact bool_to_t (by first | (exact trivial) | (exact ⟨fun _ => trivial, fun _ h => hp ⟨by omega, by omega, puts_shr0 h⟩⟩) | (exact fun _ => hp ⟨by omega, by omega, by rw [show n.toNat = 64 by omega]; exact hv⟩) | omega) | exact bool_to_f (by first | (exact trivial) | (exact ⟨fun _ => trivial, fun _ h => hp ⟨by omega, by omega, puts_shr0 h⟩⟩) | (exact fun _ => hp ⟨by omega, by omega, by rw [show n.toNat = 64 by omega]; exact hv⟩) | omega) | exact bool_to (by first | (exact trivial) | (exact ⟨fun _ => trivial, fun _ h => hp ⟨by omega, by omega, puts_shr0 h⟩⟩) | (exact fun _ => hp ⟨by omega, by omega, by rw [show n.toNat = 64 by omega]; exact hv⟩) | omega) | exact bool_to_b (by first | (exact trivial) | (exact ⟨fun _ => trivial, fun _ h => hp ⟨by omega, by omega, puts_shr0 h⟩⟩) | (exact fun _ => hp ⟨by omega, by omega, by rw [show n.toNat = 64 by omega]; exact hv⟩) | omega))
      · skip
        refine vl_guard_f rfl rfl rfl rfl ?_
        refine vl_guard_f rfl rfl rfl rfl ?_
        refine vl_guard_u rfl rfl rfl ?_
        refine vl_guard_u rfl rfl rfl ?_
        refine vl_guard_u rfl rfl rfl ?_
        refine vl_guard_u rfl rfl rfl ?_
        refine vl_guard_f rfl rfl rfl rfl ?_
        refine vl_det (det_pick_t rfl rfl) rfl ?_
        exact vl_cut_end ⟨rfl, rfl, rfl, trivial⟩ (by first | rfl | exact bool_to_t (by first | (exact trivial) | (exact ⟨fun _ => trivial, fun _ h => hp ⟨by omega, by omega, puts_shr0 h⟩⟩) | (exact fun _ => hp ⟨by omega, by omega, by rw [show n.toNat = 64 by omega]; exact hv⟩) | omega) | exact bool_to_f (by first | (exact trivial) | (exact ⟨fun _ => trivial, fun _ h => hp ⟨by omega, by omega, puts_shr0 h⟩⟩) | (exact fun _ => hp ⟨by omega, by omega, by rw [show n.toNat = 64 by omega]; exact hv⟩) | omega) | exact bool_to (by first | (exact trivial) | (exact ⟨fun _ => trivial, fun _ h => hp ⟨by omega, by omega, puts_shr0 h⟩⟩) | (exact fun _ => hp ⟨by omega, by omega, by rw [show n.toNat = 64 by omega]; exact hv⟩) | omega) | exact bool_to_b (by first | (exact trivial) | (exact ⟨fun _ => trivial, fun _ h => hp ⟨by omega, by omega, puts_shr0 h⟩⟩) | (exact fun _ => hp ⟨by omega, by omega, by rw [show n.toNat = 64 by omega]; exact hv⟩) | omega))
    · skip
      refine vl_guard_f rfl rfl rfl rfl ?_
      refine vl_det (det_pick_t rfl rfl) rfl ?_
      refine vl_det (det_move rfl) rfl ?_
      refine vl_guard_f rfl rfl rfl rfl ?_
      refine vl_guard_f rfl rfl rfl rfl ?_
      refine vl_guard_f rfl rfl rfl rfl ?_
      refine vl_guard_u rfl rfl rfl ?_
      refine vl_guard_u rfl rfl rfl ?_
      refine vl_guard_u rfl rfl rfl ?_
      refine vl_guard_u rfl rfl rfl ?_
      refine vl_guard_f rfl rfl rfl rfl ?_
      refine vl_det (det_pick_t rfl rfl) rfl ?_
      exact vl_cut_end ⟨rfl, rfl, rfl, trivial⟩ (by first | rfl | exact bool_to_t (by first | (exact trivial) | (exact ⟨fun _ => trivial, fun _ h => hp ⟨by omega, by omega, puts_shr0 h⟩⟩) | (exact fun _ => hp ⟨by omega, by omega, by rw [show n.toNat = 64 by omega]; exact hv⟩) | omega) | exact bool_to_f (by first | (exact trivial) | (exact ⟨fun _ => trivial, fun _ h => hp ⟨by omega, by omega, puts_shr0 h⟩⟩) | (exact fun _ => hp ⟨by omega, by omega, by rw [show n.toNat = 64 by omega]; exact hv⟩) | omega) | exact bool_to (by first | (exact trivial) | (exact ⟨fun _ => trivial, fun _ h => hp ⟨by omega, by omega, puts_shr0 h⟩⟩) | (exact fun _ => hp ⟨by omega, by omega, by rw [show n.toNat = 64 by omega]; exact hv⟩) | omega) | exact bool_to_b (by first | (exact trivial) | (exact ⟨fun _ => trivial, fun _ h => hp ⟨by omega, by omega, puts_shr0 h⟩⟩) | (exact fun _ => hp ⟨by omega, by omega, by rw [show n.toNat = 64 by omega]; exact hv⟩) | omega))
  · skip
    refine vl_end [(0, _), (1, _), (2, _), (27, _)] ⟨rfl, rfl, rfl, rfl, trivial⟩ ?_
    refine then_next ?_
    refine vc_decideU rfl (fun h27 => ?_) (fun h27 => ?_)
    · skip
      refine vc_seq ?_
      refine vc_region ?_
      refine vl_det (det_assign rfl) rfl ?_
      refine vl_end [(6, _)] ⟨rfl, trivial⟩ ?_
      refine then_next ?_
      refine vc_ret ?_
      refine then_ret ?_
      refine ret1 rfl rfl ?_
      exact ⟨rfl, rfl⟩
    · skip
      exfalso; exact h27 trivial
theorem unary_d (q : List Bool) (n : Nat) (hn : n ≤ 100000) (hq : q.length ≤ 7000000) :
    Does Try.prog B w0 69 [.pointer (some ⟨g, 0, none⟩), .int .i64 n] (Wr g bt A c q F)
      (fun r L => r = .int .i64 0 ∧ ∃ A' c', L = Wr g bt A' c' (q ++ un n) F) := by
  refine fn_walk Try.func69 27 rfl rfl rfl [(0, .pointer (some ⟨g, 0, none⟩)), (1, .int .i64 n)] ⟨⟨rfl, rfl⟩, ⟨rfl, rfl⟩, trivial⟩ ?_
  refine vc_seq ?_
  refine vc_region ?_
  refine vl_det (det_assign rfl) rfl ?_
  refine vl_end [(0, _), (1, _)] ⟨rfl, rfl, trivial⟩ ?_
  refine then_next ?_
  refine vc_seq ?_
  refine vc_seq ?_
  refine vc_region ?_
  refine vl_cut 10 14 [(0, _), (1, _)] (False) ⟨rfl, rfl, trivial⟩ ?_ ?_
  · skip
    refine vl_det (det_move rfl) rfl ?_
    refine vl_det (det_ptr_nil Try.underlying160 rfl rfl) rfl ?_
    refine vl_det (det_move rfl) rfl ?_
    refine vl_guard_t rfl rfl ?_
    refine vl_det (det_move rfl) rfl ?_
    refine vl_guard_t rfl rfl ?_
    refine vl_det (det_lss rfl rfl) rfl ?_
    refine vl_det (det_pick_f rfl rfl) rfl ?_
    refine vl_det (det_move rfl) rfl ?_
    refine vl_guardn rfl rfl rfl (fun h11 => ?_) (fun h11 => ?_)
    · skip
      refine vl_det (det_move rfl) rfl ?_
      refine vl_guard_t rfl rfl ?_
      refine vl_det (det_gtr rfl rfl) rfl ?_
      refine vl_det (det_pick_f rfl rfl) rfl ?_
      exact vl_cut_end ⟨rfl, rfl, trivial⟩ (by first | rfl | exact bool_to_t (by first | (exact ⟨fun h => absurd h (by omega), False.elim⟩) | omega | (simp at h7; done)) | exact bool_to_f (by first | (exact ⟨fun h => absurd h (by omega), False.elim⟩) | omega | (simp at h7; done)) | exact bool_to (by first | (exact ⟨fun h => absurd h (by omega), False.elim⟩) | omega | (simp at h7; done)) | exact bool_to_b (by first | (exact ⟨fun h => absurd h (by omega), False.elim⟩) | omega | (simp at h7; done)))
    · skip
      refine vl_guard_f rfl rfl rfl rfl ?_
      refine vl_det (det_pick_t rfl rfl) rfl ?_
      exact vl_cut_end ⟨rfl, rfl, trivial⟩ (by first | rfl | exact bool_to_t (by first | (exact ⟨fun h => absurd h (by omega), False.elim⟩) | omega | (simp at h7; done)) | exact bool_to_f (by first | (exact ⟨fun h => absurd h (by omega), False.elim⟩) | omega | (simp at h7; done)) | exact bool_to (by first | (exact ⟨fun h => absurd h (by omega), False.elim⟩) | omega | (simp at h7; done)) | exact bool_to_b (by first | (exact ⟨fun h => absurd h (by omega), False.elim⟩) | omega | (simp at h7; done)))
  · skip
    refine vl_end [(0, _), (1, _), (14, _)] ⟨rfl, rfl, rfl, trivial⟩ ?_
    refine then_next ?_
    refine vc_decideU rfl (fun h14 => ?_) (fun h14 => ?_)
    · skip
      exfalso; omega
    · skip
      refine vc_skip ?_
      refine then_next ?_
      refine vc_seq ?_
      refine vc_seq ?_
      refine vc_region ?_
      refine vl_det (det_move rfl) rfl ?_
      refine vl_det (det_move rfl) rfl ?_
      refine vl_end [(0, _), (15, _), (16, _)] ⟨rfl, rfl, rfl, trivial⟩ ?_
      refine then_next ?_
      refine vc_block ?_
      refine vc_loopJ (fun zf zL zm => ∃ (m : Nat) (A' : Option Addr) (c' : Nat), (m ≤ n) ∧ n - m = zm ∧ Sub zf [(0, .pointer (some ⟨g, 0, none⟩)), (15, .int .i64 n), (16, .int .i64 m)] ∧ Wk zL (Wr g bt A' c' (q ++ List.replicate m false) F)) _ ⟨0, A, c, Nat.zero_le _, rfl, ⟨(by first | rfl | exact int_to (by omega) | exact sl_to (by omega)), (by first | rfl | exact int_to (by omega) | exact sl_to (by omega)), (by first | rfl | exact int_to (by omega) | exact sl_to (by omega)), trivial⟩, wk_blk (by rw [List.replicate_zero, List.append_nil]) (wk_own (by rw [List.replicate_zero, List.append_nil]) (by rw [List.replicate_zero, List.append_nil]) (.refl _))⟩ ?_
      rintro _ _ _ ⟨m, A', c', hm, rfl, hs, hp⟩
      refine vc_weaken _ hs (vc_wk hp ?_)
      clear hs hp
      have hll : (q ++ List.replicate m false).length = q.length + m := by rw [List.length_append, List.length_replicate]
      refine vc_seq ?_
      refine vc_region ?_
      refine vl_det (det_lss rfl rfl) rfl ?_
      refine vl_end [(0, _), (15, _), (16, _), (17, _)] ⟨rfl, rfl, rfl, rfl, trivial⟩ ?_
      refine then_next ?_
      refine vc_seq ?_
      refine vc_decideU rfl (fun h17 => ?_) (fun h17 => ?_)
      · skip
        refine vc_skip ?_
        refine then_next ?_
        refine vc_seq ?_
        refine vc_block ?_
        refine vc_region ?_
        refine vl_det (det_move rfl) rfl ?_
        refine vl_det (det_nilCheck rfl) rfl ?_
        refine vl_det (det_fieldAddr_ Try.underlying108 rfl (by kernel_rfl) rfl rfl) rfl ?_
        refine vl_call co114 rfl (add_d (q ++ List.replicate m false) false (by omega)) rfl ?_
        rintro _ _ ⟨rfl, A21, c21, hLL⟩
        obtain rfl := hLL.symm
        refine vl_end [(0, _), (15, _), (16, _)] ⟨rfl, rfl, rfl, trivial⟩ ?_
        refine in_normal ?_
        refine then_next ?_
        refine vc_region ?_
        refine vl_det (det_add rfl rfl (w_i64 (by omega) (by omega))) rfl ?_
        refine vl_det (det_move rfl) rfl ?_
        refine vl_end [(0, _), (15, _), (16, _)] ⟨rfl, rfl, rfl, trivial⟩ ?_
        refine in_loop_ ⟨_, by omega, m + 1, A21, c21, by omega, rfl, ⟨(by first | rfl | exact int_to (by omega) | exact sl_to (by omega)), (by first | rfl | exact int_to (by omega) | exact sl_to (by omega)), (by first | rfl | exact int_to (by omega) | exact sl_to (by omega)), trivial⟩, wk_blk (by rw [rep_snoc, List.append_assoc]) (wk_own (by rw [rep_snoc, List.append_assoc]) (by rw [rep_snoc, List.append_assoc]) (.refl _))⟩
      · skip
        refine vc_exit ?_
        refine then_exit ?_
        refine loop_exit ?_
        refine in_eq ?_
        refine then_next ?_
        refine vc_seq ?_
        refine vc_region ?_
        refine vl_det (det_move rfl) rfl ?_
        refine vl_det (det_nilCheck rfl) rfl ?_
        refine vl_det (det_fieldAddr_ Try.underlying108 rfl (by kernel_rfl) rfl rfl) rfl ?_
        refine vl_call co114 rfl (add_d (q ++ List.replicate m false) true (by omega)) rfl ?_
        rintro _ _ ⟨rfl, A26, c26, hLL⟩
        obtain rfl := hLL.symm
        refine vl_end [] trivial ?_
        refine then_next ?_
        refine vc_seq ?_
        refine vc_region ?_
        refine vl_det (det_assign rfl) rfl ?_
        refine vl_end [(4, _)] ⟨rfl, trivial⟩ ?_
        refine then_next ?_
        refine vc_ret ?_
        refine ret1 rfl rfl ?_
        have hm' : m = n := by omega
        subst hm'
        exact ⟨rfl, A26, c26, by rw [List.append_assoc]; rfl⟩
theorem unarybad_d (n : Int) (h1 : -9223372036854775808 ≤ n) (h2 : n < 9223372036854775808) (hp : ¬ (0 ≤ n ∧ n ≤ 100000)) :
    Does Try.prog B w0 69 [.pointer (some ⟨g, 0, none⟩), .int .i64 n] F
      (fun r L => r = .int .i64 13 ∧ L = F) := by
  refine fn_walk Try.func69 27 rfl rfl rfl [(0, .pointer (some ⟨g, 0, none⟩)), (1, .int .i64 n)] ⟨⟨rfl, rfl⟩, ⟨rfl, rfl⟩, trivial⟩ ?_
  refine vc_seq ?_
  refine vc_region ?_
  refine vl_det (det_assign rfl) rfl ?_
  refine vl_end [(0, _), (1, _)] ⟨rfl, rfl, trivial⟩ ?_
  refine then_next ?_
  refine vc_seq ?_
  refine vc_seq ?_
  refine vc_region ?_
  refine vl_cut 10 14 [(0, _), (1, _)] (True) ⟨rfl, rfl, trivial⟩ ?_ ?_
  · skip
    refine vl_det (det_move rfl) rfl ?_
    refine vl_det (det_ptr_nil Try.underlying160 rfl rfl) rfl ?_
    refine vl_det (det_move rfl) rfl ?_
    refine vl_guard_t rfl rfl ?_
    refine vl_det (det_move rfl) rfl ?_
    refine vl_guard_t rfl rfl ?_
    refine vl_det (det_lss rfl rfl) rfl ?_
    refine vl_det (det_pick_f rfl rfl) rfl ?_
    refine vl_det (det_move rfl) rfl ?_
    refine vl_guardn rfl rfl rfl (fun h11 => ?_) (fun h11 => ?_)
    · skip
      refine vl_det (det_move rfl) rfl ?_
      refine vl_guard_t rfl rfl ?_
      refine vl_det (det_gtr rfl rfl) rfl ?_
      refine vl_det (det_pick_f rfl rfl) rfl ?_
      exact vl_cut_end ⟨rfl, rfl, trivial⟩ (by first | rfl | exact bool_to_t (by first | (exact trivial) | (exact ⟨fun _ => trivial, fun _ => by omega⟩) | omega) | exact bool_to_f (by first | (exact trivial) | (exact ⟨fun _ => trivial, fun _ => by omega⟩) | omega) | exact bool_to (by first | (exact trivial) | (exact ⟨fun _ => trivial, fun _ => by omega⟩) | omega) | exact bool_to_b (by first | (exact trivial) | (exact ⟨fun _ => trivial, fun _ => by omega⟩) | omega))
    · skip
      refine vl_guard_f rfl rfl rfl rfl ?_
      refine vl_det (det_pick_t rfl rfl) rfl ?_
      exact vl_cut_end ⟨rfl, rfl, trivial⟩ (by first | rfl | exact bool_to_t (by first | (exact trivial) | (exact ⟨fun _ => trivial, fun _ => by omega⟩) | omega) | exact bool_to_f (by first | (exact trivial) | (exact ⟨fun _ => trivial, fun _ => by omega⟩) | omega) | exact bool_to (by first | (exact trivial) | (exact ⟨fun _ => trivial, fun _ => by omega⟩) | omega) | exact bool_to_b (by first | (exact trivial) | (exact ⟨fun _ => trivial, fun _ => by omega⟩) | omega))
  · skip
    refine vl_end [(0, _), (1, _), (14, _)] ⟨rfl, rfl, rfl, trivial⟩ ?_
    refine then_next ?_
    refine vc_decideU rfl (fun h14 => ?_) (fun h14 => ?_)
    · skip
      refine vc_seq ?_
      refine vc_region ?_
      refine vl_det (det_assign rfl) rfl ?_
      refine vl_end [(4, _)] ⟨rfl, trivial⟩ ?_
      refine then_next ?_
      refine vc_ret ?_
      refine then_ret ?_
      refine ret1 rfl rfl ?_
      exact ⟨rfl, rfl⟩
    · skip
      exfalso; exact h14 trivial
theorem bytes_d (q : List Bool) (hq : q.length ≤ 8000000) : Does Try.prog B w0 70 [.pointer (some ⟨g, 0, none⟩)] (Wr g bt A c q F) (fun r L => ∃ A' c', r = .slice A' (packed q).length c' ∧ L = .own 5 1 A' (packed q).length c' (bv (packed q)) :: Wr g bt A c q F) := by
  have hpl := packed_length q
  refine fn_walk Try.func70 11 rfl rfl rfl [(0, .pointer (some ⟨g, 0, none⟩))] ⟨⟨rfl, rfl⟩, trivial⟩ ?_
  refine vc_seq ?_
  refine vc_region ?_
  refine vl_det (det_assign rfl) rfl ?_
  refine vl_end [(0, _)] ⟨rfl, trivial⟩ ?_
  refine then_next ?_
  refine vc_seq ?_
  refine vc_seq ?_
  refine vc_region ?_
  refine vl_det (det_move rfl) rfl ?_
  refine vl_det (det_ptr_nil Try.underlying160 rfl rfl) rfl ?_
  refine vl_end [(0, _), (4, _)] ⟨rfl, rfl, trivial⟩ ?_
  refine then_next ?_
  refine vc_cond_f rfl ?_
  refine vc_skip ?_
  refine then_next ?_
  refine vc_seq ?_
  refine vc_region ?_
  refine vl_det (det_move rfl) rfl ?_
  refine vl_det (det_nilCheck rfl) rfl ?_
  refine vl_det (det_fieldAddr_ Try.underlying108 rfl (by kernel_rfl) rfl rfl) rfl ?_
  refine vl_det (det_fieldAddr_ Try.underlying106 rfl (by kernel_rfl) rfl rfl) rfl ?_
  refine vl_det (det_load_blk (by kernel_rfl) rfl (by repeat (first | exact .hd | apply Sel.tl)) rfl) rfl ?_
  refine vl_call co115 rfl (clone_d (packed q) (by first | (exact Bor.own (by repeat (first | exact List.Mem.head _ | apply List.Mem.tail))) | (repeat (first | assumption | apply Bor.cons))) (by omega)) rfl ?_
  rintro _ _ ⟨A10, c10, rfl, hLL⟩
  obtain rfl := hLL.symm
  refine vl_det (det_assign rfl) rfl ?_
  refine vl_end [(2, _)] ⟨rfl, trivial⟩ ?_
  refine then_next ?_
  refine vc_ret ?_
  refine ret1 rfl rfl ?_
  exact ⟨A10, c10, rfl, rfl⟩
end Go.Proofs.Ytpamjobiohbibaa
namespace Go.Proofs.Ytpamjobiohbibaa
open Go.RowKit
set_option linter.unusedVariables false
set_option maxRecDepth 20000
def u16v (l : List Nat) : List Value := l.map fun (n : Nat) => Value.int .u16 (n : Int)
@[simp] theorem u16v_append (l k : List Nat) : u16v (l ++ k) = u16v l ++ u16v k := by simp [u16v]
@[simp] theorem u16v_length (l : List Nat) : (u16v l).length = l.length := by simp [u16v]
theorem u16v_get {l : List Nat} {k : Nat} (h : k < l.length) : (u16v l)[k * 1]? = some (.int .u16 (l.getD k 0 : Nat)) := by
  simp [u16v, List.getD, List.getElem?_eq_getElem h]
/-- numbers rise below a bound -/
def risC (bound : Int) (ids : List Int) (i : Nat) : Prop := 0 ≤ ids.getD i 0 ∧ ids.getD i 0 < bound ∧ (0 < i → ids.getD (i - 1) 0 < ids.getD i 0)
def Ris (bound : Int) (ids : List Int) : Prop := ∀ i, i < ids.length → risC bound ids i
instance (bound : Int) (ids : List Int) (i : Nat) : Decidable (risC bound ids i) := inferInstanceAs (Decidable (_ ∧ _ ∧ _))
instance (bound : Int) (ids : List Int) : Decidable (Ris bound ids) := inferInstanceAs (Decidable (∀ i, i < ids.length → _))
/-- .. as_ numbers that are not below 0 -/
def RisN (bound : Nat) (xs : List Nat) : Prop := ∀ i, i < xs.length → xs.getD i 0 < bound ∧ (0 < i → xs.getD (i - 1) 0 < xs.getD i 0)
theorem Ris.nats {bound : Int} {ids : List Int} (h : Ris bound ids) : ∃ xs : List Nat, ids = xs.map (fun (n : Nat) => (n : Int)) := by
  refine ⟨ids.map Int.toNat, ?_⟩
  apply List.ext_getElem
  · simp
  · intro i h1 h2
    have := (h i h1).1
    rw [List.getD_eq_getElem?_getD, List.getElem?_eq_getElem h1] at this
    simp at this ⊢
    omega
theorem cast_getD (xs : List Nat) (i : Nat) : (xs.map (fun (n : Nat) => (n : Int))).getD i 0 = ((xs.getD i 0 : Nat) : Int) := by
  simp only [List.getD_eq_getElem?_getD, List.getElem?_map]
  cases xs[i]? <;> rfl
theorem ris_iff (bound : Nat) (xs : List Nat) : Ris bound (xs.map (fun (n : Nat) => (n : Int))) ↔ RisN bound xs := by
  unfold Ris RisN risC
  simp only [cast_getD, List.length_map]
  exact ⟨fun h i hi => by have := h i hi; omega, fun h i hi => by have := h i hi; omega⟩
theorem ints_nat (xs : List Nat) : ints .i64 (xs.map (fun (n : Nat) => (n : Int))) = natv xs := by simp [ints, natv]
theorem RisN.ge {bound : Nat} {xs : List Nat} (h : RisN bound xs) : ∀ i, i < xs.length → i ≤ xs.getD i 0
  | 0, _ => Nat.zero_le _
  | i + 1, hi => by
    have h1 := RisN.ge h i (by omega)
    have h2 := (h (i + 1) hi).2 (by omega)
    rw [Nat.add_sub_cancel] at h2
    omega
theorem RisN.len {bound : Nat} {xs : List Nat} (h : RisN bound xs) : xs.length ≤ bound := by
  rcases Nat.eq_zero_or_pos xs.length with h0 | h0
  · omega
  · have h1 := h.ge (xs.length - 1) (by omega)
    have h2 := (h (xs.length - 1) (by omega)).1
    omega
/-- low bits, and how many -/
def wid (bound n : Nat) : Nat := Nat.log2 (bound / n)
theorem wid_le {bound n : Nat} (h : bound ≤ 20000) : wid bound n ≤ 14 := by
  unfold wid
  by_cases h0 : bound / n = 0
  · rw [h0]; decide
  · have : bound / n < 2 ^ 15 := by have := Nat.div_le_self bound n; omega
    have := (Nat.log2_lt h0).2 this
    omega
theorem pow_le14 {w : Nat} (h : w ≤ 14) : 2 ^ w ≤ 16384 := Nat.pow_le_pow_right (by omega) h
def unS (p was : Nat) : List Nat → List Bool
  | [] => []
  | x :: xs => un (x / p - was) ++ unS p (x / p) xs
def loS (p w : Nat) (xs : List Nat) : List Bool := xs.flatMap fun x => hi (x % p) w w
def efQ (p w : Nat) (xs : List Nat) : List Bool := loS p w xs ++ unS p 0 xs
def efB (bound : Nat) (xs : List Nat) : List UInt8 := encN xs.length ++ (if xs.length = 0 then [] else packed (efQ (2 ^ wid bound xs.length) (wid bound xs.length) xs))
def efW (bound : Int) (ids : List Int) : List UInt8 × Int := if bound < 0 ∨ 20000 < bound ∨ ¬ Ris bound ids then ([], 13) else (efB bound.toNat (ids.map Int.toNat), 0)
theorem efW_bad {bound : Int} {ids : List Int} (h : bound < 0 ∨ 20000 < bound ∨ ¬ Ris bound ids) : efW bound ids = ([], 13) := if_pos h
theorem efW_ok {bound : Nat} {xs : List Nat} (h : ¬ ((bound : Int) < 0 ∨ (20000 : Int) < bound ∨ ¬ Ris bound (xs.map (fun (n : Nat) => (n : Int))))) : efW bound (xs.map (fun (n : Nat) => (n : Int))) = (efB bound xs, 0) := by
  have e : (xs.map (fun (n : Nat) => (n : Int))).map Int.toNat = xs := by simp [Function.comp_def]
  unfold efW
  rw [if_neg h, Int.toNat_natCast, e]
theorem loS_snoc (p w : Nat) (xs : List Nat) (x : Nat) : loS p w (xs ++ [x]) = loS p w xs ++ hi (x % p) w w := by simp [loS]
theorem loS_length (p w : Nat) (xs : List Nat) : (loS p w xs).length = xs.length * w := by
  induction xs with
  | nil => simp [loS]
  | cons x xs ih => simp only [loS, List.flatMap_cons, List.length_append, hi_length, List.length_cons, Nat.succ_mul] at ih ⊢; omega
def lastP (p was : Nat) (xs : List Nat) : Nat := xs.foldl (fun _ x => x / p) was
theorem lastP_snoc (p was : Nat) (xs : List Nat) (x : Nat) : lastP p was (xs ++ [x]) = x / p := by simp [lastP]
theorem unS_snoc (p : Nat) (x : Nat) : ∀ (xs : List Nat) (was : Nat), unS p was (xs ++ [x]) = unS p was xs ++ un (x / p - lastP p was xs)
  | [], was => by simp [unS, lastP]
  | y :: xs, was => by
    rw [List.cons_append, unS, unS, unS_snoc p x xs (y / p), List.append_assoc]
    rfl
theorem lastP_take {p : Nat} {xs : List Nat} {k : Nat} (h : k < xs.length) : lastP p 0 (xs.take (k + 1)) = xs.getD k 0 / p := by
  rw [take_getD h 0, lastP_snoc]
theorem lastP_le {bound p : Nat} {xs : List Nat} (h : RisN bound xs) {k : Nat} (hk : k < xs.length) : lastP p 0 (xs.take k) ≤ xs.getD k 0 / p := by
  rcases k with _ | k
  · simp [lastP]
  · rw [lastP_take (by omega)]
    have := (h (k + 1) hk).2 (by omega)
    rw [Nat.add_sub_cancel] at this
    exact Nat.div_le_div_right (Nat.le_of_lt this)
/-- the unary part's length: all steps together are the last number's high part -/
theorem unS_length {bound p : Nat} {xs : List Nat} (h : RisN bound xs) : ∀ k, k ≤ xs.length → (unS p 0 (xs.take k)).length = k + lastP p 0 (xs.take k)
  | 0, _ => by simp [unS, lastP]
  | k + 1, hk => by
    have h1 := unS_length h (p := p) k (by omega)
    have h2 := lastP_le (p := p) h (k := k) (by omega)
    rw [lastP_take (by omega), take_getD (by omega) 0, unS_snoc, List.length_append, un_length, h1]
    omega
theorem lastP_bd {bound p : Nat} {xs : List Nat} (h : RisN bound xs) (k : Nat) (hk : k ≤ xs.length) : lastP p 0 (xs.take k) ≤ bound := by
  rcases k with _ | k
  · simp [lastP]
  · rw [lastP_take (by omega)]
    have := (h k (by omega)).1
    have := Nat.div_le_self (xs.getD k 0) p
    omega
theorem efQ_len {bound p w : Nat} {xs : List Nat} (h : RisN bound xs) (hb : bound ≤ 20000) (hw : w ≤ 14) : (efQ p w xs).length ≤ 400000 := by
  have h1 := loS_length p w xs
  have h2 := unS_length (p := p) h xs.length (Nat.le_refl _)
  have h3 := lastP_bd (p := p) h xs.length (Nat.le_refl _)
  have h4 := h.len
  rw [List.take_length] at h2 h3
  have h5 : xs.length * w ≤ 20000 * 14 := Nat.mul_le_mul (by omega) hw
  unfold efQ
  rw [List.length_append]; omega
end Go.Proofs.Ytpamjobiohbibaa

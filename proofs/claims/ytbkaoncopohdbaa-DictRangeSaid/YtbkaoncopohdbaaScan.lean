/-
  What nums.scan, nums.limited and slices.Clone of bytes compute. Conditions: the bytes read as a list, shorter than 2^40.
-/
import Derived.Test.YtbkaoncopohdbaaNum
import Derived.Test.YtbkaoncopohdbaaCurPure
import Derived.Lib.SliceRun
namespace Go.Proofs.Ytbkaoncopohdbaa
open Go.RowKit
set_option linter.unusedVariables false
theorem andnot_128 (u : UInt8) : bits .andNot .u8 (u.toNat : Int) 128 = ((u.toNat % 128 : Nat) : Int) := by
  have : ∀ x : Fin 256, bits .andNot .u8 (x.val : Int) 128 = ((x.val % 128 : Nat) : Int) := by decide +kernel
  exact this ⟨u.toNat, u.toNat_lt⟩
theorem or_shift (m y k : Nat) (h : m < 2 ^ k) : m ||| y * 2 ^ k = m + y * 2 ^ k := by
  rw [Nat.or_comm, Nat.mul_comm, ← Nat.two_pow_add_eq_or_of_lt h]; omega
theorem scan_step (m k : Nat) (u : UInt8) (hk : k ≤ 9) (hm : m < 128 ^ k) (h9 : k = 9 → u.toNat = 1) :
    bits .or .u64 (m : Int) (IntKind.u64.wrap (IntKind.u64.wrap (bits .andNot .u8 (u.toNat : Int) 128) * 2 ^ (7 * k))) = ((m + u.toNat % 128 * 128 ^ k : Nat) : Int) ∧
      (k < 9 → m + u.toNat % 128 * 128 ^ k < 128 ^ (k + 1)) ∧ m + u.toNat % 128 * 128 ^ k < 18446744073709551616 := by
  have e7 : (128 : Nat) ^ k = 2 ^ (7 * k) := by rw [show (128 : Nat) = 2 ^ 7 from rfl, ← Nat.pow_mul]
  have hstep : m + u.toNat % 128 * 128 ^ k < 128 ^ (k + 1) := by
    have : u.toNat % 128 * 128 ^ k ≤ 127 * 128 ^ k := Nat.mul_le_mul_right _ (by omega)
    rw [Nat.pow_succ]; omega
  have e9 : (128 : Nat) ^ 9 = 9223372036854775808 := by decide +kernel
  have hlt : m + u.toNat % 128 * 128 ^ k < 18446744073709551616 := by
    rcases Nat.lt_or_ge k 9 with h | h
    · have : (128 : Nat) ^ (k + 1) ≤ 128 ^ 9 := Nat.pow_le_pow_right (by omega) (by omega)
      rw [e9] at this
      clear e9 e7
      omega
    · have hk9 : k = 9 := by omega
      have hu := h9 hk9
      have hm' : m < 9223372036854775808 := by rw [← e9, ← hk9]; exact hm
      rw [hu, hk9, e9]
      clear hstep hm e7 e9
      omega
  refine ⟨?_, fun _ => hstep, hlt⟩
  rw [andnot_128, wrap_u64 _ (by omega)]
  have ep : ((u.toNat % 128 : Nat) : Int) * 2 ^ (7 * k) = ((u.toNat % 128 * 2 ^ (7 * k) : Nat) : Int) := by
    rw [Int.natCast_mul]; congr 1
  rw [e7] at hm hlt ⊢
  rw [ep, wrap_u64 _ (by omega), u64_or _ _ (by omega) (by omega), or_shift _ _ _ hm]
def ScanAt (l : List UInt8) (k m : Nat) : Prop := scanS l = scanFrom k m (l.drop k) ∧ m < 128 ^ k ∧ k ≤ 9
theorem drop_cons {l : List UInt8} {k : Nat} {u : UInt8} (h : l[k]? = some u) : l.drop k = u :: l.drop (k + 1) := by
  have hk := (List.getElem?_eq_some_iff.1 h)
  rw [List.drop_eq_getElem_cons hk.1, hk.2]
theorem ret3 {a a' b b' c c' : Value} (h1 : a = a') (h2 : b = b') (h3 : c = c') : Ending.returned (.tuple #[a, b, c]) = .returned (.tuple #[a', b', c']) := by rw [h1, h2, h3]
theorem int_eq {k : IntKind} {a b : Int} (h : a = b) : Value.int k a = .int k b := by rw [h]
set_option maxRecDepth 100000 in
set_option maxHeartbeats 1600000 in
theorem scan_c {B : Nat} {A : Option Addr} {n c : Nat} {l : List UInt8} (w : World) (h : Rd w B 1 (.slice A n c) n (bv l)) (hn : n ≤ 1099511627776) :
    Calls Try.prog 59 #[.slice A n c] w fun e w' => e = .returned (.tuple #[.int .u64 ((scanS l).1 : Nat), .int .i64 ((scanS l).2.1 : Nat), .int .i64 (scanS l).2.2]) ∧ w = w' := by
  have Hr := Lib.hid h; have Hl := Lib.hid h.len_eq
  clear h
  go_enter Try.func59, Try.ntmps59
  go_wp2
  go_loop [2, 5, 6, 9] (fun x i6 c6 i => ∃ k m : Nat, k ≤ n ∧ i = .int .i64 k ∧ x = .int .u64 m ∧ Hid (ScanAt l k m)) (fun _ _ _ i => n - (intOf i).toNat)
  case atStart => exact ⟨0, 0, Nat.zero_le _, rfl, rfl, by simp [Hid, ScanAt, scanS]⟩
  case round =>
    obtain ⟨k, m, hk, rfl, rfl, HS⟩ := hrel
    by_cases hlt : k < n
    · obtain ⟨ad, u, rfl, _, hlu, hcell⟩ := Hr.out.byte_at hlt
      have hs := HS.out.1
      have h9 := HS.out.2.2
      rw [drop_cons hlu, scanFrom] at hs
      have HL := Lib.hid hs
      clear hs hlu
      by_cases c1 : k = 9 ∧ u.toNat ≠ 1 ∨ 0 < k ∧ u.toNat = 0
      · have e := HL.out
        rw [if_pos c1] at e
        have HE := Lib.hid e; clear e
        by_cases hk9 : k = 9
        · have b1 : ((u.toNat : Int) != 1) = true := by rw [bne_iff_ne]; omega
          have b9 : ((k : Int) == 9) = true := by rw [beq_iff_eq]; omega
          clear hk9 c1
          go_wp2_with fail
          go_ret3
          rw [HE.out]; exact ⟨rfl, rfl⟩
        · have b9 : ((k : Int) == 9) = false := by rw [beq_eq_false_iff_ne]; omega
          have b0 : ((u.toNat : Int) == 0) = true := by rw [beq_iff_eq]; omega
          have k0 : (0 : Int) < k := by omega
          go_wp2_with fail
          go_ret3
          rw [HE.out]; exact ⟨rfl, rfl⟩
      · have hst := scan_step m k u h9 HS.out.2.1 (by omega)
        have HT := Lib.hid hst; clear hst
        by_cases c2 : u.toNat < 128
        · have e := HL.out
          rw [if_neg c1, if_pos c2] at e
          have HE := Lib.hid e; clear e
          have b9 : ((k : Int) == 9 && (u.toNat : Int) != 1) = false := by
            rw [Bool.and_eq_false_iff, beq_eq_false_iff_ne, bne_eq_false_iff_eq]; omega
          by_cases hk9 : k = 9
          · have b1 : ((u.toNat : Int) != 1) = false := by rw [bne_eq_false_iff_eq]; omega
            have b0 : ((u.toNat : Int) == 0) = false := by rw [beq_eq_false_iff_ne]; omega
            clear b9
            have b9 : ((k : Int) == 9) = true := by rw [beq_iff_eq]; omega
            have k0 : (0 : Int) < k := by omega
            clear hk9 c1
            go_wp2_with fail
            go_ret3
            rw [HE.out]; exact ⟨ret3 (int_eq HT.out.1) rfl rfl, rfl⟩
          · have b9 : ((k : Int) == 9) = false := by rw [beq_eq_false_iff_ne]; omega
            by_cases hk0 : k = 0
            · have k0 : ¬ ((0 : Int) < k) := by omega
              have HK := Lib.hid hk0; clear hk0
              go_wp2_with fail
              go_ret3
              rw [HE.out]; exact ⟨ret3 (int_eq HT.out.1) rfl rfl, rfl⟩
            · have k0 : (0 : Int) < k := by omega
              have b0 : ((u.toNat : Int) == 0) = false := by rw [beq_eq_false_iff_ne]; omega
              go_wp2_with fail
              go_ret3
              rw [HE.out]; exact ⟨ret3 (int_eq HT.out.1) rfl rfl, rfl⟩
        · have e := HL.out
          rw [if_neg c1, if_neg c2] at e
          have hk9 : k < 9 := by omega
          have HE : Hid (ScanAt l (k + 1) (m + u.toNat % 128 * 128 ^ k)) := ⟨e, HT.out.2.1 hk9, by omega⟩
          clear e
          have b9 : ((k : Int) == 9) = false := by rw [beq_eq_false_iff_ne]; omega
          by_cases hk0 : k = 0
          · have k0 : ¬ ((0 : Int) < k) := by omega
            have HK := Lib.hid hk0; clear hk0
            go_wp2_with fail
            go_round
            case rel => exact ⟨k + 1, _, by omega, by go_num, int_eq HT.out.1, HE⟩
            case measure => simp [intOf]; omega
          · have k0 : (0 : Int) < k := by omega
            have b0 : ((u.toNat : Int) == 0) = false := by rw [beq_eq_false_iff_ne]; omega
            go_wp2_with fail
            go_round
            case rel => exact ⟨k + 1, _, by omega, by go_num, int_eq HT.out.1, HE⟩
            case measure => simp [intOf]; omega
    · have e := HS.out.1
      rw [List.drop_of_length_le (by have := Hl.out; omega), scanFrom] at e
      have HE := Lib.hid e; clear e
      go_wp2_with fail
      go_ret3
      rw [HE.out]; exact ⟨rfl, rfl⟩
end Go.Proofs.Ytbkaoncopohdbaa

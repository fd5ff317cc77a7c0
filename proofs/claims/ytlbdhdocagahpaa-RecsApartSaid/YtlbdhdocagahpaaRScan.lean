/-
  What the reference's scan computes: the same plain function as the program's. Conditions: the bytes are shorter than 2^40.
-/
import Derived.Test.YtlbdhdocagahpaaScan
namespace Go.Proofs.Ytlbdhdocagahpaa
open Go.RowKit
set_option linter.unusedVariables false
theorem scanFrom_zero2 : ∀ (l : List UInt8) (i acc : Nat), (scanFrom i acc l).2.2 ≠ 0 → (scanFrom i acc l).2.1 = 0 := by
  intro l
  induction l with
  | nil => intro i acc _; rfl
  | cons c r ih =>
    intro i acc h
    unfold scanFrom at h ⊢
    split
    · rfl
    · rename_i h1
      rw [if_neg h1] at h
      split
      · rename_i h2
        rw [if_pos h2] at h
        exact absurd rfl h
      · rename_i h2
        rw [if_neg h2] at h
        exact ih _ _ h
theorem rscan_step (m k M : Nat) (u : UInt8) (hk : k ≤ 9) (hm : m < 128 ^ k) (h9 : k = 9 → u.toNat = 1) (hM : M = 128 ^ k) :
    IntKind.u64.wrap ((m : Int) + IntKind.u64.wrap ((u.toNat : Int) % 128 * M)) = ((m + u.toNat % 128 * 128 ^ k : Nat) : Int) ∧
      (k < 9 → m + u.toNat % 128 * 128 ^ k < 128 ^ (k + 1)) ∧ (k < 9 → IntKind.u64.wrap ((M : Int) * 128) = ((128 ^ (k + 1) : Nat) : Int)) := by
  have hst := scan_step m k u hk hm h9
  refine ⟨?_, hst.2.1, fun h => ?_⟩
  · have e : (u.toNat : Int) % 128 * M = ((u.toNat % 128 * 128 ^ k : Nat) : Int) := by rw [hM, Int.natCast_mul]; rfl
    have hlt := hst.2.2
    generalize hq : u.toNat % 128 * 128 ^ k = q at *
    rw [e, wrap_u64 _ (by omega), ← Int.natCast_add, wrap_u64 _ (by omega)]
  · have e9 : (128 : Nat) ^ 9 = 9223372036854775808 := by decide +kernel
    have : (128 : Nat) ^ (k + 1) ≤ 128 ^ 9 := Nat.pow_le_pow_right (by omega) (by omega)
    rw [e9] at this
    have e : (M : Int) * 128 = ((128 ^ (k + 1) : Nat) : Int) := by rw [hM, Nat.pow_succ, Int.natCast_mul]; rfl
    generalize hq : 128 ^ (k + 1) = q at *
    rw [e, wrap_u64 _ (by omega)]
set_option maxRecDepth 100000 in
set_option maxHeartbeats 1600000 in
theorem rscan_c {B : Nat} {A : Option Addr} {n c : Nat} {l : List UInt8} (w : World) (h : Rd w B 1 (.slice A n c) n (bv l)) (hn : n ≤ 1099511627776) (at_ : Nat) (hat : at_ ≤ n) :
    Calls Try.prog 62 #[.slice A n c, .int .i64 at_] w fun e w' => e = .returned (.tuple #[.int .u64 ((scanS (l.drop at_)).1 : Nat), .int .i64 ((at_ + (scanS (l.drop at_)).2.1 : Nat) : Int), .int .i64 (scanS (l.drop at_)).2.2]) ∧ w' = w := by
  have Hr := Lib.hid h; have Hl := Lib.hid h.len_eq
  clear h
  have hat2 : at_ ≤ 1099511627776 := by omega
  go_enter Try.func62, Try.ntmps62
  go_wp2
  go_loop [7, 8, 9, 10] (fun x mm i c10 => ∃ k m M : Nat, k ≤ 9 ∧ at_ + k ≤ n ∧ i = .int .i64 k ∧ x = .int .u64 m ∧ mm = .int .u64 M ∧ Hid (M = 128 ^ k) ∧ Hid (ScanAt (l.drop at_) k m)) (fun _ _ i _ => n - at_ - (intOf i).toNat)
  case atStart => exact ⟨0, 0, 1, by omega, by omega, rfl, rfl, rfl, by simp [Hid], by simp [Hid, ScanAt, scanS]⟩
  case round =>
    obtain ⟨k, m, M, hk9, hkn, rfl, rfl, rfl, HM, HS⟩ := hrel
    by_cases hlt : at_ + k < n
    · obtain ⟨ad, u, rfl, _, hlu, hcell⟩ := Hr.out.byte_at hlt
      have hs := HS.out.1
      have hlu' : (l.drop at_)[k]? = some u := by rw [List.getElem?_drop]; exact hlu
      rw [drop_cons hlu', scanFrom] at hs
      have HL := Lib.hid hs
      have hu : u.toNat < 256 := u.toNat_lt
      clear hs hlu hlu'
      by_cases c1 : k = 9 ∧ u.toNat ≠ 1 ∨ 0 < k ∧ u.toNat = 0
      · have e := HL.out
        rw [if_pos c1] at e
        have HE := Lib.hid e; clear e
        by_cases hk9' : k = 9
        · have b1 : ((u.toNat : Int) != 1) = true := by rw [bne_iff_ne]; omega
          have b9 : ((k : Int) == 9) = true := by rw [beq_iff_eq]; omega
          clear hk9' c1
          go_wp2_with fail
          go_ret3
          rw [HE.out]; exact ⟨ret3 rfl (int_eq (by simp)) rfl, rfl⟩
        · have b9 : ((k : Int) == 9) = false := by rw [beq_eq_false_iff_ne]; omega
          have b0 : ((u.toNat : Int) == 0) = true := by rw [beq_iff_eq]; omega
          have k0 : (0 : Int) < k := by omega
          go_wp2_with fail
          go_ret3
          rw [HE.out]; exact ⟨ret3 rfl (int_eq (by simp)) rfl, rfl⟩
      · have hst := rscan_step m k M u hk9 HS.out.2.1 (by omega) HM.out
        have HT := Lib.hid hst; clear hst
        by_cases c2 : u.toNat < 128
        · have e := HL.out
          rw [if_neg c1, if_pos c2] at e
          have HE := Lib.hid e; clear e
          by_cases hk9' : k = 9
          · have b1 : ((u.toNat : Int) != 1) = false := by rw [bne_eq_false_iff_eq]; omega
            have b0 : ((u.toNat : Int) == 0) = false := by rw [beq_eq_false_iff_ne]; omega
            have b9 : ((k : Int) == 9) = true := by rw [beq_iff_eq]; omega
            have k0 : (0 : Int) < k := by omega
            clear hk9' c1
            go_wp2_with fail
            go_ret3
            rw [HE.out]; exact ⟨ret3 (int_eq HT.out.1) (int_eq (by simp; omega)) rfl, rfl⟩
          · have b9 : ((k : Int) == 9) = false := by rw [beq_eq_false_iff_ne]; omega
            by_cases hk0 : k = 0
            · have k0 : ¬ ((0 : Int) < k) := by omega
              have HK := Lib.hid hk0; clear hk0
              go_wp2_with fail
              go_ret3
              rw [HE.out]; exact ⟨ret3 (int_eq HT.out.1) (int_eq (by simp; omega)) rfl, rfl⟩
            · have k0 : (0 : Int) < k := by omega
              have b0 : ((u.toNat : Int) == 0) = false := by rw [beq_eq_false_iff_ne]; omega
              go_wp2_with fail
              go_ret3
              rw [HE.out]; exact ⟨ret3 (int_eq HT.out.1) (int_eq (by simp; omega)) rfl, rfl⟩
        · have e := HL.out
          rw [if_neg c1, if_neg c2] at e
          have hk9' : k < 9 := by omega
          have HE : Hid (ScanAt (l.drop at_) (k + 1) (m + u.toNat % 128 * 128 ^ k)) := ⟨e, HT.out.2.1 hk9', by omega⟩
          clear e
          have b9 : ((k : Int) == 9) = false := by rw [beq_eq_false_iff_ne]; omega
          by_cases hk0 : k = 0
          · have k0 : ¬ ((0 : Int) < k) := by omega
            have HK := Lib.hid hk0; clear hk0
            go_wp2_with fail
            go_round
            case rel => exact ⟨k + 1, _, _, by omega, by omega, by go_num, int_eq HT.out.1, int_eq (HT.out.2.2 hk9'), rfl, HE⟩
            case measure => simp [intOf]; omega
          · have k0 : (0 : Int) < k := by omega
            have b0 : ((u.toNat : Int) == 0) = false := by rw [beq_eq_false_iff_ne]; omega
            go_wp2_with fail
            go_round
            case rel => exact ⟨k + 1, _, _, by omega, by omega, by go_num, int_eq HT.out.1, int_eq (HT.out.2.2 hk9'), rfl, HE⟩
            case measure => simp [intOf]; omega
    · have e := HS.out.1
      have e0 : List.drop k (List.drop at_ l) = [] := List.drop_of_length_le (by rw [List.length_drop]; have := Hl.out; omega)
      rw [e0, scanFrom] at e
      clear e0
      have HE := Lib.hid e; clear e
      go_wp2_with fail
      go_ret3
      rw [HE.out]; exact ⟨ret3 rfl (int_eq (by simp)) rfl, rfl⟩
end Go.Proofs.Ytlbdhdocagahpaa

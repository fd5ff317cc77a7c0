/-
  What a cursor's Byte and Fixed compute. Conditions: the cursor's bytes are shorter than 2^40.
-/
import Derived.Test.YtejibnkgenonfaaCursor4
namespace Go.Proofs.Ytejibnkgenonfaa
open Go.RowKit
set_option linter.unusedVariables false
theorem take_len (s : Cs) (n : Int) : (s.take n).length ≤ n.toNat := by
  unfold Cs.take
  split
  · simp
  · split
    · simp
    · simp; omega
theorem cbyte_c (w : World) (g : Nat) (s : Cs) (hC : Cur w g s) :
    Calls Try.prog 29 #[.pointer (some ⟨g, 0, none⟩)] w fun e w' => e = .returned (.int .u8 s.byte.toNat) ∧ CurP w g s.byte' w' := by
  have ht := ctake_c w g s hC 1
  have hl := take_len s 1
  obtain ⟨L, hL⟩ : ∃ L, L = s.take 1 := ⟨_, rfl⟩
  have eb : s.byte = (L.head?).getD 0 := by unfold Cs.byte; rw [hL]
  have HT := Lib.hid ht; have HL := Lib.hid hL; have EB := Lib.hid eb
  rw [← hL] at hl
  clear ht hL eb
  rcases L with _ | ⟨x, _ | ⟨y, r⟩⟩
  · go_enter Try.func29, Try.ntmps29
    go_wp2_with (go_at_call 31; refine HT.out.mono ?_; rintro e w1 ⟨⟨v1, rfl, hown⟩, hcp⟩; rw [← HL.out] at hown; obtain ⟨A1, c1, rfl, hc1⟩ := (Rd.of_own hown).form)
    go_ret
    rw [EB.out]
    exact ⟨rfl, hcp⟩
  · go_enter Try.func29, Try.ntmps29
    go_wp2_with (go_at_call 31; refine HT.out.mono ?_; rintro e w1 ⟨⟨v1, rfl, hown⟩, hcp⟩; rw [← HL.out] at hown; obtain ⟨A1, c1, rfl, hc1⟩ := (Rd.of_own hown).form; obtain ⟨ad, u, rfl, _, hu, hcell⟩ := (Rd.of_own hown).byte_at (k := 0) (by simp); have hu' : x = u := (by simpa using hu); subst hu'; simp only [Addr.add_zero'] at hcell; clear hu)
    go_ret
    rw [EB.out]
    exact ⟨rfl, hcp⟩
  · exact absurd hl (by simp)
theorem leVal_snoc (l : List UInt8) (x : UInt8) : leVal (l ++ [x]) = leVal l + 256 ^ l.length * x.toNat := by
  induction l with
  | nil => simp [leVal]
  | cons c r ih =>
    simp only [List.cons_append, leVal, ih, List.length_cons, Nat.pow_succ]
    rw [Nat.mul_add, Nat.add_assoc]
    congr 2
    rw [← Nat.mul_assoc]
    congr 1
    exact Nat.mul_comm _ _
theorem leVal_lt (l : List UInt8) : leVal l < 256 ^ l.length := by
  induction l with
  | nil => simp [leVal]
  | cons c r ih =>
    have := c.toNat_lt
    simp only [leVal, List.length_cons, Nat.pow_succ]
    omega
theorem fixed_step (m k y : Nat) (hk : k < 8) (hy : y < 256) (hm : m < 256 ^ k) :
    bits .or .u64 (m : Int) (IntKind.u64.wrap (IntKind.u64.wrap (y : Int) * 2 ^ (8 * k))) = ((m + 256 ^ k * y : Nat) : Int) := by
  have e7 : (256 : Nat) ^ k = 2 ^ (8 * k) := by rw [show (256 : Nat) = 2 ^ 8 from rfl, ← Nat.pow_mul]
  have hp : (2 : Nat) ^ (8 * k) ≤ 2 ^ 56 := Nat.pow_le_pow_right (by omega) (by omega)
  have e56 : (2 : Nat) ^ 56 = 72057594037927936 := by decide +kernel
  rw [e7] at hm ⊢
  rw [e56] at hp
  have hyp : y * 2 ^ (8 * k) ≤ 255 * 72057594037927936 := Nat.mul_le_mul (by omega) hp
  have ep : (y : Int) * 2 ^ (8 * k) = ((y * 2 ^ (8 * k) : Nat) : Int) := by
    rw [Int.natCast_mul]; congr 1
  generalize hq : 2 ^ (8 * k) = q at *
  rw [wrap_u64 _ (by omega), ep, wrap_u64 _ (by omega), u64_or _ _ (by omega) (by omega), ← hq, or_shift _ _ _ (by rw [hq]; exact hm), Nat.mul_comm]
set_option maxRecDepth 100000 in
set_option maxHeartbeats 800000 in
theorem cfixed_c (w : World) (g : Nat) (s : Cs) (hC : Cur w g s) (n : Int) :
    Calls Try.prog 30 #[.pointer (some ⟨g, 0, none⟩), .int .i64 n] w fun e w' => e = .returned (.int .u64 (s.fixed n)) ∧ CurP w g (s.fixed' n) w' := by
  by_cases hn : n < 1 ∨ 8 < n
  · have e1 : s.fixed n = 0 := if_pos hn
    have e2 : s.fixed' n = s.failed 13 := if_pos hn
    have E1 := Lib.hid e1; have E2 := Lib.hid e2
    clear e1 e2
    rcases hn with h | h
    · go_enter Try.func30, Try.ntmps30
      go_wp2_with (go_at_call 27; refine (fail_c _ g s hC 13).mono ?_; rintro e w2 ⟨rfl, hcp⟩)
      go_ret
      rw [E1.out, E2.out]
      exact ⟨rfl, hcp⟩
    · have h1 : ¬ n < 1 := by omega
      go_enter Try.func30, Try.ntmps30
      go_wp2_with (go_at_call 27; refine (fail_c _ g s hC 13).mono ?_; rintro e w2 ⟨rfl, hcp⟩)
      go_ret
      rw [E1.out, E2.out]
      exact ⟨rfl, hcp⟩
  · have ht := ctake_c w g s hC n
    have hl := take_len s n
    obtain ⟨L, hL⟩ : ∃ L, L = s.take n := ⟨_, rfl⟩
    have e1 : s.fixed n = leVal L := by unfold Cs.fixed; rw [if_neg hn, hL]
    have e2 : s.fixed' n = s.take' n := if_neg hn
    rw [← hL] at hl
    have hl8 : L.length ≤ 8 := by omega
    have h1 : ¬ n < 1 := by omega
    have h2 : ¬ 8 < n := by omega
    have HT := Lib.hid ht; have HL := Lib.hid hL; have E1 := Lib.hid e1; have E2 := Lib.hid e2
    clear ht hL e1 e2 hn hl
    go_enter Try.func30, Try.ntmps30
    go_wp2_with (go_at_call 31; refine HT.out.mono ?_; rintro e w1 ⟨⟨v1, rfl, hown⟩, hcp⟩; rw [← HL.out] at hown; have hrd := Lib.hid (Rd.of_own hown); have HO := Lib.hid hown; have HCP := Lib.hid hcp; obtain ⟨A1, c1, rfl, hc1⟩ := hrd.out.form; clear hown hcp)
    go_loop [5, 6, 7, 20] (fun x i6 c6 i => ∃ k m : Nat, k ≤ L.length ∧ i = .int .i64 k ∧ x = .int .u64 m ∧ Hid (m = leVal (L.take k))) (fun _ _ _ i => L.length - (intOf i).toNat)
    case atStart => exact ⟨0, 0, Nat.zero_le _, rfl, rfl, by simp [Hid, leVal]⟩
    case round =>
      obtain ⟨k, m, hk, rfl, rfl, HM⟩ := hrel
      by_cases hlt : k < L.length
      · obtain ⟨ad, u, rfl, _, hu, hcell⟩ := hrd.out.byte_at hlt
        have hm : m < 256 ^ k := by
          rw [HM.out]
          have := leVal_lt (L.take k)
          rwa [List.length_take, Nat.min_eq_left hk] at this
        have hst := fixed_step m k u.toNat (by omega) u.toNat_lt hm
        have hm2 : m + 256 ^ k * u.toNat = leVal (L.take (k + 1)) := by
          rw [List.take_succ_eq_append_getElem hlt, leVal_snoc, ← HM.out, List.length_take, Nat.min_eq_left hk]
          have := (List.getElem?_eq_some_iff.1 hu).2
          rw [this]
        have HST := Lib.hid hst; have HM2 := Lib.hid hm2
        clear hst hm2 hm hu
        go_wp2_with fail
        go_round
        case rel => exact ⟨k + 1, _, by omega, by go_num, int_eq HST.out, HM2⟩
        case measure => simp [intOf]; omega
      · have hkn : L.take k = L := List.take_of_length_le (by omega)
        have HK := Lib.hid hkn; clear hkn
        go_wp2_with fail
        go_ret
        rw [E1.out, E2.out, HM.out, HK.out]
        exact ⟨rfl, HCP.out⟩
end Go.Proofs.Ytejibnkgenonfaa

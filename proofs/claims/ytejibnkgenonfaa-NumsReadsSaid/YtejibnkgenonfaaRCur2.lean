/-
  What the reference's scan and its cursor's Num and Int compute: the same plain functions as the program's. Conditions: the cursor's bytes are shorter than 2^40.
-/
import Derived.Test.YtejibnkgenonfaaRCur
namespace Go.Proofs.Ytejibnkgenonfaa
open Go.RowKit
set_option linter.unusedVariables false
theorem scanFrom_zero2 : ∀ (l : List UInt8) (i acc : Nat), (scanFrom i acc l).2.2 ≠ 0 → (scanFrom i acc l).2.1 = 0 := by
  intro l
  induction l with
  | nil => intro i acc _; rfl
  | cons c r ih =>
    intro i acc h
    unfold scanFrom at h ⊢
    split
    · rfl
    · rename_i h1
      rw [if_neg h1] at h
      split
      · rename_i h2
        rw [if_pos h2] at h
        exact absurd rfl h
      · rename_i h2
        rw [if_neg h2] at h
        exact ih _ _ h
theorem rscan_step (m k M : Nat) (u : UInt8) (hk : k ≤ 9) (hm : m < 128 ^ k) (h9 : k = 9 → u.toNat = 1) (hM : M = 128 ^ k) :
    IntKind.u64.wrap ((m : Int) + IntKind.u64.wrap ((u.toNat : Int) % 128 * M)) = ((m + u.toNat % 128 * 128 ^ k : Nat) : Int) ∧
      (k < 9 → m + u.toNat % 128 * 128 ^ k < 128 ^ (k + 1)) ∧ (k < 9 → IntKind.u64.wrap ((M : Int) * 128) = ((128 ^ (k + 1) : Nat) : Int)) := by
  have hst := scan_step m k u hk hm h9
  refine ⟨?_, hst.2.1, fun h => ?_⟩
  · have e : (u.toNat : Int) % 128 * M = ((u.toNat % 128 * 128 ^ k : Nat) : Int) := by rw [hM, Int.natCast_mul]; rfl
    have hlt := hst.2.2
    generalize hq : u.toNat % 128 * 128 ^ k = q at *
    rw [e, wrap_u64 _ (by omega), ← Int.natCast_add, wrap_u64 _ (by omega)]
  · have e9 : (128 : Nat) ^ 9 = 9223372036854775808 := by decide +kernel
    have : (128 : Nat) ^ (k + 1) ≤ 128 ^ 9 := Nat.pow_le_pow_right (by omega) (by omega)
    rw [e9] at this
    have e : (M : Int) * 128 = ((128 ^ (k + 1) : Nat) : Int) := by rw [hM, Nat.pow_succ, Int.natCast_mul]; rfl
    generalize hq : 128 ^ (k + 1) = q at *
    rw [e, wrap_u64 _ (by omega)]
set_option maxRecDepth 100000 in
set_option maxHeartbeats 1600000 in
theorem rscan_c {B : Nat} {A : Option Addr} {n c : Nat} {l : List UInt8} (w : World) (h : Rd w B 1 (.slice A n c) n (bv l)) (hn : n ≤ 1099511627776) (at_ : Nat) (hat : at_ ≤ n) :
    Calls Try.prog 56 #[.slice A n c, .int .i64 at_] w fun e w' => e = .returned (.tuple #[.int .u64 ((scanS (l.drop at_)).1 : Nat), .int .i64 ((at_ + (scanS (l.drop at_)).2.1 : Nat) : Int), .int .i64 (scanS (l.drop at_)).2.2]) ∧ w' = w := by
  have Hr := Lib.hid h; have Hl := Lib.hid h.len_eq
  clear h
  have hat2 : at_ ≤ 1099511627776 := by omega
  go_enter Try.func56, Try.ntmps56
  go_wp2
  go_loop [7, 8, 9, 10] (fun x mm i c10 => ∃ k m M : Nat, k ≤ 9 ∧ at_ + k ≤ n ∧ i = .int .i64 k ∧ x = .int .u64 m ∧ mm = .int .u64 M ∧ Hid (M = 128 ^ k) ∧ Hid (ScanAt (l.drop at_) k m)) (fun _ _ i _ => n - at_ - (intOf i).toNat)
  case atStart => exact ⟨0, 0, 1, by omega, by omega, rfl, rfl, rfl, by simp [Hid], by simp [Hid, ScanAt, scanS]⟩
  case round =>
    obtain ⟨k, m, M, hk9, hkn, rfl, rfl, rfl, HM, HS⟩ := hrel
    by_cases hlt : at_ + k < n
    · obtain ⟨ad, u, rfl, _, hlu, hcell⟩ := Hr.out.byte_at hlt
      have hs := HS.out.1
      have hlu' : (l.drop at_)[k]? = some u := by rw [List.getElem?_drop]; exact hlu
      rw [drop_cons hlu', scanFrom] at hs
      have HL := Lib.hid hs
      have hu : u.toNat < 256 := u.toNat_lt
      clear hs hlu hlu'
      by_cases c1 : k = 9 ∧ u.toNat ≠ 1 ∨ 0 < k ∧ u.toNat = 0
      · have e := HL.out
        rw [if_pos c1] at e
        have HE := Lib.hid e; clear e
        by_cases hk9' : k = 9
        · have b1 : ((u.toNat : Int) != 1) = true := by rw [bne_iff_ne]; omega
          have b9 : ((k : Int) == 9) = true := by rw [beq_iff_eq]; omega
          clear hk9' c1
          go_wp2_with fail
          go_ret3
          rw [HE.out]; exact ⟨ret3 rfl (int_eq (by simp)) rfl, rfl⟩
        · have b9 : ((k : Int) == 9) = false := by rw [beq_eq_false_iff_ne]; omega
          have b0 : ((u.toNat : Int) == 0) = true := by rw [beq_iff_eq]; omega
          have k0 : (0 : Int) < k := by omega
          go_wp2_with fail
          go_ret3
          rw [HE.out]; exact ⟨ret3 rfl (int_eq (by simp)) rfl, rfl⟩
      · have hst := rscan_step m k M u hk9 HS.out.2.1 (by omega) HM.out
        have HT := Lib.hid hst; clear hst
        by_cases c2 : u.toNat < 128
        · have e := HL.out
          rw [if_neg c1, if_pos c2] at e
          have HE := Lib.hid e; clear e
          by_cases hk9' : k = 9
          · have b1 : ((u.toNat : Int) != 1) = false := by rw [bne_eq_false_iff_eq]; omega
            have b0 : ((u.toNat : Int) == 0) = false := by rw [beq_eq_false_iff_ne]; omega
            have b9 : ((k : Int) == 9) = true := by rw [beq_iff_eq]; omega
            have k0 : (0 : Int) < k := by omega
            clear hk9' c1
            go_wp2_with fail
            go_ret3
            rw [HE.out]; exact ⟨ret3 (int_eq HT.out.1) (int_eq (by simp; omega)) rfl, rfl⟩
          · have b9 : ((k : Int) == 9) = false := by rw [beq_eq_false_iff_ne]; omega
            by_cases hk0 : k = 0
            · have k0 : ¬ ((0 : Int) < k) := by omega
              have HK := Lib.hid hk0; clear hk0
              go_wp2_with fail
              go_ret3
              rw [HE.out]; exact ⟨ret3 (int_eq HT.out.1) (int_eq (by simp; omega)) rfl, rfl⟩
            · have k0 : (0 : Int) < k := by omega
              have b0 : ((u.toNat : Int) == 0) = false := by rw [beq_eq_false_iff_ne]; omega
              go_wp2_with fail
              go_ret3
              rw [HE.out]; exact ⟨ret3 (int_eq HT.out.1) (int_eq (by simp; omega)) rfl, rfl⟩
        · have e := HL.out
          rw [if_neg c1, if_neg c2] at e
          have hk9' : k < 9 := by omega
          have HE : Hid (ScanAt (l.drop at_) (k + 1) (m + u.toNat % 128 * 128 ^ k)) := ⟨e, HT.out.2.1 hk9', by omega⟩
          clear e
          have b9 : ((k : Int) == 9) = false := by rw [beq_eq_false_iff_ne]; omega
          by_cases hk0 : k = 0
          · have k0 : ¬ ((0 : Int) < k) := by omega
            have HK := Lib.hid hk0; clear hk0
            go_wp2_with fail
            go_round
            case rel => exact ⟨k + 1, _, _, by omega, by omega, by go_num, int_eq HT.out.1, int_eq (HT.out.2.2 hk9'), rfl, HE⟩
            case measure => simp [intOf]; omega
          · have k0 : (0 : Int) < k := by omega
            have b0 : ((u.toNat : Int) == 0) = false := by rw [beq_eq_false_iff_ne]; omega
            go_wp2_with fail
            go_round
            case rel => exact ⟨k + 1, _, _, by omega, by omega, by go_num, int_eq HT.out.1, int_eq (HT.out.2.2 hk9'), rfl, HE⟩
            case measure => simp [intOf]; omega
    · have e := HS.out.1
      have e0 : List.drop k (List.drop at_ l) = [] := List.drop_of_length_le (by rw [List.length_drop]; have := Hl.out; omega)
      rw [e0, scanFrom] at e
      clear e0
      have HE := Lib.hid e; clear e
      go_wp2_with fail
      go_ret3
      rw [HE.out]; exact ⟨ret3 rfl (int_eq (by simp)) rfl, rfl⟩
set_option maxRecDepth 100000 in
set_option maxHeartbeats 1000000 in
theorem rnumc_c (w : World) (g : Nat) (s : Cs) (hC : RCur w g s) :
    Calls Try.prog 37 #[.pointer (some ⟨g, 0, none⟩)] w fun e w' => e = .returned (.int .u64 s.num) ∧ RCurP w g s.num' w' := by
  obtain ⟨A, c, hc0, hcap, hrd⟩ := hC.cell0
  obtain ⟨hc1, hc2, hf1, hf2⟩ := hC.cells
  have hbd := hC.bounds
  have HC := Lib.hid hC; have HR := Lib.hid hrd
  clear hC hrd
  by_cases h0 : s.e = 0
  · have hsf := scanS_facts s.rest
    obtain ⟨x, hx⟩ : ∃ x, x = (scanS s.rest).1 := ⟨_, rfl⟩
    obtain ⟨k, hk⟩ : ∃ k, k = (scanS s.rest).2.1 := ⟨_, rfl⟩
    obtain ⟨er, her⟩ : ∃ er, er = (scanS s.rest).2.2 := ⟨_, rfl⟩
    have hsc := fun W hW => rscan_c (B := g) W hW hbd.2.1 s.at_ hbd.1 (A := A) (c := c) (l := s.b)
    have hrest : s.b.drop s.at_ = s.rest := rfl
    rw [hrest, ← hx, ← hk, ← her] at hsc
    have hkl : s.at_ + k ≤ s.b.length := by have := hsf.2.1; rw [hbd.2.2.1, ← hk] at this; unfold Cs.left at this; omega
    have hb0 : (s.e != 0) = false := by simp [h0]
    have hz : er ≠ 0 → k = 0 := by
      intro h
      rw [her] at h
      rw [hk]
      exact scanFrom_zero2 _ _ _ h
    have hfin : s.num = x ∧ s.num' = ⟨s.b, s.at_ + k, er⟩ := by
      unfold Cs.num Cs.num'
      rw [← hx, ← hk, ← her, if_neg (by simp [h0])]
      refine ⟨rfl, ?_⟩
      by_cases he : er = 0
      · rw [he, Cs.moved_ok h0]; simp [h0]
      · rw [Cs.moved_bad h0 _ he, hz he]; rfl
    have HF := Lib.hid hfin; have HSC := fun W hW => Lib.hid (hsc W hW)
    have hkk : s.at_ + k ≤ 1099511627776 := by omega
    have HKL := Lib.hid hkl; have H0 := Lib.hid h0
    have hhid : ∀ j, Rd (w.drewN j) g 1 (.slice A s.b.length c) s.b.length (bv s.b) := fun j => HR.out
    have HH := fun j => Lib.hid (hhid j)
    clear hsf hx hk her hsc hrest hkl hz hfin h0 hbd hhid
    go_enter Try.func37, Try.ntmps37
    go_wp2_with fail
    go_quiet ((go_at_call 56; exact Calls.quiet_of_same (HSC _ (HH _).out).out))
    go_wp2
    go_ret
    unfold RCurP
    rw [HF.out.1, HF.out.2]
    exact ⟨rfl, (HC.out.setAt k HKL.out).setErr er, only_setCell (only_setCell (only_drewN (World.grownBy.refl _ _) _) (p := ⟨g, 1, none⟩) (.inl rfl) _) (p := ⟨g, 2, none⟩) (.inl rfl) _⟩
  · have hb0 : (s.e != 0) = true := by rw [bne_iff_ne]; exact h0
    have en : s.num = 0 := by unfold Cs.num; rw [if_pos h0]
    have en' : s.num' = s := by unfold Cs.num'; rw [Cs.moved_err h0]
    have EN := Lib.hid en; have EN' := Lib.hid en'; have H0 := Lib.hid h0
    clear h0 hbd en en'
    go_enter Try.func37, Try.ntmps37
    go_wp2_with fail
    go_ret
    unfold RCurP
    rw [EN.out, EN'.out]
    exact ⟨rfl, HC.out, World.grownBy.refl _ _⟩
theorem cap_u64 (m : Nat) (h : m ≤ 9223372036854775807) : IntKind.u64.wrap (m : Int) = (m : Int) := wrap_u64 _ (by omega)
set_option maxRecDepth 100000 in
set_option maxHeartbeats 1000000 in
theorem rint_c (w : World) (g : Nat) (s : Cs) (hC : RCur w g s) (most : Int) (hmo : -9223372036854775808 ≤ most ∧ most ≤ 9223372036854775807) :
    Calls Try.prog 38 #[.pointer (some ⟨g, 0, none⟩), .int .i64 most] w fun e w' => e = .returned (.int .i64 (s.int most)) ∧ RCurP w g (s.int' most) w' := by
  have hc1 := hC.cells.1
  have hbd := hC.bounds
  have HC := Lib.hid hC
  clear hC
  by_cases h0 : s.e = 0
  · obtain ⟨x, hx⟩ : ∃ x, x = (scanS s.rest).1 := ⟨_, rfl⟩
    obtain ⟨k, hk⟩ : ∃ k, k = (scanS s.rest).2.1 := ⟨_, rfl⟩
    obtain ⟨er, her⟩ : ∃ er, er = (scanS s.rest).2.2 := ⟨_, rfl⟩
    have hsf := scanS_facts s.rest
    rw [← hx, ← hk, ← her] at hsf
    have en : s.num = x := by unfold Cs.num; rw [if_neg (by simp [h0]), hx]
    have EN := Lib.hid en
    by_cases he : er = 0
    · have en' : s.num' = ⟨s.b, s.at_ + k, 0⟩ := by unfold Cs.num'; rw [← hk, ← her, he, Cs.moved_ok h0, ← h0]
      have EN' := Lib.hid en'
      by_cases hbig : most < 0 ∨ most < x
      · have el : limS s.rest most = (0, 0, 6) := by unfold limS; rw [← hx, ← her, if_neg (by simp [he]), if_pos hbig]
        have e1 : s.int most = 0 := by unfold Cs.int; rw [el, if_neg (by simp [h0])]
        have e2 : s.int' most = { s with e := 6 } := by unfold Cs.int'; rw [el, Cs.moved_bad h0 _ (by simp)]
        have E1 := Lib.hid e1; have E2 := Lib.hid e2; have H0 := Lib.hid h0
        have hback : ∀ W, RCur W g ⟨s.b, s.at_ + k, 0⟩ → RCur ((W.setCell ⟨g, 1, none⟩ (.int .i64 s.at_)).setCell ⟨g, 2, none⟩ (.int .i64 6)) g { s with e := 6 } := by
          intro W hW
          obtain ⟨A, c, h1, h2, h3, h4⟩ := hW
          refine ⟨A, c, (h1.set_ 1 (.int .i64 s.at_)).set_ 2 (.int .i64 6), (h2.grown' (only_setCell (World.grownBy.refl W (some g)) (p := ⟨g, 1, none⟩) (.inl rfl) _) (Nat.le_refl _)).grown' (only_setCell (World.grownBy.refl _ (some g)) (p := ⟨g, 2, none⟩) (.inl rfl) _) (Nat.le_refl _), hbd.1, hbd.2.1⟩
        have HBK := Lib.hid hback
        clear el e1 e2 h0 hx hk her hsf he hbd hback en en'
        rcases Int.lt_or_le most 0 with hneg | hneg
        · clear hbig hmo
          go_enter Try.func38, Try.ntmps38
          go_wp2_with (go_at_call 37; refine (rnumc_c _ g s HC.out).mono ?_; rintro e w1 ⟨rfl, hC1, hg1⟩; rw [EN'.out] at hC1; rw [EN.out]; obtain ⟨hd1, hd2, hf1, hf2⟩ := hC1.cells; have HC1 := Lib.hid hC1; have HG1 := Lib.hid hg1; clear hC1 hg1)
          go_ret
          unfold RCurP
          rw [E1.out, E2.out]
          exact ⟨rfl, HBK.out _ HC1.out, only_setCell (only_setCell HG1.out (p := ⟨g, 1, none⟩) (.inl rfl) _) (p := ⟨g, 2, none⟩) (.inl rfl) _⟩
        · obtain ⟨m, rfl⟩ := Int.eq_ofNat_of_zero_le hneg
          have hw := cap_u64 m (by omega)
          have hmx : (m : Int) < x := by omega
          have hm0 : ¬ ((m : Int) < 0) := by omega
          clear hbig hmo hneg
          go_enter Try.func38, Try.ntmps38
          go_wp2_with (go_at_call 37; refine (rnumc_c _ g s HC.out).mono ?_; rintro e w1 ⟨rfl, hC1, hg1⟩; rw [EN'.out] at hC1; rw [EN.out]; obtain ⟨hd1, hd2, hf1, hf2⟩ := hC1.cells; have HC1 := Lib.hid hC1; have HG1 := Lib.hid hg1; clear hC1 hg1)
          go_ret
          unfold RCurP
          rw [E1.out, E2.out]
          exact ⟨rfl, HBK.out _ HC1.out, only_setCell (only_setCell HG1.out (p := ⟨g, 1, none⟩) (.inl rfl) _) (p := ⟨g, 2, none⟩) (.inl rfl) _⟩
      · obtain ⟨m, rfl⟩ := Int.eq_ofNat_of_zero_le (show 0 ≤ most by omega)
        have el : limS s.rest m = (x, k, 0) := by unfold limS; rw [← hx, ← her, ← hk, if_neg (by simp [he]), if_neg hbig]
        have e1 : s.int m = x := by unfold Cs.int; rw [el, if_neg (by simp [h0])]
        have e2 : s.int' m = ⟨s.b, s.at_ + k, 0⟩ := by unfold Cs.int'; rw [el, Cs.moved_ok h0, ← h0]
        have E1 := Lib.hid e1; have E2 := Lib.hid e2; have H0 := Lib.hid h0
        have hw := cap_u64 m (by omega)
        have hmx : ¬ (m : Int) < x := by omega
        have hm0 : ¬ ((m : Int) < 0) := by omega
        have hcv := Lib.hid (lim_conv x (by omega))
        clear el e1 e2 h0 hx hk her hsf he hbd hbig hmo en en'
        go_enter Try.func38, Try.ntmps38
        go_wp2_with (go_at_call 37; refine (rnumc_c _ g s HC.out).mono ?_; rintro e w1 ⟨rfl, hC1, hg1⟩; rw [EN'.out] at hC1; rw [EN.out]; obtain ⟨hd1, hd2, hf1, hf2⟩ := hC1.cells; have HC1 := Lib.hid hC1; have HG1 := Lib.hid hg1; clear hC1 hg1)
        go_ret
        unfold RCurP
        rw [E1.out, E2.out]
        exact ⟨ret_int hcv.out, HC1.out, HG1.out⟩
    · have en' : s.num' = { s with e := er } := by unfold Cs.num'; rw [← hk, ← her, Cs.moved_bad h0 _ he]
      have EN' := Lib.hid en'
      have hbe : (er != 0) = true := by rw [bne_iff_ne]; exact he
      have el : limS s.rest most = (0, 0, er) := by unfold limS; rw [← her, if_pos he]
      have e1 : s.int most = 0 := by unfold Cs.int; rw [el, if_neg (by simp [h0])]
      have e2 : s.int' most = { s with e := er } := by unfold Cs.int'; rw [el, Cs.moved_bad h0 _ he]
      have E1 := Lib.hid e1; have E2 := Lib.hid e2; have H0 := Lib.hid h0
      clear el e1 e2 h0 hx hk her hsf he hbd en en' hmo
      go_enter Try.func38, Try.ntmps38
      go_wp2_with (go_at_call 37; refine (rnumc_c _ g s HC.out).mono ?_; rintro e w1 ⟨rfl, hC1, hg1⟩; rw [EN'.out] at hC1; rw [EN.out]; obtain ⟨hd1, hd2, hf1, hf2⟩ := hC1.cells; have HC1 := Lib.hid hC1; have HG1 := Lib.hid hg1; clear hC1 hg1)
      go_ret
      unfold RCurP
      rw [E1.out, E2.out]
      exact ⟨rfl, HC1.out, HG1.out⟩
  · have hb0 : (s.e != 0) = true := by rw [bne_iff_ne]; exact h0
    have en : s.num = 0 := by unfold Cs.num; rw [if_pos h0]
    have en' : s.num' = s := by unfold Cs.num'; rw [Cs.moved_err h0]
    have e1 : s.int most = 0 := by unfold Cs.int; rw [if_pos h0]
    have e2 : s.int' most = s := by unfold Cs.int'; rw [Cs.moved_err h0]
    have EN := Lib.hid en; have EN' := Lib.hid en'; have H0 := Lib.hid h0; have E1 := Lib.hid e1; have E2 := Lib.hid e2
    clear h0 hbd en en' e1 e2 hmo
    go_enter Try.func38, Try.ntmps38
    go_wp2_with (go_at_call 37; refine (rnumc_c _ g s HC.out).mono ?_; rintro e w1 ⟨rfl, hC1, hg1⟩; rw [EN'.out] at hC1; rw [EN.out]; obtain ⟨hd1, hd2, hf1, hf2⟩ := hC1.cells; have HC1 := Lib.hid hC1; have HG1 := Lib.hid hg1; clear hC1 hg1)
    go_ret
    unfold RCurP
    rw [E1.out, E2.out]
    exact ⟨rfl, HC1.out, HG1.out⟩
end Go.Proofs.Ytejibnkgenonfaa

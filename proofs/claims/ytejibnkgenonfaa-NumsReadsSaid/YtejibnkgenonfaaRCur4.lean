/-
  What the reference's cursor's Byte, Fixed and Text compute: the same plain functions as the program's. Conditions: the cursor's bytes are shorter than 2^40.
-/
import Derived.Test.YtejibnkgenonfaaRCur3
namespace Go.Proofs.Ytejibnkgenonfaa
open Go.RowKit
set_option linter.unusedVariables false
theorem rbyte_c (w : World) (g : Nat) (s : Cs) (hC : RCur w g s) :
    Calls Try.prog 39 #[.pointer (some ⟨g, 0, none⟩)] w fun e w' => e = .returned (.int .u8 s.byte.toNat) ∧ RCurP w g s.byte' w' := by
  have ht := rtake_c w g s hC 1
  have hl := take_len s 1
  obtain ⟨L, hL⟩ : ∃ L, L = s.take 1 := ⟨_, rfl⟩
  have eb : s.byte = (L.head?).getD 0 := by unfold Cs.byte; rw [hL]
  have HT := Lib.hid ht; have HL := Lib.hid hL; have EB := Lib.hid eb
  rw [← hL] at hl
  clear ht hL eb
  rcases L with _ | ⟨x, _ | ⟨y, r⟩⟩
  · go_enter Try.func39, Try.ntmps39
    go_wp2_with (go_at_call 41; refine HT.out.mono ?_; rintro e w1 ⟨⟨v1, rfl, hown⟩, hcp⟩; rw [← HL.out] at hown; obtain ⟨A1, c1, rfl, hc1⟩ := (Rd.of_own hown).form)
    go_ret
    rw [EB.out]
    exact ⟨rfl, hcp⟩
  · go_enter Try.func39, Try.ntmps39
    go_wp2_with (go_at_call 41; refine HT.out.mono ?_; rintro e w1 ⟨⟨v1, rfl, hown⟩, hcp⟩; rw [← HL.out] at hown; obtain ⟨A1, c1, rfl, hc1⟩ := (Rd.of_own hown).form; obtain ⟨ad, u, rfl, _, hu, hcell⟩ := (Rd.of_own hown).byte_at (k := 0) (by simp); have hu' : x = u := (by simpa using hu); subst hu'; simp only [Addr.add_zero'] at hcell; clear hu)
    go_ret
    rw [EB.out]
    exact ⟨rfl, hcp⟩
  · exact absurd hl (by simp)
theorem le_step (X u : Nat) (h : u + 256 * X < 18446744073709551616) : IntKind.u64.wrap (IntKind.u64.wrap ((X : Int) * 256) + (u : Int)) = ((u + 256 * X : Nat) : Int) := by
  have e : (X : Int) * 256 = ((X * 256 : Nat) : Int) := by omega
  rw [e, wrap_u64 _ (by omega), ← Int.natCast_add, wrap_u64 _ (by omega)]
  omega
set_option maxRecDepth 100000 in
set_option maxHeartbeats 800000 in
theorem rfixedc_c (w : World) (g : Nat) (s : Cs) (hC : RCur w g s) (n : Int) :
    Calls Try.prog 40 #[.pointer (some ⟨g, 0, none⟩), .int .i64 n] w fun e w' => e = .returned (.int .u64 (s.fixed n)) ∧ RCurP w g (s.fixed' n) w' := by
  obtain ⟨hc1, hc2, hf1, hf2⟩ := hC.cells
  have HC := Lib.hid hC
  clear hC
  by_cases h0 : s.e = 0
  · have hb0 : (s.e != 0) = false := by simp [h0]
    by_cases hn : n < 1 ∨ 8 < n
    · have e1 : s.fixed n = 0 := if_pos hn
      have e2 : s.fixed' n = { s with e := 13 } := by unfold Cs.fixed'; rw [if_pos hn]; exact if_pos h0
      have E1 := Lib.hid e1; have E2 := Lib.hid e2; have H0 := Lib.hid h0
      clear e1 e2 h0
      rcases hn with h | h
      · go_enter Try.func40, Try.ntmps40
        go_wp2_with fail
        go_ret
        unfold RCurP
        rw [E1.out, E2.out]
        exact ⟨rfl, HC.out.setErr 13, only_setCell (World.grownBy.refl _ _) (p := ⟨g, 2, none⟩) (.inl rfl) _⟩
      · have h1 : ¬ n < 1 := by omega
        go_enter Try.func40, Try.ntmps40
        go_wp2_with fail
        go_ret
        unfold RCurP
        rw [E1.out, E2.out]
        exact ⟨rfl, HC.out.setErr 13, only_setCell (World.grownBy.refl _ _) (p := ⟨g, 2, none⟩) (.inl rfl) _⟩
    · have ht := rtake_c w g s HC.out n
      have hl := take_len s n
      obtain ⟨L, hL⟩ : ∃ L, L = s.take n := ⟨_, rfl⟩
      have e1 : s.fixed n = leVal L := by unfold Cs.fixed; rw [if_neg hn, hL]
      have e2 : s.fixed' n = s.take' n := if_neg hn
      rw [← hL] at hl
      have hl8 : L.length ≤ 8 := by omega
      have h1 : ¬ n < 1 := by omega
      have h2 : ¬ 8 < n := by omega
      have HT := Lib.hid ht; have HL := Lib.hid hL; have E1 := Lib.hid e1; have E2 := Lib.hid e2; have H0 := Lib.hid h0
      clear ht hL e1 e2 hn hl h0
      go_enter Try.func40, Try.ntmps40
      go_wp2_with (go_at_call 41; refine HT.out.mono ?_; rintro e w1 ⟨⟨v1, rfl, hown⟩, hcp⟩; rw [← HL.out] at hown; have hrd := Lib.hid (Rd.of_own hown); have HO := Lib.hid hown; have HCP := Lib.hid hcp; obtain ⟨A1, c1, rfl, hc1⟩ := hrd.out.form; clear hown hcp)
      go_loop [6, 7] (fun x i => ∃ k X : Nat, k ≤ L.length ∧ i = .int .i64 ((k : Int) - 1) ∧ x = .int .u64 X ∧ Hid (X = leVal (L.drop k))) (fun _ i => (intOf i + 1).toNat)
      case atStart => exact ⟨L.length, 0, Nat.le_refl _, rfl, rfl, by simp [Hid, leVal]⟩
      case round =>
        obtain ⟨k, X, hk, rfl, rfl, HX⟩ := hrel
        rcases k with _ | k
        · go_wp2_with fail
          go_ret
          rw [E1.out, E2.out, HX.out]
          exact ⟨rfl, HCP.out⟩
        · have e : ((k + 1 : Nat) : Int) - 1 = (k : Int) := by omega
          rw [e]
          obtain ⟨ad, u, rfl, _, hu, hcell⟩ := hrd.out.byte_at (k := k) (by omega)
          have hdr : L.drop k = u :: L.drop (k + 1) := drop_cons hu
          have hX2 : u.toNat + 256 * X = leVal (L.drop k) := by rw [hdr, leVal, HX.out]
          have hlt : u.toNat + 256 * X < 18446744073709551616 := by
            rw [hX2]
            have h1 := leVal_lt (L.drop k)
            have h2 : (256 : Nat) ^ (L.drop k).length ≤ 256 ^ 8 := Nat.pow_le_pow_right (by omega) (by rw [List.length_drop]; omega)
            have h3 : (256 : Nat) ^ 8 = 18446744073709551616 := by decide +kernel
            rw [h3] at h2
            exact Nat.lt_of_lt_of_le h1 h2
          have hst := Lib.hid (le_step X u.toNat hlt)
          have HX2 := Lib.hid hX2
          have hu256 : u.toNat < 256 := u.toNat_lt
          have hkL : k < L.length := by omega
          clear hdr hX2 hlt hu hk e
          go_wp2_with fail
          go_round
          case rel => exact ⟨k, _, by omega, by go_num, int_eq hst.out, HX2⟩
          case measure => first | (simp [intOf]; done) | (simp [intOf]; omega)
  · have hb0 : (s.e != 0) = true := by rw [bne_iff_ne]; exact h0
    have e1 : s.fixed n = 0 := by
      unfold Cs.fixed
      split
      · rfl
      · unfold Cs.take; rw [if_pos h0]; rfl
    have e2 : s.fixed' n = s := by
      unfold Cs.fixed'
      split
      · exact if_neg h0
      · exact Cs.moved_err h0 _ _
    have E1 := Lib.hid e1; have E2 := Lib.hid e2; have H0 := Lib.hid h0
    clear e1 e2 h0
    go_enter Try.func40, Try.ntmps40
    go_wp2_with fail
    go_ret
    unfold RCurP
    rw [E1.out, E2.out]
    exact ⟨rfl, HC.out, World.grownBy.refl _ _⟩
theorem Cs.int_moved {s : Cs} (h : s.e = 0) (most : Int) : s.int most = (limS s.rest most).1 ∧ s.int' most = ⟨s.b, s.at_ + (limS s.rest most).2.1, (limS s.rest most).2.2⟩ := by
  unfold Cs.int Cs.int'
  rw [if_neg (by simp [h])]
  refine ⟨rfl, ?_⟩
  by_cases he : (limS s.rest most).2.2 = 0
  · rw [he, Cs.moved_ok h, ← h]
  · have hz : (limS s.rest most).2.1 = 0 := by
      unfold limS at he ⊢
      split
      · rfl
      · split
        · rfl
        · rename_i h1 h2
          rw [if_neg h1, if_neg h2] at he
          exact absurd rfl he
    rw [Cs.moved_bad h _ he, hz]
    rfl
set_option maxRecDepth 100000 in
set_option maxHeartbeats 1000000 in
theorem rtextc_c (w : World) (g : Nat) (s : Cs) (hC : RCur w g s) (most : Int) (hmo : -9223372036854775808 ≤ most ∧ most ≤ 9223372036854775807) :
    Calls Try.prog 42 #[.pointer (some ⟨g, 0, none⟩), .int .i64 most] w fun e w' => e = .returned (.string ⟨(s.text most).toArray⟩) ∧ RCurP w g (s.text' most) w' := by
  obtain ⟨hc1, hc2, hf1, hf2⟩ := hC.cells
  have hbd := hC.bounds
  have HC := Lib.hid hC
  clear hC
  by_cases h0 : s.e = 0
  · have hm := Cs.int_moved h0 most
    have hlf := limS_facts s.rest most hmo.2
    obtain ⟨x, hx⟩ : ∃ x, x = (limS s.rest most).1 := ⟨_, rfl⟩
    obtain ⟨k, hk⟩ : ∃ k, k = (limS s.rest most).2.1 := ⟨_, rfl⟩
    obtain ⟨er, her⟩ : ∃ er, er = (limS s.rest most).2.2 := ⟨_, rfl⟩
    rw [← hx, ← hk, ← her] at hm hlf
    have HM := Lib.hid hm
    have hll : s.left = s.b.length - s.at_ := rfl
    by_cases he : er = 0
    · have hbe : (er != 0) = false := by simp [he]
      by_cases hsh : s.left - k < x
      · have ht : textS s.rest most = ([], 0, 1) := by unfold textS; rw [← her, ← hk, ← hx, if_neg (by simp [he]), if_pos (by rw [hbd.2.2.1]; exact hsh)]
        have e1 : s.text most = [] := by unfold Cs.text; rw [ht]; split <;> rfl
        have e2 : s.text' most = { s with e := 1 } := by unfold Cs.text'; rw [ht, Cs.moved_bad h0 _ (by simp)]
        have E1 := Lib.hid e1; have E2 := Lib.hid e2; have H0 := Lib.hid h0
        have hlt : (Cs.left ⟨s.b, s.at_ + k, er⟩ : Int) < x := by unfold Cs.left; show ((s.b.length - (s.at_ + k) : Nat) : Int) < x; omega
        have hback : ∀ W, RCur W g ⟨s.b, s.at_ + k, er⟩ → RCur ((W.setCell ⟨g, 1, none⟩ (.int .i64 s.at_)).setCell ⟨g, 2, none⟩ (.int .i64 1)) g { s with e := 1 } := by
          intro W hW
          obtain ⟨A, c, h1, h2, h3, h4⟩ := hW
          refine ⟨A, c, (h1.set_ 1 (.int .i64 s.at_)).set_ 2 (.int .i64 1), (h2.grown' (only_setCell (World.grownBy.refl W (some g)) (p := ⟨g, 1, none⟩) (.inl rfl) _) (Nat.le_refl _)).grown' (only_setCell (World.grownBy.refl _ (some g)) (p := ⟨g, 2, none⟩) (.inl rfl) _) (Nat.le_refl _), hbd.1, hbd.2.1⟩
        have HBK := Lib.hid hback
        clear ht e1 e2 h0 hx hk her hlf he hsh hll hbd hm hback
        go_enter Try.func42, Try.ntmps42
        go_wp2_with (first
          | (go_at_call 38; refine (rint_c _ g s HC.out most hmo).mono ?_; rintro e w1 ⟨rfl, hC1, hg1⟩; rw [HM.out.2] at hC1; rw [HM.out.1]; obtain ⟨hd1, hd2, hdf1, hdf2⟩ := hC1.cells; have HC1 := Lib.hid hC1; have HG1 := Lib.hid hg1; clear hC1 hg1)
          | (go_at_call 45; refine (rleft_c _ g _ HC1.out).mono ?_; rintro e w2 ⟨rfl, k2, rfl⟩))
        go_ret
        unfold RCurP
        rw [E1.out, E2.out]
        exact ⟨rfl, HBK.out _ HC1.out, only_setCell (only_setCell (only_drewN HG1.out k2) (p := ⟨g, 1, none⟩) (.inl rfl) _) (p := ⟨g, 2, none⟩) (.inl rfl) _⟩
      · have ht : textS s.rest most = ((s.rest.drop k).take x, k + x, 0) := by unfold textS; rw [← her, ← hk, ← hx, if_neg (by simp [he]), if_neg (by rw [hbd.2.2.1]; exact hsh)]
        have e1 : s.text most = (s.rest.drop k).take x := by unfold Cs.text; rw [ht, if_neg (by simp [h0])]
        have e2 : s.text' most = ⟨s.b, s.at_ + (k + x), er⟩ := by unfold Cs.text'; rw [ht, Cs.moved_ok h0, he, ← h0]
        have hk2 := hlf.2.1
        rw [hbd.2.2.1] at hk2
        have hlt : ¬ (Cs.left ⟨s.b, s.at_ + k, er⟩ : Int) < x := by unfold Cs.left; show ¬ ((s.b.length - (s.at_ + k) : Nat) : Int) < x; omega
        have ht2 : Cs.take ⟨s.b, s.at_ + k, er⟩ x = (s.rest.drop k).take x := by
          unfold Cs.take
          have hte : takeErr (Cs.rest ⟨s.b, s.at_ + k, er⟩) x = 0 := by
            unfold takeErr
            rw [if_neg (by omega), if_neg (by simp [Cs.rest]; omega)]
          rw [if_neg (by simp [he]), hte, if_neg (by simp), Int.toNat_natCast]
          simp [Cs.rest]
        have ht3 : Cs.take' ⟨s.b, s.at_ + k, er⟩ x = ⟨s.b, s.at_ + (k + x), er⟩ := by
          unfold Cs.take'
          have hte : takeErr (Cs.rest ⟨s.b, s.at_ + k, er⟩) x = 0 := by
            unfold takeErr
            rw [if_neg (by omega), if_neg (by simp [Cs.rest]; omega)]
          rw [hte, Cs.moved_ok (by exact he), Int.toNat_natCast]
          simp [Nat.add_assoc]
        obtain ⟨T, hT⟩ : ∃ T, T = (s.rest.drop k).take x := ⟨_, rfl⟩
        rw [← hT] at e1 ht2
        have E1 := Lib.hid e1; have E2 := Lib.hid e2; have H0 := Lib.hid h0; have T2 := Lib.hid ht2; have T3 := Lib.hid ht3
        clear hT
        clear ht e1 e2 h0 hx hk her hlf he hsh hll hbd hm ht2 ht3 hk2
        go_enter Try.func42, Try.ntmps42
        go_wp2_with (first
          | (go_at_call 38; refine (rint_c _ g s HC.out most hmo).mono ?_; rintro e w1 ⟨rfl, hC1, hg1⟩; rw [HM.out.2] at hC1; rw [HM.out.1]; obtain ⟨hd1, hd2, hdf1, hdf2⟩ := hC1.cells; have HC1 := Lib.hid hC1; have HG1 := Lib.hid hg1; clear hC1 hg1)
          | (go_at_call 45; refine (rleft_c _ g _ HC1.out).mono ?_; rintro e w2 ⟨rfl, k2, rfl⟩)
          | (go_at_call 41; refine (rtake_c _ g _ (RCur.drewN HC1.out k2) x).mono ?_; rintro e w3 ⟨⟨v3, rfl, ho3⟩, hC3, hg3⟩; rw [T3.out] at hC3; rw [T2.out] at ho3; have hcv := run_bstr Try.underlying27 Try.underlying5 Try.underlying9 (Rd.of_own ho3); obtain ⟨A3, c3, rfl, hcc3⟩ := (Rd.of_own ho3).form; have HC3 := Lib.hid hC3; have HG3 := Lib.hid hg3; clear ho3 hC3 hg3 hcc3))
        go_ret
        unfold RCurP
        rw [E1.out, E2.out]
        exact ⟨rfl, HC3.out, only_trans (only_drewN HG1.out k2) HG3.out⟩
    · have hbe : (er != 0) = true := by rw [bne_iff_ne]; exact he
      have ht : textS s.rest most = ([], 0, er) := by unfold textS; rw [← her, if_pos he]
      have e1 : s.text most = [] := by unfold Cs.text; rw [ht]; split <;> rfl
      have hk0 : k = 0 := by
        have := Cs.int_moved h0 most
        rw [hk]
        unfold limS
        split
        · rfl
        · split
          · rfl
          · rename_i h1 h2
            rw [her] at he
            unfold limS at he
            rw [if_neg h1, if_neg h2] at he
            exact absurd rfl he
      have e2 : s.text' most = ⟨s.b, s.at_ + k, er⟩ := by unfold Cs.text'; rw [ht, Cs.moved_bad h0 _ he, hk0]; rfl
      have E1 := Lib.hid e1; have E2 := Lib.hid e2; have H0 := Lib.hid h0
      clear ht e1 e2 h0 hx hk her hlf he hll hbd hm hk0
      go_enter Try.func42, Try.ntmps42
      go_wp2_with (first
        | (go_at_call 38; refine (rint_c _ g s HC.out most hmo).mono ?_; rintro e w1 ⟨rfl, hC1, hg1⟩; rw [HM.out.2] at hC1; rw [HM.out.1]; obtain ⟨hd1, hd2, hdf1, hdf2⟩ := hC1.cells; have HC1 := Lib.hid hC1; have HG1 := Lib.hid hg1; clear hC1 hg1))
      go_ret
      unfold RCurP
      rw [E1.out, E2.out]
      exact ⟨rfl, HC1.out, HG1.out⟩
  · have hb0 : (s.e != 0) = true := by rw [bne_iff_ne]; exact h0
    have en : s.int most = 0 := by unfold Cs.int; rw [if_pos h0]
    have en' : s.int' most = s := by unfold Cs.int'; rw [Cs.moved_err h0]
    have e1 : s.text most = [] := by unfold Cs.text; rw [if_pos h0]
    have e2 : s.text' most = s := by unfold Cs.text'; rw [Cs.moved_err h0]
    have EN := Lib.hid en; have EN' := Lib.hid en'; have H0 := Lib.hid h0; have E1 := Lib.hid e1; have E2 := Lib.hid e2
    clear h0 hbd en en' e1 e2
    go_enter Try.func42, Try.ntmps42
    go_wp2_with (go_at_call 38; refine (rint_c _ g s HC.out most hmo).mono ?_; rintro e w1 ⟨rfl, hC1, hg1⟩; rw [EN'.out] at hC1; rw [EN.out]; obtain ⟨hd1, hd2, hdf1, hdf2⟩ := hC1.cells; have HC1 := Lib.hid hC1; have HG1 := Lib.hid hg1; clear hC1 hg1)
    go_ret
    unfold RCurP
    rw [E1.out, E2.out]
    exact ⟨rfl, HC1.out, HG1.out⟩
end Go.Proofs.Ytejibnkgenonfaa

/-
  What the reference's cursor's Take, Byte, Fixed and Text compute: the same plain functions as the program's. Conditions: the cursor's bytes are shorter than 2^40.
-/
import Derived.Test.YtejibnkgenonfaaRCur2
import Derived.Deep.RegionHeld3
namespace Go.Proofs.Ytejibnkgenonfaa
open Go.RowKit
set_option linter.unusedVariables false
theorem RCur.only_g {w w' : World} {g h : Nat} {s : Cs} (hC : RCur w g s) (hg : w.grownBy w' (some h)) (hne : g < h) : RCur w' g s := RCur.other hC hg hne
/-- the run of a copy onto an empty slice -/
theorem copy_run {B : Nat} {v : Value} {n : Nat} {l : List UInt8} (w : World) (h : Rd w B 1 v n (bv l)) (hn : n ≤ 1099511627776) :
    ∃ v' w', (Builtin.append_ #[27, 27] 27 #[.slice (some ⟨w.heap.size, 0, none⟩) 0 0, v]).run Try.prog (w.alloc (.cells #[] 5)) = .ok v' w' ∧ w'.ownsRow w.heap.size 5 1 v' n (bv l) ∧ Below w.heap.size w w' := by
  obtain ⟨H1, H2, H3, H4⟩ := clone_pre w h
  obtain ⟨v', w', h1, h2, h3⟩ := run_app sl_u8 27 _ H1.out H2.out (bv_one _) (by omega) (by omega) H4.out
  rw [Nat.zero_add, List.nil_append] at h2
  exact ⟨v', w', h1, h2, H3.out.grown h3 H4.out fun k hk => (H1.out.lt k hk).1⟩
set_option maxRecDepth 100000 in
set_option maxHeartbeats 1000000 in
theorem rtake_c (w : World) (g : Nat) (s : Cs) (hC : RCur w g s) (n : Int) :
    Calls Try.prog 41 #[.pointer (some ⟨g, 0, none⟩), .int .i64 n] w fun e w' => TakeR w s n e w' ∧ RCurP w g (s.take' n) w' := by
  obtain ⟨A, c, hc0, hcap, hrd⟩ := hC.cell0
  obtain ⟨hc1, hc2, hf1, hf2⟩ := hC.cells
  have hbd := hC.bounds
  have HC := Lib.hid hC; have HR := Lib.hid hrd
  have hg := hC.lt
  clear hC hrd
  by_cases h0 : s.e = 0
  · have hb0 : (s.e != 0) = false := by simp [h0]
    by_cases c1 : n < 0
    · have et : takeErr s.rest n = 13 := if_pos c1
      have en : s.take n = [] := by unfold Cs.take; rw [if_neg (by simp [h0]), if_pos (by rw [et]; simp)]
      have en' : s.take' n = { s with e := 13 } := by unfold Cs.take'; rw [et, Cs.moved_bad h0 _ (by simp)]
      have EN := Lib.hid en; have EN' := Lib.hid en'; have H0 := Lib.hid h0
      clear et en en' h0 hbd
      go_enter Try.func41, Try.ntmps41
      go_wp2_with fail
      go_ret
      unfold RCurP TakeR
      rw [EN.out, EN'.out]
      exact ⟨⟨_, rfl, World.ownsRow_nil _ _ _ _⟩, HC.out.setErr 13, only_setCell (World.grownBy.refl _ _) (p := ⟨g, 2, none⟩) (.inl rfl) _⟩
    · by_cases c2 : (s.left : Int) < n
      · have et : takeErr s.rest n = 1 := by unfold takeErr; rw [if_neg c1, if_pos (by rw [hbd.2.2.1]; exact c2)]
        have en : s.take n = [] := by unfold Cs.take; rw [if_neg (by simp [h0]), if_pos (by rw [et]; simp)]
        have en' : s.take' n = { s with e := 1 } := by unfold Cs.take'; rw [et, Cs.moved_bad h0 _ (by simp)]
        have EN := Lib.hid en; have EN' := Lib.hid en'; have H0 := Lib.hid h0
        clear et en en' h0 hbd
        go_enter Try.func41, Try.ntmps41
        go_wp2_with (go_at_call 45; refine (rleft_c _ g s HC.out).mono ?_; rintro e w1 ⟨rfl, k1, rfl⟩)
        go_ret
        unfold RCurP TakeR
        rw [EN.out, EN'.out]
        exact ⟨⟨_, rfl, World.ownsRow_nil _ _ _ _⟩, HC.out.setErr 1, only_setCell (only_drewN (World.grownBy.refl _ _) k1) (p := ⟨g, 2, none⟩) (.inl rfl) _⟩
      · obtain ⟨m, rfl⟩ := Int.eq_ofNat_of_zero_le (show 0 ≤ n by omega)
        have et : takeErr s.rest m = 0 := by unfold takeErr; rw [if_neg c1, if_neg (by rw [hbd.2.2.1]; exact c2)]
        have en : s.take m = s.rest.take m := by unfold Cs.take; rw [if_neg (by simp [h0]), if_neg (by simp [et]), Int.toNat_natCast]
        have en' : s.take' m = { s with at_ := s.at_ + m } := by unfold Cs.take'; rw [et, Cs.moved_ok h0, Int.toNat_natCast]
        have hl : s.left = s.b.length - s.at_ := rfl
        have hml : s.at_ + m ≤ s.b.length := by omega
        have hcut := (HR.out.head_ hml).cut (k := s.at_) (by omega)
        rw [Nat.mul_one, Nat.mul_one, Nat.add_sub_cancel_left, bv_take, bv_drop, List.drop_take, Nat.add_sub_cancel_left] at hcut
        have hcut2 : Rd w g 1 (.slice (if c = s.at_ then A else A.map (·.add s.at_)) m (c - s.at_)) m (bv (s.take m)) := by rw [en]; exact hcut
        have h5 : (s.at_ : Int) + m ≤ s.b.length := by omega
        have h6 : (s.b.length : Int) ≤ c := by omega
        have h7 : (0 : Int) ≤ s.at_ := by omega
        have h8 : (s.at_ : Int) ≤ (s.at_ : Int) + m := by omega
        have hmm : m ≤ 1099511627776 := by omega
        have hbl : s.b.length ≤ 1099511627776 := hbd.2.1
        have HCU := Lib.hid hcut2; have EN' := Lib.hid en'; have H0 := Lib.hid h0; have HML := Lib.hid hml; have EN := Lib.hid en
        have HLL := Lib.hid hl; have HB := Lib.hid hbd
        clear et en en' h0 hbd hcut hcut2 hl
        go_enter Try.func41, Try.ntmps41
        go_wp2_with (go_at_call 45; refine (rleft_c _ g s HC.out).mono ?_; rintro e w1 ⟨rfl, k1, rfl⟩)
        have hne := World.new_ne w ⟨g, 0, none⟩ hc0
        have hne1 := World.new_ne w ⟨g, 1, none⟩ hc1
        have hwr : IntKind.i64.wrap ((s.at_ : Int) + (m : Int)) = (s.at_ : Int) + (m : Int) := wrap_i64 _ (by omega) (by omega)
        have h9 : (s.at_ : Int) + (m : Int) ≤ (c : Int) := by omega
        have h10 : ((s.at_ : Int) + (m : Int)).toNat = s.at_ + m := by omega
        have h11 : (0 : Int) ≤ (s.at_ : Int) + (m : Int) := by omega
        by_cases hck : c = s.at_
        · subst hck
          have hcu := HCU.out
          rw [if_pos rfl] at hcu
          rw [Nat.sub_self] at hcu
          have HP := clone_pre w hcu
          clear hcu
          go_region_held3 (fun w' => w'.cell? ⟨g, 0, none⟩ = some (.slice A s.b.length s.at_) ∧ w'.cell? ⟨g, 1, none⟩ = some (.int .i64 s.at_)) (first | go_keep | (go_split_ands; refine ⟨?_, ?_⟩ <;> assumption))
            ((refine step_app sl_u8 rfl (.tmp 23) (.tmp 38) rfl rfl HP.1.out rfl HP.2.1.out (bv_one _) HP.2.2.2.out (by omega) (by omega) ?_; intro v2 w2 hown2 hg2; have hb2 : Below w.heap.size w w2 := Below.grown (w := w.alloc (.cells #[] 5)) (row := some w.heap.size) HP.2.2.1.out ⟨hg2.os, hg2.tape, hg2.output, hg2.size, hg2.block⟩ HP.2.2.2.out (fun k hk => by injection hk with hk; omega); have hq0 := (hb2.cell (p := ⟨g, 0, none⟩) hg).trans hc0; have hq1 := (hb2.cell (p := ⟨g, 1, none⟩) hg).trans hc1; have hqf := (hb2.frozen (p := ⟨g, 1, none⟩) hg).trans hf1; have HO := Lib.hid hown2; have HB2 := Lib.hid hb2; clear hown2 hg2 hb2))
          go_wp2
          go_ret
          have ho := HO.out
          rw [Nat.zero_add, List.nil_append] at ho
          have hC2 := HC.out.below HB2.out hg
          have hlen : m = (s.take m).length := by rw [EN.out, List.length_take]; have := HB.out.2.2.1; have := HLL.out; have := HML.out; omega
          refine ⟨⟨v2, rfl, own_to (own_setCell ho hg _) hlen rfl⟩, ?_⟩
          unfold RCurP
          rw [EN'.out]
          exact ⟨hC2.setAt m HML.out, only_setCell (only_of_below' HB2.out (some g)) (p := ⟨g, 1, none⟩) (.inl rfl) _⟩
        · have hcu := HCU.out
          rw [if_neg hck] at hcu
          have HP := clone_pre w hcu
          clear hcu
          go_region_held3 (fun w' => w'.cell? ⟨g, 0, none⟩ = some (.slice A s.b.length c) ∧ w'.cell? ⟨g, 1, none⟩ = some (.int .i64 s.at_)) (first | go_keep | (go_split_ands; refine ⟨?_, ?_⟩ <;> assumption))
            ((refine step_app sl_u8 rfl (.tmp 23) (.tmp 38) rfl rfl HP.1.out rfl HP.2.1.out (bv_one _) HP.2.2.2.out (by omega) (by omega) ?_; intro v2 w2 hown2 hg2; have hb2 : Below w.heap.size w w2 := Below.grown (w := w.alloc (.cells #[] 5)) (row := some w.heap.size) HP.2.2.1.out ⟨hg2.os, hg2.tape, hg2.output, hg2.size, hg2.block⟩ HP.2.2.2.out (fun k hk => by injection hk with hk; omega); have hq0 := (hb2.cell (p := ⟨g, 0, none⟩) hg).trans hc0; have hq1 := (hb2.cell (p := ⟨g, 1, none⟩) hg).trans hc1; have hqf := (hb2.frozen (p := ⟨g, 1, none⟩) hg).trans hf1; have HO := Lib.hid hown2; have HB2 := Lib.hid hb2; clear hown2 hg2 hb2))
          go_wp2
          go_ret
          have ho := HO.out
          rw [Nat.zero_add, List.nil_append] at ho
          have hC2 := HC.out.below HB2.out hg
          have hlen : m = (s.take m).length := by rw [EN.out, List.length_take]; have := HB.out.2.2.1; have := HLL.out; have := HML.out; omega
          refine ⟨⟨v2, rfl, own_to (own_setCell ho hg _) hlen rfl⟩, ?_⟩
          unfold RCurP
          rw [EN'.out]
          exact ⟨hC2.setAt m HML.out, only_setCell (only_of_below' HB2.out (some g)) (p := ⟨g, 1, none⟩) (.inl rfl) _⟩
  · have hb0 : (s.e != 0) = true := by rw [bne_iff_ne]; exact h0
    have en : s.take n = [] := by unfold Cs.take; rw [if_pos h0]
    have en' : s.take' n = s := by unfold Cs.take'; rw [Cs.moved_err h0]
    have EN := Lib.hid en; have EN' := Lib.hid en'; have H0 := Lib.hid h0
    clear h0 hbd en en'
    go_enter Try.func41, Try.ntmps41
    go_wp2_with fail
    go_ret
    unfold RCurP TakeR
    rw [EN.out, EN'.out]
    exact ⟨⟨_, rfl, World.ownsRow_nil _ _ _ _⟩, HC.out, World.grownBy.refl _ _⟩
end Go.Proofs.Ytejibnkgenonfaa

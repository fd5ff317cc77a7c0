/-
  What nums.New, nums.limited and a cursor's readings of numbers compute. Conditions: the cursor's bytes are shorter than 2^40.
-/
import Derived.Test.YtejibnkgenonfaaCursor
namespace Go.Proofs.Ytejibnkgenonfaa
open Go.RowKit
set_option linter.unusedVariables false
set_option maxHeartbeats 1000000 in
/-- slices.Clone of bytes -/
theorem clone_c {B : Nat} {v : Value} {n : Nat} {l : List UInt8} (w : World) (h : Rd w B 1 v n (bv l)) (hn : n ≤ 1099511627776) :
    Calls Try.prog 47 #[v] w fun e w' => ∃ v', e = .returned v' ∧ w'.ownsRow w.heap.size 5 1 v' n (bv l) ∧ Below w.heap.size w w' := by
  have h' := h
  obtain ⟨A, c, rfl, hc, hl, hr⟩ := h
  have hnil := fun w => Lib.run_eql_slice_nil (P := Try.prog) w 27 5 A n c 0 0 Try.underlying27
  rcases A with _ | ad
  · have h0 : n = 0 := by
      rcases Nat.eq_zero_or_pos n with h0 | h0
      · exact h0
      · obtain ⟨ad, h, _⟩ := hr h0; cases h
    subst h0
    have hl0 : l = [] := List.eq_nil_of_length_eq_zero (by simpa using hl)
    subst hl0
    clear hr hl h'
    go_enter Try.func47, Try.ntmps47
    go_wp2
    go_ret
    exact ⟨_, rfl, World.ownsRow_nil _ _ _ _, Below.refl _ _⟩
  · have hcap : n ≤ c := hc
    have hown : (w.alloc (.cells #[] 5)).ownsRow w.heap.size 5 1 (.slice (some ⟨w.heap.size, 0, none⟩) 0 0) 0 [] := ⟨rfl, .inr ⟨_, 0, #[], rfl, Nat.le_refl _, heap_alloc_new w _, Nat.le_refl _, by unfold maxLen; omega, rfl, rfl⟩⟩
    have hr' : Rd (w.alloc (.cells #[] 5)) B 1 (.slice (some ad) n c) n (bv l) := by
      obtain ⟨A, c', hv, h2, h3, h4⟩ := h'
      refine ⟨A, c', hv, h2, h3, fun hn => ?_⟩
      obtain ⟨ad', e, hb, hcell⟩ := h4 hn
      refine ⟨ad', e, hb, fun j u hu => ?_⟩
      have := hcell j u hu
      rw [World.cell?_alloc_lt w _ _ (World.block_lt_of_cell? w _ this)]
      exact this
    have H1 := Lib.hid hown; have H2 := Lib.hid hr'
    clear hr hl h' hown hr'
    go_enter Try.func47, Try.ntmps47
    have hb0 : Below w.heap.size w (w.alloc (.cells #[] 5)) := (Below.refl _ _).alloc (Nat.le_refl _) _
    have hs0 : w.heap.size ≤ (w.alloc (.cells #[] 5)).heap.size := hb0.size
    have H3 := Lib.hid hb0; have H4 := Lib.hid hs0
    clear hb0 hs0
    go_wp2_with (at_builtin; refine wp_app sl_u8 rfl (.tmp 5) (.tmp 6) rfl rfl H1.out rfl H2.out (bv_one _) H3.out (Nat.le_refl _) H4.out (by omega) (by omega) ?_; intro v2 w2 hown2 hb2 hg2)
    go_ret
    have e0 : 0 + n = n := by omega
    rw [e0, List.nil_append] at hown2
    exact ⟨v2, rfl, hown2, hb2⟩
def NewP (w : World) (l : List UInt8) (e : Ending) (w' : World) : Prop := ∃ g, e = .returned (.pointer (some ⟨g, 0, none⟩)) ∧ Cur w' g ⟨l, 0, 0⟩ ∧ w.heap.size ≤ g
theorem new_c {B : Nat} {v : Value} {n : Nat} {l : List UInt8} (w : World) (h : Rd w B 1 v n (bv l)) (hn : n ≤ 1099511627776) :
    Calls Try.prog 24 #[v] w fun e w' => NewP w l e w' ∧ Below w.heap.size w w' := by
  have hln := h.len_eq
  have HL := Lib.hid hln; clear hln
  go_enter Try.func24, Try.ntmps24
  go_wp2_with (go_at_call 47; refine (clone_c _ h hn).mono ?_; rintro e w1 ⟨v1, rfl, hown, hb⟩; obtain ⟨A1, c1, rfl, hc1⟩ := (Rd.of_own hown).form)
  go_ret
  have hrd := (Rd.of_own hown)
  have hkeep : Rd (w1.alloc (.cells #[.slice A1 n c1, .int .i64 0, .int .i64 0] 66)) w1.heap.size 1 (.slice A1 n c1) n (bv l) := hrd.keep fun p hp => World.cell?_alloc_lt w1 _ p hp
  refine ⟨⟨w1.heap.size, rfl, ⟨A1, c1, ?_, ?_, by simp, ?_⟩, hb.size⟩, hb.alloc hb.size _⟩
  · have := Blk.new w1 66 #[.slice A1 n c1, .int .i64 0, .int .i64 0]
    show Blk _ _ _ #[.slice A1 l.length c1, .int .i64 0, .int .i64 0]
    rw [HL.out]
    exact this
  · show Rd _ _ 1 (.slice A1 l.length c1) l.length (bv l)
    rw [HL.out]
    exact hkeep
  · show l.length ≤ _
    rw [HL.out]; exact hn
theorem lim_conv (m : Nat) (h : m ≤ 9223372036854775807) : wrap64 (m : Int) = (m : Int) := by unfold wrap64; omega
set_option maxRecDepth 100000 in
set_option maxHeartbeats 800000 in
theorem limited_c {B : Nat} {A : Option Addr} {n c : Nat} {l : List UInt8} (w : World) (h : Rd w B 1 (.slice A n c) n (bv l)) (hn : n ≤ 1099511627776) (most : Int) (hm : -9223372036854775808 ≤ most ∧ most ≤ 9223372036854775807) :
    Calls Try.prog 52 #[.slice A n c, .int .i64 most] w fun e w' => e = .returned (.tuple #[.int .i64 ((limS l most).1 : Nat), .int .i64 ((limS l most).2.1 : Nat), .int .i64 (limS l most).2.2]) ∧ w = w' := by
  have hf := scanS_facts l
  obtain ⟨x, hx⟩ : ∃ x, x = (scanS l).1 := ⟨_, rfl⟩
  obtain ⟨k, hk⟩ : ∃ k, k = (scanS l).2.1 := ⟨_, rfl⟩
  obtain ⟨er, her⟩ : ∃ er, er = (scanS l).2.2 := ⟨_, rfl⟩
  have hs := scan_c w h hn
  rw [← hx, ← hk, ← her] at hs
  rw [← hx, ← hk, ← her] at hf
  have HS := Lib.hid hs; have HX := Lib.hid hx; have HK := Lib.hid hk; have HE := Lib.hid her; have HF := Lib.hid hf
  clear hs hx hk her h hf
  by_cases h0 : er = 0
  · by_cases h1 : most < 0
    · have e : limS l most = (0, 0, 6) := by unfold limS; rw [← HE.out, if_neg (by simp [h0]), if_pos (.inl h1)]
      have h0' : (er != 0) = false := by simp [h0]
      have HR := Lib.hid e; clear e
      have H0 := Lib.hid h0; clear h0
      go_enter Try.func52, Try.ntmps52
      go_wp2_with (go_at_call 50; refine HS.out.mono ?_; rintro e w1 ⟨rfl, rfl⟩)
      go_ret3
      rw [HR.out]; exact ⟨rfl, rfl⟩
    · obtain ⟨m, rfl⟩ := Int.eq_ofNat_of_zero_le (show 0 ≤ most by omega)
      have h0' : (er != 0) = false := by simp [h0]
      have hw := wrap_u64 m (by omega)
      have h2 : (0 : Int) ≤ (m : Int) := by omega
      have HM := Lib.hid hm; clear hm
      have H0 := Lib.hid h0; clear h0
      by_cases h3 : m < x
      · have e : limS l m = (0, 0, 6) := by unfold limS; rw [← HE.out, ← HX.out, if_neg (by simp [H0.out]), if_pos (.inr (by omega))]
        have HR := Lib.hid e; clear e
        go_enter Try.func52, Try.ntmps52
        go_wp2_with (go_at_call 50; refine HS.out.mono ?_; rintro e w1 ⟨rfl, rfl⟩)
        go_ret3
        rw [HR.out]; exact ⟨rfl, rfl⟩
      · have e : limS l m = (x, k, 0) := by unfold limS; rw [← HE.out, ← HX.out, ← HK.out, if_neg (by simp [H0.out]), if_neg (by omega)]
        have HR := Lib.hid e; clear e
        have hc := Lib.hid (lim_conv x (by have := HM.out; omega))
        go_enter Try.func52, Try.ntmps52
        go_wp2_with (go_at_call 50; refine HS.out.mono ?_; rintro e w1 ⟨rfl, rfl⟩)
        go_ret3
        rw [HR.out]; exact ⟨ret3 (int_eq hc.out) rfl rfl, rfl⟩
  · have e : limS l most = (0, 0, er) := by unfold limS; rw [← HE.out, if_pos h0]
    have h0' : (er != 0) = true := by rw [bne_iff_ne]; exact h0
    have HR := Lib.hid e; clear e
    go_enter Try.func52, Try.ntmps52
    go_wp2_with (go_at_call 50; refine HS.out.mono ?_; rintro e w1 ⟨rfl, rfl⟩)
    go_ret3
    rw [HR.out]; exact ⟨rfl, rfl⟩
end Go.Proofs.Ytejibnkgenonfaa

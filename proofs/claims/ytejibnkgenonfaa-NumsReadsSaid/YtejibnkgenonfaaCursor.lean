/-
  What nums.New and the small methods of a cursor compute. Conditions: the cursor's bytes are shorter than 2^40.
-/
import Derived.Test.YtejibnkgenonfaaScan
import Derived.Deep.QuietTactic
import Derived.BigQuiet
namespace Go.Proofs.Ytejibnkgenonfaa
open Go.RowKit
set_option linter.unusedVariables false
/-- block g is a cursor in state s -/
def Cur (w : World) (g : Nat) (s : Cs) : Prop :=
  ∃ A c, Blk w g 66 #[.slice A s.b.length c, .int .i64 s.at_, .int .i64 s.e] ∧ Rd w g 1 (.slice A s.b.length c) s.b.length (bv s.b) ∧ s.at_ ≤ s.b.length ∧ s.b.length ≤ 1099511627776
theorem Cur.lt {w : World} {g : Nat} {s : Cs} (h : Cur w g s) : g < w.heap.size := by obtain ⟨_, _, h, _⟩ := h; exact h.lt
theorem Cur.below {w w' : World} {g B : Nat} {s : Cs} (h : Cur w g s) (hb : Below B w w') (hg : g < B) : Cur w' g s := by
  obtain ⟨A, c, h1, h2, h3, h4⟩ := h
  exact ⟨A, c, h1.below hb hg, h2.keep fun p hp => hb.cell (by omega), h3, h4⟩
theorem Cur.other {w w' : World} {g g' : Nat} {s : Cs} (h : Cur w g s) (hg : w.grownBy w' (some g')) (hne : g < g') : Cur w' g s := by
  obtain ⟨A, c, h1, h2, h3, h4⟩ := h
  exact ⟨A, c, h1.grown hg (by intro e; injection e with e; omega), h2.grown' hg (by omega), h3, h4⟩
def SameHeap (w w' : World) : Prop := ∃ k, w.drewN k = w'
/-- what lies ahead, as a slice value -/
def RestP (w : World) (g : Nat) (s : Cs) (e : Ending) (w' : World) : Prop :=
  ∃ A c, e = .returned (.slice A s.left c) ∧ Rd w g 1 (.slice A s.left c) s.left (bv s.rest) ∧ SameHeap w w'
set_option maxRecDepth 100000 in
theorem rest_c (w : World) (g : Nat) (s : Cs) (hC : Cur w g s) :
    Calls Try.prog 55 #[.pointer (some ⟨g, 0, none⟩)] w fun e w' => RestP w g s e w' := by
  obtain ⟨A, c, h1, h2, h3, h4⟩ := hC
  have hc := (Rd.cap_ge h2).2
  have h0 := h1.cell 0
  have h5 := h1.cell 1
  simp at h0 h5
  have hcut := h2.cut h3
  rw [Nat.mul_one, bv_drop] at hcut
  have HC := Lib.hid hcut
  clear hcut h1 h2
  have h6 : (0 : Int) ≤ s.at_ := by omega
  have h7 : (s.at_ : Int) ≤ s.b.length := by omega
  have h8 : (s.b.length : Int) ≤ c := by omega
  by_cases hck : c = s.at_
  · subst hck
    go_enter Try.func55, Try.ntmps55
    go_wp2_with fail
    go_quiet (fail)
    go_wp2
    go_ret
    have hl0 : s.left = 0 := by unfold Cs.left; omega
    have := HC.out
    rw [show s.b.length - s.at_ = 0 by omega] at this
    unfold RestP
    rw [hl0]
    refine ⟨_, _, rfl, ?_, _, rfl⟩
    simpa [Cs.rest] using this
  · go_enter Try.func55, Try.ntmps55
    go_wp2_with fail
    go_quiet (fail)
    go_wp2
    go_ret
    have := HC.out
    rw [if_neg hck] at this
    refine ⟨_, _, rfl, this, _, rfl⟩
theorem err_c (w : World) (g : Nat) (s : Cs) (hC : Cur w g s) :
    Calls Try.prog 33 #[.pointer (some ⟨g, 0, none⟩)] w fun e w' => e = .returned (.int .i64 s.e) ∧ w = w' := by
  obtain ⟨A, c, h1, _⟩ := hC
  have h := h1.cell 2
  simp at h
  go_enter Try.func33, Try.ntmps33
  go_wp2
  go_ret
  exact ⟨rfl, rfl⟩
theorem at_c (w : World) (g : Nat) (s : Cs) (hC : Cur w g s) :
    Calls Try.prog 34 #[.pointer (some ⟨g, 0, none⟩)] w fun e w' => e = .returned (.int .i64 s.at_) ∧ w = w' := by
  obtain ⟨A, c, h1, _⟩ := hC
  have h := h1.cell 1
  simp at h
  go_enter Try.func34, Try.ntmps34
  go_wp2
  go_ret
  exact ⟨rfl, rfl⟩
theorem left_c (w : World) (g : Nat) (s : Cs) (hC : Cur w g s) :
    Calls Try.prog 35 #[.pointer (some ⟨g, 0, none⟩)] w fun e w' => e = .returned (.int .i64 s.left) ∧ SameHeap w w' := by
  go_enter Try.func35, Try.ntmps35
  go_wp2_with (go_at_call 55; refine (rest_c _ g s hC).mono ?_; rintro e w1 ⟨A, c, rfl, hr, hs⟩)
  go_ret
  exact ⟨rfl, hs⟩
def CurP (w : World) (g : Nat) (s' : Cs) (w' : World) : Prop := Cur w' g s' ∧ w.grownBy w' (some g)
theorem fail_c (w : World) (g : Nat) (s : Cs) (hC : Cur w g s) (er : Int) :
    Calls Try.prog 27 #[.pointer (some ⟨g, 0, none⟩), .int .i64 er] w fun e w' => e = .returned (.tuple #[]) ∧ CurP w g (s.failed er) w' := by
  have hC' := hC
  obtain ⟨A, c, h1, h2, h3, h4⟩ := hC
  have h := h1.cell 2
  have hf := h1.frozen 2
  simp at h
  by_cases h0 : s.e = 0
  · have hE : s.failed er = { s with e := er } := if_pos h0
    have HE := Lib.hid hE; clear hE
    rw [h0] at h
    have hset := h1.set_ 2 (.int .i64 er)
    have HS := Lib.hid hset; have HH := Lib.hid h2; have H1 := Lib.hid h1; have H0 := Lib.hid h0
    clear hset h2 h1 h0 hC'
    go_enter Try.func27, Try.ntmps27
    go_wp2
    go_end0
    refine ⟨rfl, ?_⟩
    unfold CurP
    rw [HE.out]
    have hon := only_setCell (World.grownBy.refl w (some g)) (p := ⟨g, 2, none⟩) (.inl rfl) (.int .i64 er)
    exact ⟨⟨A, c, HS.out, HH.out.grown' hon (Nat.le_refl _), h3, h4⟩, hon⟩
  · have hE : s.failed er = s := if_neg h0
    have hb : (s.e == 0) = false := by rw [beq_eq_false_iff_ne]; exact h0
    have HE := Lib.hid hE; clear hE
    clear h2 h1 h0
    go_enter Try.func27, Try.ntmps27
    go_wp2
    go_end0
    refine ⟨rfl, ?_⟩
    unfold CurP
    rw [HE.out]
    exact ⟨hC', World.grownBy.refl _ _⟩
theorem SameHeap.cur {w w' : World} {g : Nat} {s : Cs} (h : SameHeap w w') (hC : Cur w g s) : Cur w' g s := by
  obtain ⟨k, rfl⟩ := h; exact hC
theorem SameHeap.only {w w' : World} {row : Option Nat} (h : SameHeap w w') : w.grownBy w' row := by
  obtain ⟨k, rfl⟩ := h; exact only_drewN (World.grownBy.refl _ _) k
theorem SameHeap.below {w w' : World} (h : SameHeap w w') (B : Nat) : Below B w w' := by
  obtain ⟨k, rfl⟩ := h; exact below_drewN (Below.refl _ _) k
theorem end_c (w : World) (g : Nat) (s : Cs) (hC : Cur w g s) :
    Calls Try.prog 26 #[.pointer (some ⟨g, 0, none⟩)] w fun e w' => e = .returned (.int .i64 s.end'.e) ∧ CurP w g s.end' w' := by
  by_cases h : 0 < s.left
  · have hE : s.end' = s.failed 2 := if_pos h
    have HE := Lib.hid hE; clear hE
    go_enter Try.func26, Try.ntmps26
    go_wp2_with (first
      | (go_at_call 35; refine (left_c _ g s hC).mono ?_; rintro e w1 ⟨rfl, hs⟩)
      | (go_at_call 27; refine (fail_c _ g s (hs.cur hC) 2).mono ?_; rintro e w2 ⟨rfl, hC2, hg2⟩)
      | (go_at_call 33; refine (err_c _ g _ hC2).mono ?_; rintro e w3 ⟨rfl, rfl⟩))
    go_ret
    unfold CurP
    rw [HE.out]
    exact ⟨rfl, hC2, only_trans hs.only hg2⟩
  · have hE : s.end' = s := if_neg h
    have HE := Lib.hid hE; clear hE
    go_enter Try.func26, Try.ntmps26
    go_wp2_with (first
      | (go_at_call 35; refine (left_c _ g s hC).mono ?_; rintro e w1 ⟨rfl, hs⟩)
      | (go_at_call 33; refine (err_c _ g _ (hs.cur hC)).mono ?_; rintro e w3 ⟨rfl, rfl⟩))
    go_ret
    unfold CurP
    rw [HE.out]
    exact ⟨rfl, hs.cur hC, hs.only⟩
end Go.Proofs.Ytejibnkgenonfaa

/-
  What the small methods of the reference's cursor compute: the same plain functions as the program's. Conditions: the cursor's bytes are shorter than 2^40.
-/
import Derived.Test.YtejibnkgenonfaaCursor5
import Derived.Test.YtejibnkgenonfaaZig
namespace Go.Proofs.Ytejibnkgenonfaa
open Go.RowKit
set_option linter.unusedVariables false
/-- block g is a cursor in state s -/
def RCur (w : World) (g : Nat) (s : Cs) : Prop :=
  ∃ A c, Blk w g 57 #[.slice A s.b.length c, .int .i64 s.at_, .int .i64 s.e] ∧ Rd w g 1 (.slice A s.b.length c) s.b.length (bv s.b) ∧ s.at_ ≤ s.b.length ∧ s.b.length ≤ 1099511627776
theorem RCur.lt {w : World} {g : Nat} {s : Cs} (h : RCur w g s) : g < w.heap.size := by obtain ⟨_, _, h, _⟩ := h; exact h.lt
theorem RCur.below {w w' : World} {g B : Nat} {s : Cs} (h : RCur w g s) (hb : Below B w w') (hg : g < B) : RCur w' g s := by
  obtain ⟨A, c, h1, h2, h3, h4⟩ := h
  exact ⟨A, c, h1.below hb hg, h2.keep fun p hp => hb.cell (by omega), h3, h4⟩
theorem RCur.other {w w' : World} {g g' : Nat} {s : Cs} (h : RCur w g s) (hg : w.grownBy w' (some g')) (hne : g < g') : RCur w' g s := by
  obtain ⟨A, c, h1, h2, h3, h4⟩ := h
  exact ⟨A, c, h1.grown hg (by intro e; injection e with e; omega), h2.grown' hg (by omega), h3, h4⟩
def RCurP (w : World) (g : Nat) (s' : Cs) (w' : World) : Prop := RCur w' g s' ∧ w.grownBy w' (some g)
theorem SameHeap.rcur {w w' : World} {g : Nat} {s : Cs} (h : SameHeap w w') (hC : RCur w g s) : RCur w' g s := by
  obtain ⟨k, rfl⟩ := h; exact hC
theorem RCur.alloc {w : World} {g : Nat} {s : Cs} (h : RCur w g s) (o : Obj) : RCur (w.alloc o) g s := h.below ((Below.refl w.heap.size w).alloc (Nat.le_refl _) o) h.lt
theorem RCur.drewN {w : World} {g : Nat} {s : Cs} (h : RCur w g s) (k : Nat) : RCur (w.drewN k) g s := h
theorem RCur.setAt {w : World} {g : Nat} {s : Cs} (h : RCur w g s) (n : Nat) (hn : s.at_ + n ≤ s.b.length) : RCur (w.setCell ⟨g, 1, none⟩ (.int .i64 ((s.at_ : Int) + n))) g { s with at_ := s.at_ + n } := by
  obtain ⟨A, c, h1, h2, h3, h4⟩ := h
  refine ⟨A, c, ?_, h2.grown' (only_setCell (World.grownBy.refl w (some g)) (p := ⟨g, 1, none⟩) (.inl rfl) _) (Nat.le_refl _), hn, h4⟩
  have := h1.set_ 1 (.int .i64 ((s.at_ : Int) + n))
  exact this
theorem RCur.setErr {w : World} {g : Nat} {s : Cs} (h : RCur w g s) (er : Int) : RCur (w.setCell ⟨g, 2, none⟩ (.int .i64 er)) g { s with e := er } := by
  obtain ⟨A, c, h1, h2, h3, h4⟩ := h
  refine ⟨A, c, ?_, h2.grown' (only_setCell (World.grownBy.refl w (some g)) (p := ⟨g, 2, none⟩) (.inl rfl) _) (Nat.le_refl _), h3, h4⟩
  have := h1.set_ 2 (.int .i64 er)
  exact this
theorem RCur.cells {w : World} {g : Nat} {s : Cs} (h : RCur w g s) : w.cell? ⟨g, 1, none⟩ = some (.int .i64 s.at_) ∧ w.cell? ⟨g, 2, none⟩ = some (.int .i64 s.e) ∧ w.frozen? ⟨g, 1, none⟩ = false ∧ w.frozen? ⟨g, 2, none⟩ = false := by
  obtain ⟨A, c, h1, h2, h3, h4⟩ := h
  exact ⟨h1.cell 1, h1.cell 2, h1.frozen 1, h1.frozen 2⟩
theorem RCur.bounds {w : World} {g : Nat} {s : Cs} (h : RCur w g s) : s.at_ ≤ s.b.length ∧ s.b.length ≤ 1099511627776 ∧ s.rest.length = s.left ∧ s.left ≤ s.b.length := by
  obtain ⟨A, c, h1, h2, h3, h4⟩ := h
  exact ⟨h3, h4, by simp [Cs.rest, Cs.left], by unfold Cs.left; omega⟩
/-- what a copy of a slice onto an empty one wants -/
theorem clone_pre {B : Nat} {v : Value} {n : Nat} {l : List UInt8} (w : World) (h : Rd w B 1 v n (bv l)) :
    Hid ((w.alloc (.cells #[] 5)).ownsRow w.heap.size 5 1 (.slice (some ⟨w.heap.size, 0, none⟩) 0 0) 0 []) ∧ Hid (Rd (w.alloc (.cells #[] 5)) B 1 v n (bv l)) ∧
      Hid (Below w.heap.size w (w.alloc (.cells #[] 5))) ∧ Hid (w.heap.size ≤ (w.alloc (.cells #[] 5)).heap.size) := by
  have hb : Below w.heap.size w (w.alloc (.cells #[] 5)) := (Below.refl _ _).alloc (Nat.le_refl _) _
  refine ⟨⟨rfl, .inr ⟨_, 0, #[], rfl, Nat.le_refl _, heap_alloc_new w _, Nat.le_refl _, by unfold maxLen; omega, rfl, rfl⟩⟩, ?_, hb, hb.size⟩
  obtain ⟨A, c', hv, h2, h3, h4⟩ := h
  refine ⟨A, c', hv, h2, h3, fun hn => ?_⟩
  obtain ⟨ad', e, hb, hcell⟩ := h4 hn
  refine ⟨ad', e, hb, fun j u hu => ?_⟩
  have := hcell j u hu
  rw [World.cell?_alloc_lt w _ _ (World.block_lt_of_cell? w _ this)]
  exact this

theorem RCur.cell0 {w : World} {g : Nat} {s : Cs} (h : RCur w g s) : ∃ A c, w.cell? ⟨g, 0, none⟩ = some (.slice A s.b.length c) ∧ s.b.length ≤ c ∧ Rd w g 1 (.slice A s.b.length c) s.b.length (bv s.b) := by
  obtain ⟨A, c, h1, h2, h3, h4⟩ := h
  exact ⟨A, c, h1.cell 0, h2.cap_ge.2, h2⟩
set_option maxRecDepth 100000 in
theorem rleft_c (w : World) (g : Nat) (s : Cs) (hC : RCur w g s) :
    Calls Try.prog 45 #[.pointer (some ⟨g, 0, none⟩)] w fun e w' => e = .returned (.int .i64 s.left) ∧ SameHeap w w' := by
  obtain ⟨A, c, h0, hcap, hrd⟩ := hC.cell0
  have hc1 := hC.cells.1
  have hbd := hC.bounds
  have hl : s.left = s.b.length - s.at_ := rfl
  have h5 : (s.at_ : Int) ≤ s.b.length := by omega
  have h6 : (s.b.length : Int) ≤ 1099511627776 := by omega
  have HL := Lib.hid hl; have HB := Lib.hid hbd
  clear hrd hC hl hbd
  go_enter Try.func45, Try.ntmps45
  go_wp2_with fail
  go_quiet (fail)
  go_wp2
  go_ret
  exact ⟨ret_int (by rw [HL.out]; omega), _, rfl⟩
theorem rfail_c (w : World) (g : Nat) (s : Cs) (hC : RCur w g s) (er : Int) :
    Calls Try.prog 43 #[.pointer (some ⟨g, 0, none⟩), .int .i64 er] w fun e w' => e = .returned (.tuple #[]) ∧ RCurP w g (s.failed er) w' := by
  obtain ⟨hc1, hc2, hf1, hf2⟩ := hC.cells
  have HC := Lib.hid hC
  clear hC
  by_cases h0 : s.e = 0
  · have hE : s.failed er = { s with e := er } := if_pos h0
    have HE := Lib.hid hE; clear hE
    rw [h0] at hc2
    have H0 := Lib.hid h0; clear h0
    go_enter Try.func43, Try.ntmps43
    go_wp2
    go_end0
    unfold RCurP
    rw [HE.out]
    exact ⟨rfl, HC.out.setErr er, only_setCell (World.grownBy.refl _ _) (p := ⟨g, 2, none⟩) (.inl rfl) _⟩
  · have hE : s.failed er = s := if_neg h0
    have hb : (s.e == 0) = false := by rw [beq_eq_false_iff_ne]; exact h0
    have HE := Lib.hid hE; clear hE
    have H0 := Lib.hid h0; clear h0
    go_enter Try.func43, Try.ntmps43
    go_wp2
    go_end0
    unfold RCurP
    rw [HE.out]
    exact ⟨rfl, HC.out, World.grownBy.refl _ _⟩
set_option maxRecDepth 100000 in
theorem rend_c (w : World) (g : Nat) (s : Cs) (hC : RCur w g s) :
    Calls Try.prog 44 #[.pointer (some ⟨g, 0, none⟩)] w fun e w' => e = .returned (.int .i64 s.end'.e) ∧ RCurP w g s.end' w' := by
  obtain ⟨hc1, hc2, hf1, hf2⟩ := hC.cells
  have HC := Lib.hid hC
  clear hC
  by_cases h0 : s.e = 0
  · have hbe : (s.e == 0) = true := by simp [h0]
    by_cases h : 0 < s.left
    · have hE : s.end' = { s with e := 2 } := by unfold Cs.end'; rw [if_pos h]; exact if_pos h0
      have HE := Lib.hid hE; have H0 := Lib.hid h0
      have hs := HC.out.setErr 2
      have hcs := fun k => (show (w.drewN k).cell? ⟨g, 2, none⟩ = some (.int .i64 s.e) from hc2)
      have HS := Lib.hid hs
      clear hE h0 hs
      go_enter Try.func44, Try.ntmps44
      go_wp2_with (go_at_call 45; refine (rleft_c _ g s HC.out).mono ?_; rintro e w1 ⟨rfl, k1, rfl⟩)
      go_ret
      unfold RCurP
      rw [HE.out]
      exact ⟨rfl, HC.out.setErr 2, only_setCell (only_drewN (World.grownBy.refl _ _) k1) (p := ⟨g, 2, none⟩) (.inl rfl) _⟩
    · have hE : s.end' = s := if_neg h
      have HE := Lib.hid hE; have H0 := Lib.hid h0
      clear hE h0
      go_enter Try.func44, Try.ntmps44
      go_wp2_with (go_at_call 45; refine (rleft_c _ g s HC.out).mono ?_; rintro e w1 ⟨rfl, k1, rfl⟩)
      go_ret
      unfold RCurP
      rw [HE.out]
      exact ⟨rfl, HC.out, only_drewN (World.grownBy.refl _ _) k1⟩
  · have hbe : (s.e == 0) = false := by rw [beq_eq_false_iff_ne]; exact h0
    have hE : s.end' = s := by
      unfold Cs.end'
      split
      · exact if_neg h0
      · rfl
    have HE := Lib.hid hE; have H0 := Lib.hid h0
    clear hE h0
    go_enter Try.func44, Try.ntmps44
    go_wp2
    go_ret
    unfold RCurP
    rw [HE.out]
    exact ⟨rfl, HC.out, World.grownBy.refl _ _⟩
def RNewP (w : World) (l : List UInt8) (e : Ending) (w' : World) : Prop := ∃ g, e = .returned (.pointer (some ⟨g, 0, none⟩)) ∧ RCur w' g ⟨l, 0, 0⟩ ∧ w.heap.size ≤ g
set_option maxHeartbeats 800000 in
theorem rnew_c {B : Nat} {v : Value} {n : Nat} {l : List UInt8} (w : World) (h : Rd w B 1 v n (bv l)) (hn : n ≤ 1099511627776) :
    Calls Try.prog 36 #[v] w fun e w' => RNewP w l e w' ∧ Below w.heap.size w w' := by
  have HL := Lib.hid h.len_eq
  obtain ⟨H1, H2, H3, H4⟩ := clone_pre w h
  clear h
  go_enter Try.func36, Try.ntmps36
  go_wp2_with (at_builtin; refine wp_app sl_u8 rfl (.tmp 3) (.tmp 4) rfl rfl H1.out rfl H2.out (bv_one _) H3.out (Nat.le_refl _) H4.out (by omega) (by omega) ?_; intro v2 w2 hown2 hb2 hg2; rw [Nat.zero_add, List.nil_append] at hown2; obtain ⟨A1, c1, rfl, hc1⟩ := (Rd.of_own hown2).form; have HO := Lib.hid hown2; clear hown2 hg2)
  go_ret
  have hrd := (Rd.of_own HO.out)
  have hkeep : Rd (w2.alloc (.cells #[.slice A1 n c1, .int .i64 0, .int .i64 0] 57)) w2.heap.size 1 (.slice A1 n c1) n (bv l) := hrd.keep fun p hp => World.cell?_alloc_lt w2 _ p hp
  refine ⟨⟨w2.heap.size, rfl, ⟨A1, c1, ?_, ?_, by simp, ?_⟩, hb2.size⟩, hb2.alloc hb2.size _⟩
  · have := Blk.new w2 57 #[.slice A1 n c1, .int .i64 0, .int .i64 0]
    show Blk _ _ _ #[.slice A1 l.length c1, .int .i64 0, .int .i64 0]
    rw [HL.out]
    exact this
  · show Rd _ _ 1 (.slice A1 l.length c1) l.length (bv l)
    rw [HL.out]
    exact hkeep
  · show l.length ≤ _
    rw [HL.out]; exact hn
end Go.Proofs.Ytejibnkgenonfaa

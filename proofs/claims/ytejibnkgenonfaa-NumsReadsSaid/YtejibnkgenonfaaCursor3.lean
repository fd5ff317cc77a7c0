/-
  What a cursor's Num and Int compute: the plain functions' answers, and the cursor's next state. Conditions: the cursor's bytes are shorter than 2^40.
-/
import Derived.Test.YtejibnkgenonfaaCursor2
namespace Go.Proofs.Ytejibnkgenonfaa
open Go.RowKit
set_option linter.unusedVariables false
theorem only_new {a w w' : World} {row : Option Nat} {h : Nat} (h1 : a.grownBy w row) (h2 : w.grownBy w' (some h)) (hh : a.heap.size ≤ h) : a.grownBy w' row :=
  ⟨h2.os.trans h1.os, h2.tape.trans h1.tape, h2.output.trans h1.output, Nat.le_trans h1.size h2.size, fun i hi hne => (h2.block i (Nat.lt_of_lt_of_le hi h1.size) (fun e => by injection e with e; omega)).trans (h1.block i hi hne)⟩
theorem Cur.alloc {w : World} {g : Nat} {s : Cs} (h : Cur w g s) (o : Obj) : Cur (w.alloc o) g s := h.below ((Below.refl w.heap.size w).alloc (Nat.le_refl _) o) h.lt
theorem Cur.drewN {w : World} {g : Nat} {s : Cs} (h : Cur w g s) (k : Nat) : Cur (w.drewN k) g s := h
theorem Cur.setAt {w : World} {g : Nat} {s : Cs} (h : Cur w g s) (n : Nat) (hn : s.at_ + n ≤ s.b.length) : Cur (w.setCell ⟨g, 1, none⟩ (.int .i64 ((s.at_ : Int) + n))) g { s with at_ := s.at_ + n } := by
  obtain ⟨A, c, h1, h2, h3, h4⟩ := h
  refine ⟨A, c, ?_, h2.grown' (only_setCell (World.grownBy.refl w (some g)) (p := ⟨g, 1, none⟩) (.inl rfl) _) (Nat.le_refl _), hn, h4⟩
  have := h1.set_ 1 (.int .i64 ((s.at_ : Int) + n))
  exact this
theorem Cur.setErr {w : World} {g : Nat} {s : Cs} (h : Cur w g s) (er : Int) : Cur (w.setCell ⟨g, 2, none⟩ (.int .i64 er)) g { s with e := er } := by
  obtain ⟨A, c, h1, h2, h3, h4⟩ := h
  refine ⟨A, c, ?_, h2.grown' (only_setCell (World.grownBy.refl w (some g)) (p := ⟨g, 2, none⟩) (.inl rfl) _) (Nat.le_refl _), h3, h4⟩
  have := h1.set_ 2 (.int .i64 er)
  exact this
theorem Cur.cells {w : World} {g : Nat} {s : Cs} (h : Cur w g s) : w.cell? ⟨g, 1, none⟩ = some (.int .i64 s.at_) ∧ w.cell? ⟨g, 2, none⟩ = some (.int .i64 s.e) ∧ w.frozen? ⟨g, 1, none⟩ = false ∧ w.frozen? ⟨g, 2, none⟩ = false := by
  obtain ⟨A, c, h1, h2, h3, h4⟩ := h
  exact ⟨h1.cell 1, h1.cell 2, h1.frozen 1, h1.frozen 2⟩
theorem Cur.bounds {w : World} {g : Nat} {s : Cs} (h : Cur w g s) : s.at_ ≤ s.b.length ∧ s.b.length ≤ 1099511627776 ∧ s.rest.length = s.left ∧ s.left ≤ s.b.length := by
  obtain ⟨A, c, h1, h2, h3, h4⟩ := h
  exact ⟨h3, h4, by simp [Cs.rest, Cs.left], by unfold Cs.left; omega⟩
def StepP (w : World) (hx : Nat) (t : TypeId) (x : Value) (n : Nat) (er : Int) (e : Ending) (w' : World) : Prop :=
  e = .returned (.tuple #[.int .i64 n, .int .i64 er]) ∧ Blk w' hx t #[x] ∧ w.grownBy w' (some hx)
set_option maxRecDepth 100000 in
theorem numstep_c {B hx : Nat} {x0 : Value} {A : Option Addr} {n c : Nat} {l : List UInt8} (w : World) (hb : Blk w hx 22 #[x0]) (h : Rd w B 1 (.slice A n c) n (bv l)) (hn : n ≤ 1099511627776) :
    Calls Try.prog 49 #[.slice A n c, .pointer (some ⟨hx, 0, none⟩)] w fun e w' => StepP w hx 22 (.int .u64 (scanS l).1) (scanS l).2.1 (scanS l).2.2 e w' := by
  have hs := scan_c w h hn
  obtain ⟨x, hx'⟩ : ∃ x, x = (scanS l).1 := ⟨_, rfl⟩
  obtain ⟨k, hk⟩ : ∃ k, k = (scanS l).2.1 := ⟨_, rfl⟩
  obtain ⟨er, her⟩ : ∃ er, er = (scanS l).2.2 := ⟨_, rfl⟩
  rw [← hx', ← hk, ← her] at hs ⊢
  have h0 : w.cell? ⟨hx, 0, none⟩ = some x0 := hb.cell 0
  have hf := hb.frozen 0
  have HS := Lib.hid hs; have HB := Lib.hid hb
  clear hs hb h hx' hk her
  go_enter Try.func49, Try.ntmps49
  go_wp2_with (go_at_call 50; refine HS.out.mono ?_; rintro e w1 ⟨rfl, rfl⟩)
  go_ret2
  exact ⟨rfl, HB.out.set_ 0 _, only_setCell (World.grownBy.refl _ _) (.inl rfl) _⟩
set_option maxRecDepth 100000 in
theorem intstep_c {B hx hm : Nat} {x0 : Value} {A : Option Addr} {n c : Nat} {l : List UInt8} (w : World) (most : Int) (hb : Blk w hx 3 #[x0]) (hbm : Blk w hm 3 #[.int .i64 most]) (h : Rd w B 1 (.slice A n c) n (bv l)) (hn : n ≤ 1099511627776) (hmo : -9223372036854775808 ≤ most ∧ most ≤ 9223372036854775807) :
    Calls Try.prog 51 #[.slice A n c, .pointer (some ⟨hm, 0, none⟩), .pointer (some ⟨hx, 0, none⟩)] w fun e w' => StepP w hx 3 (.int .i64 (limS l most).1) (limS l most).2.1 (limS l most).2.2 e w' := by
  have hs := limited_c w h hn most hmo
  obtain ⟨x, hx'⟩ : ∃ x, x = (limS l most).1 := ⟨_, rfl⟩
  obtain ⟨k, hk⟩ : ∃ k, k = (limS l most).2.1 := ⟨_, rfl⟩
  obtain ⟨er, her⟩ : ∃ er, er = (limS l most).2.2 := ⟨_, rfl⟩
  rw [← hx', ← hk, ← her] at hs ⊢
  have h0 : w.cell? ⟨hx, 0, none⟩ = some x0 := hb.cell 0
  have hm0 : w.cell? ⟨hm, 0, none⟩ = some (.int .i64 most) := hbm.cell 0
  have hf := hb.frozen 0
  have HS := Lib.hid hs; have HB := Lib.hid hb
  clear hs hb h hx' hk her hmo hbm
  go_enter Try.func51, Try.ntmps51
  go_wp2_with (go_at_call 52; refine HS.out.mono ?_; rintro e w1 ⟨rfl, rfl⟩)
  go_ret2
  exact ⟨rfl, HB.out.set_ 0 _, only_setCell (World.grownBy.refl _ _) (.inl rfl) _⟩
theorem Cs.moved_err {s : Cs} (h : s.e ≠ 0) (n : Nat) (er : Int) : s.moved n er = s := if_pos h
theorem Cs.moved_bad {s : Cs} (h : s.e = 0) (n : Nat) {er : Int} (he : er ≠ 0) : s.moved n er = { s with e := er } := by unfold Cs.moved; rw [if_neg (by simp [h]), if_pos he]
theorem Cs.moved_ok {s : Cs} (h : s.e = 0) (n : Nat) : s.moved n 0 = { s with at_ := s.at_ + n } := by unfold Cs.moved; rw [if_neg (by simp [h]), if_neg (by simp)]
theorem scanFrom_zero : ∀ (l : List UInt8) (i acc : Nat), (scanFrom i acc l).2.2 ≠ 0 → (scanFrom i acc l).1 = 0 := by
  intro l
  induction l with
  | nil => intro i acc _; rfl
  | cons c r ih =>
    intro i acc h
    unfold scanFrom at h ⊢
    split
    · rfl
    · rename_i h1
      rw [if_neg h1] at h
      split
      · rename_i h2
        rw [if_pos h2] at h
        exact absurd rfl h
      · rename_i h2
        rw [if_neg h2] at h
        exact ih _ _ h
theorem scanS_zero (l : List UInt8) (h : (scanS l).2.2 ≠ 0) : (scanS l).1 = 0 := scanFrom_zero l 0 0 h
theorem limS_zero (l : List UInt8) (most : Int) (h : (limS l most).2.2 ≠ 0) : (limS l most).1 = 0 := by
  unfold limS at h ⊢
  split
  · rfl
  · split
    · rfl
    · rename_i h1 h2
      rw [if_neg h1, if_neg h2] at h
      exact absurd rfl h
set_option maxRecDepth 100000 in
set_option maxHeartbeats 1000000 in
theorem cnum_c (w : World) (g : Nat) (s : Cs) (hC : Cur w g s) :
    Calls Try.prog 25 #[.pointer (some ⟨g, 0, none⟩)] w fun e w' => e = .returned (.int .u64 s.num) ∧ CurP w g s.num' w' := by
  have hg := hC.lt
  have HA := fun o => Lib.hid (hC.alloc o)
  have hbd := hC.bounds
  have HC := Lib.hid hC
  by_cases h0 : s.e = 0
  · obtain ⟨k, hk⟩ : ∃ k, k = (scanS s.rest).2.1 := ⟨_, rfl⟩
    obtain ⟨er, her⟩ : ∃ er, er = (scanS s.rest).2.2 := ⟨_, rfl⟩
    have hkl : er = 0 → s.at_ + k ≤ s.b.length := by
      intro he0
      have := (scanS_facts s.rest).2.1
      rw [hbd.2.2.1, ← hk] at this; unfold Cs.left at this; omega
    have hb0 : (s.e != 0) = false := by simp [h0]
    have HK := Lib.hid hk; have HE := Lib.hid her; have H0 := Lib.hid h0
    have hll : s.left ≤ 1099511627776 := by omega
    have hal : s.at_ ≤ 1099511627776 := by omega
    have hbl : s.b.length ≤ 1099511627776 := by omega
    have HLL := Lib.hid hbd.2.2.1
    clear hbd hk her h0 hC
    by_cases he : er = 0
    · have hbe : (er != 0) = false := by simp [he]
      have hkl' := hkl he
      have hkk : s.at_ + k ≤ 1099511627776 := by omega
      have HZ := Lib.hid he; clear he hkl
      go_enter Try.func25, Try.ntmps25
      go_wp2_with (first
        | (go_at_call 48; go_in)
        | (go_at_call 33; refine (err_c _ g s (HA _).out).mono ?_; rintro e w1 ⟨rfl, rfl⟩)
        | (go_at_call 55; refine (rest_c _ g s (HA _).out).mono ?_; rintro e w1 ⟨A1, c1, rfl, hr1, k1, rfl⟩)
        | (go_at_call 49; refine (numstep_c (B := g) (hx := w.heap.size) (x0 := .int .u64 0) (l := s.rest) _ ((Blk.new w 22 _).drewN k1) hr1 hll).mono ?_; rintro e w2 ⟨rfl, hx2, hg2⟩; rw [← HK.out, ← HE.out]; have hCw2 := ((HA _).out.drewN k1).other hg2 (by omega); obtain ⟨hc21, hc22, hf21, hf22⟩ := hCw2.cells; have hc2x := hx2.cell 0; simp at hc2x; have HX2 := Lib.hid hx2; have HG2 := Lib.hid hg2; have HC2 := Lib.hid hCw2; clear hx2 hg2 hCw2))
      go_ret
      have en : s.num = (scanS s.rest).1 := by unfold Cs.num; rw [if_neg (by simp [H0.out])]
      have en' : s.num' = { s with at_ := s.at_ + k } := by unfold Cs.num'; rw [← HK.out, ← HE.out, HZ.out, Cs.moved_ok H0.out]
      rw [en, en']
      exact ⟨rfl, (HC2.out.setAt k hkl'), only_setCell (only_new (only_drewN (only_alloc (World.grownBy.refl _ _) _) k1) HG2.out (Nat.le_refl _)) (p := ⟨g, 1, none⟩) (.inl rfl) _⟩

    · have hbe : (er != 0) = true := by rw [bne_iff_ne]; exact he
      have HZ := Lib.hid he; clear he hkl
      go_enter Try.func25, Try.ntmps25
      go_wp2_with (first
        | (go_at_call 48; go_in)
        | (go_at_call 33; refine (err_c _ g s (HA _).out).mono ?_; rintro e w1 ⟨rfl, rfl⟩)
        | (go_at_call 55; refine (rest_c _ g s (HA _).out).mono ?_; rintro e w1 ⟨A1, c1, rfl, hr1, k1, rfl⟩)
        | (go_at_call 49; refine (numstep_c (B := g) (hx := w.heap.size) (x0 := .int .u64 0) (l := s.rest) _ ((Blk.new w 22 _).drewN k1) hr1 hll).mono ?_; rintro e w2 ⟨rfl, hx2, hg2⟩; rw [← HK.out, ← HE.out]; have hCw2 := ((HA _).out.drewN k1).other hg2 (by omega); obtain ⟨hc21, hc22, hf21, hf22⟩ := hCw2.cells; have hc2x := hx2.cell 0; simp at hc2x; have HX2 := Lib.hid hx2; have HG2 := Lib.hid hg2; have HC2 := Lib.hid hCw2; clear hx2 hg2 hCw2))
      go_ret
      have en : s.num = (scanS s.rest).1 := by unfold Cs.num; rw [if_neg (by simp [H0.out])]
      have en' : s.num' = { s with e := er } := by unfold Cs.num'; rw [← HK.out, ← HE.out, Cs.moved_bad H0.out k HZ.out]
      have ez : (scanS s.rest).1 = 0 := scanS_zero _ (by rw [← HE.out]; exact HZ.out)
      rw [en, en', ez]
      exact ⟨rfl, (HC2.out.setErr er), only_setCell (only_new (only_drewN (only_alloc (World.grownBy.refl _ _) _) k1) HG2.out (Nat.le_refl _)) (p := ⟨g, 2, none⟩) (.inl rfl) _⟩

  · have hb0 : (s.e != 0) = true := by rw [bne_iff_ne]; exact h0
    have H0 := Lib.hid h0; clear h0 hbd hC
    go_enter Try.func25, Try.ntmps25
    go_wp2_with (first
        | (go_at_call 48; go_in)
        | (go_at_call 33; refine (err_c _ g s (HA _).out).mono ?_; rintro e w1 ⟨rfl, rfl⟩))
    go_ret
    have en : s.num = 0 := by unfold Cs.num; rw [if_pos H0.out]
    have en' : s.num' = s := by unfold Cs.num'; rw [Cs.moved_err H0.out]
    rw [en, en']
    exact ⟨rfl, (HA _).out, (only_alloc (World.grownBy.refl _ _) _)⟩

set_option maxRecDepth 100000 in
set_option maxHeartbeats 1000000 in
theorem cint_c (w : World) (g : Nat) (s : Cs) (hC : Cur w g s) (most : Int) (hmo : -9223372036854775808 ≤ most ∧ most ≤ 9223372036854775807) :
    Calls Try.prog 28 #[.pointer (some ⟨g, 0, none⟩), .int .i64 most] w fun e w' => e = .returned (.int .i64 (s.int most)) ∧ CurP w g (s.int' most) w' := by
  have hg := hC.lt
  have HA := fun o o' => Lib.hid ((hC.alloc o).alloc o')
  have hbd := hC.bounds
  have HC := Lib.hid hC
  by_cases h0 : s.e = 0
  · obtain ⟨k, hk⟩ : ∃ k, k = (limS s.rest most).2.1 := ⟨_, rfl⟩
    obtain ⟨er, her⟩ : ∃ er, er = (limS s.rest most).2.2 := ⟨_, rfl⟩
    have hkl : er = 0 → s.at_ + k ≤ s.b.length := by
      intro he0
      have := (limS_facts s.rest most hmo.2).2.1
      rw [hbd.2.2.1, ← hk] at this; unfold Cs.left at this; omega
    have hb0 : (s.e != 0) = false := by simp [h0]
    have HK := Lib.hid hk; have HE := Lib.hid her; have H0 := Lib.hid h0
    have hll : s.left ≤ 1099511627776 := by omega
    have hal : s.at_ ≤ 1099511627776 := by omega
    have hbl : s.b.length ≤ 1099511627776 := by omega
    have HLL := Lib.hid hbd.2.2.1
    clear hbd hk her h0 hC
    by_cases he : er = 0
    · have hbe : (er != 0) = false := by simp [he]
      have hkl' := hkl he
      have hkk : s.at_ + k ≤ 1099511627776 := by omega
      have HZ := Lib.hid he; clear he hkl
      go_enter Try.func28, Try.ntmps28
      go_wp2_with (first
        | (go_at_call 48; go_in)
        | (go_at_call 33; refine (err_c _ g s (HA _ _).out).mono ?_; rintro e w1 ⟨rfl, rfl⟩)
        | (go_at_call 55; refine (rest_c _ g s (HA _ _).out).mono ?_; rintro e w1 ⟨A1, c1, rfl, hr1, k1, rfl⟩)
        | (go_at_call 51; refine (intstep_c (B := g) (hx := w.heap.size + 1) (hm := w.heap.size) (x0 := .int .i64 0) (l := s.rest) _ most ((by have := Blk.new (w.alloc (.cells #[.int .i64 most] 3)) 3 #[.int .i64 0]; simpa using this : Blk _ (w.heap.size + 1) 3 #[.int .i64 0]).drewN k1) (((Blk.new w 3 #[.int .i64 most]).alloc _).drewN k1) hr1 hll hmo).mono ?_; rintro e w2 ⟨rfl, hx2, hg2⟩; rw [← HK.out, ← HE.out]; have hCw2 := ((HA _ _).out.drewN k1).other hg2 (by omega); obtain ⟨hc21, hc22, hf21, hf22⟩ := hCw2.cells; have hc2x := hx2.cell 0; simp at hc2x; have HX2 := Lib.hid hx2; have HG2 := Lib.hid hg2; have HC2 := Lib.hid hCw2; clear hx2 hg2 hCw2))
      go_ret
      have en : s.int most = (limS s.rest most).1 := by unfold Cs.int; rw [if_neg (by simp [H0.out])]
      have en' : s.int' most = { s with at_ := s.at_ + k } := by unfold Cs.int'; rw [← HK.out, ← HE.out, HZ.out, Cs.moved_ok H0.out]
      rw [en, en']
      exact ⟨rfl, (HC2.out.setAt k hkl'), only_setCell (only_new (only_drewN (only_alloc (only_alloc (World.grownBy.refl _ _) _) _) k1) HG2.out (Nat.le_succ _)) (p := ⟨g, 1, none⟩) (.inl rfl) _⟩

    · have hbe : (er != 0) = true := by rw [bne_iff_ne]; exact he
      have HZ := Lib.hid he; clear he hkl
      go_enter Try.func28, Try.ntmps28
      go_wp2_with (first
        | (go_at_call 48; go_in)
        | (go_at_call 33; refine (err_c _ g s (HA _ _).out).mono ?_; rintro e w1 ⟨rfl, rfl⟩)
        | (go_at_call 55; refine (rest_c _ g s (HA _ _).out).mono ?_; rintro e w1 ⟨A1, c1, rfl, hr1, k1, rfl⟩)
        | (go_at_call 51; refine (intstep_c (B := g) (hx := w.heap.size + 1) (hm := w.heap.size) (x0 := .int .i64 0) (l := s.rest) _ most ((by have := Blk.new (w.alloc (.cells #[.int .i64 most] 3)) 3 #[.int .i64 0]; simpa using this : Blk _ (w.heap.size + 1) 3 #[.int .i64 0]).drewN k1) (((Blk.new w 3 #[.int .i64 most]).alloc _).drewN k1) hr1 hll hmo).mono ?_; rintro e w2 ⟨rfl, hx2, hg2⟩; rw [← HK.out, ← HE.out]; have hCw2 := ((HA _ _).out.drewN k1).other hg2 (by omega); obtain ⟨hc21, hc22, hf21, hf22⟩ := hCw2.cells; have hc2x := hx2.cell 0; simp at hc2x; have HX2 := Lib.hid hx2; have HG2 := Lib.hid hg2; have HC2 := Lib.hid hCw2; clear hx2 hg2 hCw2))
      go_ret
      have en : s.int most = (limS s.rest most).1 := by unfold Cs.int; rw [if_neg (by simp [H0.out])]
      have en' : s.int' most = { s with e := er } := by unfold Cs.int'; rw [← HK.out, ← HE.out, Cs.moved_bad H0.out k HZ.out]
      have ez : (limS s.rest most).1 = 0 := limS_zero _ _ (by rw [← HE.out]; exact HZ.out)
      rw [en, en', ez]
      exact ⟨rfl, (HC2.out.setErr er), only_setCell (only_new (only_drewN (only_alloc (only_alloc (World.grownBy.refl _ _) _) _) k1) HG2.out (Nat.le_succ _)) (p := ⟨g, 2, none⟩) (.inl rfl) _⟩

  · have hb0 : (s.e != 0) = true := by rw [bne_iff_ne]; exact h0
    have H0 := Lib.hid h0; clear h0 hbd hC
    go_enter Try.func28, Try.ntmps28
    go_wp2_with (first
        | (go_at_call 48; go_in)
        | (go_at_call 33; refine (err_c _ g s (HA _ _).out).mono ?_; rintro e w1 ⟨rfl, rfl⟩))
    go_ret
    have en : s.int most = 0 := by unfold Cs.int; rw [if_pos H0.out]
    have en' : s.int' most = s := by unfold Cs.int'; rw [Cs.moved_err H0.out]
    rw [en, en']
    exact ⟨rfl, (HA _ _).out, (only_alloc (only_alloc (World.grownBy.refl _ _) _) _)⟩

end Go.Proofs.Ytejibnkgenonfaa

/-
  What a cursor's Take and Text compute: the plain functions' answers, and the cursor's next state. Conditions: the cursor's bytes are shorter than 2^40.
-/
import Derived.Test.YtejibnkgenonfaaCursor3
namespace Go.Proofs.Ytejibnkgenonfaa
open Go.RowKit
set_option linter.unusedVariables false
theorem own_setCell {w : World} {base : Nat} {e : TypeId} {v : Value} {n : Nat} {xs : List Value} (h : w.ownsRow base e 1 v n xs) {p : Addr} (hp : p.block < base) (u : Value) : (w.setCell p u).ownsRow base e 1 v n xs := ownsRow_setCell_below h hp u
/-- Take's step: the error, or a fresh copy of the first n bytes in block hx -/
def TakeP (w : World) (hx : Nat) (l : List UInt8) (m : Int) (e : Ending) (w' : World) : Prop :=
  e = .returned (.tuple #[.int .i64 ((if takeErr l m = 0 then m.toNat else 0 : Nat) : Int), .int .i64 (takeErr l m)]) ∧ w.grownBy w' (some hx) ∧
    ∃ v L, Blk w' hx 27 #[v] ∧ w'.ownsRow (hx + 1) 5 1 v (List.length L) (bv L) ∧ L = (if takeErr l m = 0 then l.take m.toNat else [])
set_option maxRecDepth 100000 in
set_option maxHeartbeats 1000000 in
theorem takestep_c {B hx hm : Nat} {A : Option Addr} {n c : Nat} {l : List UInt8} (w : World) (m : Int) (hb : Blk w hx 27 #[.slice none 0 0]) (hbm : Blk w hm 3 #[.int .i64 m]) (h : Rd w B 1 (.slice A n c) n (bv l)) (hn : n ≤ 1099511627776) :
    Calls Try.prog 53 #[.slice A n c, .pointer (some ⟨hm, 0, none⟩), .pointer (some ⟨hx, 0, none⟩)] w fun e w' => TakeP w hx l m e w' := by
  have h0 : w.cell? ⟨hx, 0, none⟩ = some (.slice none 0 0) := hb.cell 0
  have hm0 : w.cell? ⟨hm, 0, none⟩ = some (.int .i64 m) := hbm.cell 0
  have hf := hb.frozen 0
  have hlen := h.len_eq
  by_cases c1 : m < 0
  · have e1 : takeErr l m = 13 := if_pos c1
    have E1 := Lib.hid e1; have HB := Lib.hid hb
    clear e1 hb hbm h hlen
    go_enter Try.func53, Try.ntmps53
    go_wp2
    go_ret2
    unfold TakeP
    rw [E1.out]
    exact ⟨rfl, World.grownBy.refl _ _, _, [], HB.out, World.ownsRow_nil _ _ _ _, rfl⟩
  · by_cases c2 : (n : Int) < m
    · have e1 : takeErr l m = 1 := by unfold takeErr; rw [if_neg c1, if_pos (by rw [hlen]; exact c2)]
      have E1 := Lib.hid e1; have HB := Lib.hid hb
      clear e1 hb hbm h hlen
      go_enter Try.func53, Try.ntmps53
      go_wp2
      go_ret2
      unfold TakeP
      rw [E1.out]
      exact ⟨rfl, World.grownBy.refl _ _, _, [], HB.out, World.ownsRow_nil _ _ _ _, rfl⟩
    · have e1 : takeErr l m = 0 := by unfold takeErr; rw [if_neg c1, if_neg (by rw [hlen]; exact c2)]
      obtain ⟨k, rfl⟩ := Int.eq_ofNat_of_zero_le (show 0 ≤ m by omega)
      have hkn : k ≤ n := by omega
      have hcap := h.cap_ge.2
      have hk1 : (k : Int) ≤ c := by omega
      have hk0 : (0 : Int) ≤ k := by omega
      have hhd := h.head_ hkn
      rw [Nat.mul_one, bv_take] at hhd
      have E1 := Lib.hid e1; have HB := Lib.hid hb; have HD := Lib.hid hhd; have HM := Lib.hid hbm
      have hlt := hb.lt; have HLN := Lib.hid hlen
      have hne : (⟨hm, 0, none⟩ : Addr) ≠ ⟨hx, 0, none⟩ := by
        intro e
        injection e with e
        subst e
        have := hbm.symm.trans hb
        simp at this
      clear e1 hb hbm h hlen hhd
      go_enter Try.func53, Try.ntmps53
      go_wp2_with (go_at_call 47; refine (clone_c _ HD.out (by omega)).mono ?_; rintro e w1 ⟨v1, rfl, hown, hb1⟩; obtain ⟨A1, cc1, rfl, hcc1⟩ := (Rd.of_own hown).form; have hx1 := HB.out.below hb1 hlt; have hm1 := (HM.out.below hb1 HM.out.lt).cell 0; simp at hm1; have hx1c := hx1.cell 0; simp at hx1c; have hx1f := hx1.frozen 0; have HX1 := Lib.hid hx1; clear hx1; have hmx := (World.cell?_setCell_other (w := w1) (a := ⟨hx, 0, none⟩) (b := ⟨hm, 0, none⟩) (v := .slice A1 k cc1) (Ne.symm hne)).trans hm1)
      go_ret2
      unfold TakeP
      rw [E1.out]
      refine ⟨rfl, ?_, _, l.take k, HX1.out.set_ 0 _, ?_, by rw [if_pos rfl]; rfl⟩
      · exact only_setCell (only_of_below' hb1 (some hx)) (p := ⟨hx, 0, none⟩) (.inl rfl) _
      · exact own_to (own_setCell (own_lower hown hlt) (p := ⟨hx, 0, none⟩) (Nat.lt_succ_self _) _) (by have := HLN.out; simp; omega) rfl
/-- Text's step: the error, or the text in block hx -/
def TextP (w : World) (hx : Nat) (l : List UInt8) (most : Int) (e : Ending) (w' : World) : Prop :=
  e = .returned (.tuple #[.int .i64 (textS l most).2.1, .int .i64 (textS l most).2.2]) ∧ w.grownBy w' (some hx) ∧ Blk w' hx 9 #[.string ⟨(textS l most).1.toArray⟩]
set_option maxRecDepth 100000 in
set_option maxHeartbeats 1000000 in
theorem textstep_c {B hx hm : Nat} {A : Option Addr} {n c : Nat} {l : List UInt8} (w : World) (most : Int) (hmo : -9223372036854775808 ≤ most ∧ most ≤ 9223372036854775807) (hb : Blk w hx 9 #[.string ⟨#[]⟩]) (hbm : Blk w hm 3 #[.int .i64 most]) (h : Rd w B 1 (.slice A n c) n (bv l)) (hn : n ≤ 1099511627776) :
    Calls Try.prog 54 #[.slice A n c, .pointer (some ⟨hm, 0, none⟩), .pointer (some ⟨hx, 0, none⟩)] w fun e w' => TextP w hx l most e w' := by
  have h0 : w.cell? ⟨hx, 0, none⟩ = some (.string ⟨#[]⟩) := hb.cell 0
  have hm0 : w.cell? ⟨hm, 0, none⟩ = some (.int .i64 most) := hbm.cell 0
  have hf := hb.frozen 0
  have hlen := h.len_eq
  have hlf := limS_facts l most hmo.2
  have hs := limited_c w h hn most hmo
  obtain ⟨x, hx'⟩ : ∃ x, x = (limS l most).1 := ⟨_, rfl⟩
  obtain ⟨k, hk⟩ : ∃ k, k = (limS l most).2.1 := ⟨_, rfl⟩
  obtain ⟨er, her⟩ : ∃ er, er = (limS l most).2.2 := ⟨_, rfl⟩
  rw [← hx', ← hk, ← her] at hs
  rw [← hx', ← hk, ← her, hlen] at hlf
  have hkn : k ≤ n := hlf.2.1
  have hxb : x ≤ 9223372036854775807 := hlf.1
  have hcap := h.cap_ge.2
  by_cases c1 : er = 0
  · have hb1 : (er != 0) = false := by simp [c1]
    by_cases c2 : n - k < x
    · have e1 : textS l most = ([], 0, 1) := by
        unfold textS
        rw [← her, ← hk, ← hx', if_neg (by simp [c1]), if_pos (by rw [hlen]; exact c2)]
      have c2' : (n : Int) - k < x := by omega
      have E1 := Lib.hid e1; have HB := Lib.hid hb; have HS := Lib.hid hs; have HX := Lib.hid hxb
      clear e1 hb hbm h hlen hs hx' hk her hlf hmo c1 hxb
      go_enter Try.func54, Try.ntmps54
      go_wp2_with (go_at_call 52; refine HS.out.mono ?_; rintro e w1 ⟨rfl, rfl⟩)
      go_ret2
      unfold TextP
      rw [E1.out]
      exact ⟨rfl, World.grownBy.refl _ _, HB.out⟩
    · have e1 : textS l most = ((l.drop k).take x, k + x, 0) := by
        unfold textS
        rw [← her, ← hk, ← hx', if_neg (by simp [c1]), if_neg (by rw [hlen]; exact c2)]
      have hkx : k + x ≤ n := by omega
      have c2' : ¬ ((n : Int) - k < x) := by omega
      have hcut := (h.head_ hkx).cut (k := k) (by omega)
      rw [Nat.mul_one, Nat.mul_one, Nat.add_sub_cancel_left, bv_take, bv_drop, List.drop_take, Nat.add_sub_cancel_left] at hcut
      have hst := run_bstr Try.underlying27 Try.underlying5 Try.underlying9 hcut
      have hst' : ¬ c = k → (convert 27 9 (.slice (A.map (·.add k)) x (c - k))).run Try.prog w = .ok (.string (ByteArray.mk (List.take x (List.drop k l)).toArray)) w := by
        intro hck; rw [if_neg hck] at hst; exact hst
      have hst'' : c = k → (convert 27 9 (.slice A x (c - k))).run Try.prog w = .ok (.string (ByteArray.mk (List.take x (List.drop k l)).toArray)) w := by
        intro hck; rw [if_pos hck] at hst; exact hst
      have E1 := Lib.hid e1; have HB := Lib.hid hb; have HS := Lib.hid hs
      have hxn : x ≤ 1099511627776 := by omega
      clear e1 hb hbm h hlen hs hx' hk her hlf hmo c1 hxb hcut hst
      by_cases hck : c = k
      · have hcv := hst'' hck
        clear hst' hst''
        subst hck
        rw [Nat.sub_self] at hcv
        go_enter Try.func54, Try.ntmps54
        go_wp2_with (go_at_call 52; refine HS.out.mono ?_; rintro e w1 ⟨rfl, rfl⟩)
        go_ret2
        unfold TextP
        rw [E1.out]
        exact ⟨rfl, only_setCell (World.grownBy.refl _ _) (.inl rfl) _, HB.out.set_ 0 _⟩
      · have hcv := hst' hck
        clear hst' hst''
        go_enter Try.func54, Try.ntmps54
        go_wp2_with (go_at_call 52; refine HS.out.mono ?_; rintro e w1 ⟨rfl, rfl⟩)
        go_ret2
        unfold TextP
        rw [E1.out]
        exact ⟨rfl, only_setCell (World.grownBy.refl _ _) (.inl rfl) _, HB.out.set_ 0 _⟩
  · have hb1 : (er != 0) = true := by rw [bne_iff_ne]; exact c1
    have e1 : textS l most = ([], 0, er) := by
      unfold textS
      rw [← her, if_pos c1]
    have E1 := Lib.hid e1; have HB := Lib.hid hb; have HS := Lib.hid hs
    clear e1 hb hbm h hlen hs hx' hk her hlf hmo c1 hxb
    go_enter Try.func54, Try.ntmps54
    go_wp2_with (go_at_call 52; refine HS.out.mono ?_; rintro e w1 ⟨rfl, rfl⟩)
    go_ret2
    unfold TextP
    rw [E1.out]
    exact ⟨rfl, World.grownBy.refl _ _, HB.out⟩
theorem take_kbound (l : List UInt8) (n : Int) : (if takeErr l n = 0 then n.toNat else 0) ≤ l.length := by
  split
  · rename_i h
    unfold takeErr at h
    split at h
    · cases h
    · split at h
      · cases h
      · omega
  · omega
def TakeR (w : World) (s : Cs) (n : Int) (e : Ending) (w' : World) : Prop := ∃ v, e = .returned v ∧ w'.ownsRow w.heap.size 5 1 v (s.take n).length (bv (s.take n))
set_option maxRecDepth 100000 in
set_option maxHeartbeats 1000000 in
theorem ctake_c (w : World) (g : Nat) (s : Cs) (hC : Cur w g s) (n : Int) :
    Calls Try.prog 31 #[.pointer (some ⟨g, 0, none⟩), .int .i64 n] w fun e w' => TakeR w s n e w' ∧ CurP w g (s.take' n) w' := by
  have hg := hC.lt
  have HA := fun o o' => Lib.hid ((hC.alloc o).alloc o')
  have hbd := hC.bounds
  have HC := Lib.hid hC
  by_cases h0 : s.e = 0
  · obtain ⟨k, hk⟩ : ∃ k, k = (if takeErr s.rest n = 0 then n.toNat else 0) := ⟨_, rfl⟩
    obtain ⟨er, her⟩ : ∃ er, er = takeErr s.rest n := ⟨_, rfl⟩
    have hkl : er = 0 → s.at_ + k ≤ s.b.length := by
      intro he0
      have := take_kbound s.rest n
      rw [hbd.2.2.1, ← hk] at this; unfold Cs.left at this; omega
    have hb0 : (s.e != 0) = false := by simp [h0]
    have HK := Lib.hid hk; have HE := Lib.hid her; have H0 := Lib.hid h0
    have hll : s.left ≤ 1099511627776 := by omega
    have hal : s.at_ ≤ 1099511627776 := by omega
    have hbl : s.b.length ≤ 1099511627776 := by omega
    have HLL := Lib.hid hbd.2.2.1
    clear hbd hk her h0 hC
    by_cases he : er = 0
    · have hbe : (er != 0) = false := by simp [he]
      have hkl' := hkl he
      have hkk : s.at_ + k ≤ 1099511627776 := by omega
      have HZ := Lib.hid he; clear he hkl
      go_enter Try.func31, Try.ntmps31
      go_wp2_with (first
        | (go_at_call 48; go_in)
        | (go_at_call 33; refine (err_c _ g s (HA _ _).out).mono ?_; rintro e w1 ⟨rfl, rfl⟩)
        | (go_at_call 55; refine (rest_c _ g s (HA _ _).out).mono ?_; rintro e w1 ⟨A1, c1, rfl, hr1, k1, rfl⟩)
        | (go_at_call 53; refine (takestep_c (B := g) (hx := w.heap.size + 1) (hm := w.heap.size) (l := s.rest) _ n ((by have := Blk.new (w.alloc (.cells #[.int .i64 n] 3)) 27 #[.slice none 0 0]; simpa using this : Blk _ (w.heap.size + 1) 27 #[.slice none 0 0]).drewN k1) (((Blk.new w 3 #[.int .i64 n]).alloc _).drewN k1) hr1 hll).mono ?_; rintro e w2 ⟨rfl, hg2, v2, L2, hx2, ho2, hL2⟩; have HL2 := Lib.hid hL2; clear hL2; obtain ⟨A2, c2, rfl, hc2⟩ := (Rd.of_own ho2).form; rw [← HK.out, ← HE.out]; have HO := Lib.hid ho2; clear ho2 hc2; have hCw2 := ((HA _ _).out.drewN k1).other hg2 (by omega); obtain ⟨hc21, hc22, hf21, hf22⟩ := hCw2.cells; have hc2x := hx2.cell 0; simp at hc2x; have HX2 := Lib.hid hx2; have HG2 := Lib.hid hg2; have HC2 := Lib.hid hCw2; clear hx2 hg2 hCw2))
      go_ret
      have et : takeErr s.rest n = 0 := by rw [← HE.out]; exact HZ.out
      have en : s.take n = s.rest.take n.toNat := by unfold Cs.take; rw [if_neg (by simp [H0.out]), if_neg (by simp [et])]
      have en' : s.take' n = { s with at_ := s.at_ + k } := by unfold Cs.take'; rw [et, Cs.moved_ok H0.out, HK.out, if_pos et]
      rw [en']
      have ho1 := own_lower (base' := w.heap.size) HO.out (by omega)
      have ho2 := own_setCell ho1 (p := ⟨g, 1, none⟩) hg (.int .i64 ((s.at_ : Int) + k))
      have ho3 := own_to ho2 (m := (s.take n).length) (ys := bv (s.take n)) (by rw [HL2.out, if_pos et, en]) (by rw [HL2.out, if_pos et, en])
      exact ⟨⟨_, rfl, ho3⟩, (HC2.out.setAt k hkl'), only_setCell (only_new (only_drewN (only_alloc (only_alloc (World.grownBy.refl _ _) _) _) k1) HG2.out (Nat.le_succ _)) (p := ⟨g, 1, none⟩) (.inl rfl) _⟩

    · have hbe : (er != 0) = true := by rw [bne_iff_ne]; exact he
      have HZ := Lib.hid he; clear he hkl
      go_enter Try.func31, Try.ntmps31
      go_wp2_with (first
        | (go_at_call 48; go_in)
        | (go_at_call 33; refine (err_c _ g s (HA _ _).out).mono ?_; rintro e w1 ⟨rfl, rfl⟩)
        | (go_at_call 55; refine (rest_c _ g s (HA _ _).out).mono ?_; rintro e w1 ⟨A1, c1, rfl, hr1, k1, rfl⟩)
        | (go_at_call 53; refine (takestep_c (B := g) (hx := w.heap.size + 1) (hm := w.heap.size) (l := s.rest) _ n ((by have := Blk.new (w.alloc (.cells #[.int .i64 n] 3)) 27 #[.slice none 0 0]; simpa using this : Blk _ (w.heap.size + 1) 27 #[.slice none 0 0]).drewN k1) (((Blk.new w 3 #[.int .i64 n]).alloc _).drewN k1) hr1 hll).mono ?_; rintro e w2 ⟨rfl, hg2, v2, L2, hx2, ho2, hL2⟩; have HL2 := Lib.hid hL2; clear hL2; obtain ⟨A2, c2, rfl, hc2⟩ := (Rd.of_own ho2).form; rw [← HK.out, ← HE.out]; have HO := Lib.hid ho2; clear ho2 hc2; have hCw2 := ((HA _ _).out.drewN k1).other hg2 (by omega); obtain ⟨hc21, hc22, hf21, hf22⟩ := hCw2.cells; have hc2x := hx2.cell 0; simp at hc2x; have HX2 := Lib.hid hx2; have HG2 := Lib.hid hg2; have HC2 := Lib.hid hCw2; clear hx2 hg2 hCw2))
      go_ret
      have et : takeErr s.rest n ≠ 0 := by rw [← HE.out]; exact HZ.out
      have en : s.take n = [] := by unfold Cs.take; rw [if_neg (by simp [H0.out]), if_pos et]
      have en' : s.take' n = { s with e := er } := by unfold Cs.take'; rw [Cs.moved_bad H0.out _ et, HE.out]
      rw [en']
      have ho1 := own_lower (base' := w.heap.size) HO.out (by omega)
      have ho2 := own_setCell ho1 (p := ⟨g, 2, none⟩) hg (.int .i64 er)
      have ho3 := own_to ho2 (m := (s.take n).length) (ys := bv (s.take n)) (by rw [HL2.out, if_neg et, en]) (by rw [HL2.out, if_neg et, en])
      exact ⟨⟨_, rfl, ho3⟩, (HC2.out.setErr er), only_setCell (only_new (only_drewN (only_alloc (only_alloc (World.grownBy.refl _ _) _) _) k1) HG2.out (Nat.le_succ _)) (p := ⟨g, 2, none⟩) (.inl rfl) _⟩

  · have hb0 : (s.e != 0) = true := by rw [bne_iff_ne]; exact h0
    have H0 := Lib.hid h0; clear h0 hbd hC
    go_enter Try.func31, Try.ntmps31
    go_wp2_with (first
        | (go_at_call 48; go_in)
        | (go_at_call 33; refine (err_c _ g s (HA _ _).out).mono ?_; rintro e w1 ⟨rfl, rfl⟩))
    go_ret
    have en : s.take n = [] := by unfold Cs.take; rw [if_pos H0.out]
    have en' : s.take' n = s := by unfold Cs.take'; rw [Cs.moved_err H0.out]
    rw [en']
    exact ⟨⟨_, rfl, by rw [en]; exact World.ownsRow_nil _ _ _ _⟩, (HA _ _).out, (only_alloc (only_alloc (World.grownBy.refl _ _) _) _)⟩

theorem textS_kbound (l : List UInt8) (most : Int) (hm : most ≤ 9223372036854775807) : (textS l most).2.1 ≤ l.length := by
  have h := limS_facts l most hm
  unfold textS
  split
  · simp
  · split
    · simp
    · simp only; omega
set_option maxRecDepth 100000 in
set_option maxHeartbeats 1000000 in
theorem ctext_c (w : World) (g : Nat) (s : Cs) (hC : Cur w g s) (most : Int) (hmo : -9223372036854775808 ≤ most ∧ most ≤ 9223372036854775807) :
    Calls Try.prog 32 #[.pointer (some ⟨g, 0, none⟩), .int .i64 most] w fun e w' => e = .returned (.string ⟨(s.text most).toArray⟩) ∧ CurP w g (s.text' most) w' := by
  have hg := hC.lt
  have HA := fun o o' => Lib.hid ((hC.alloc o).alloc o')
  have hbd := hC.bounds
  have HC := Lib.hid hC
  by_cases h0 : s.e = 0
  · obtain ⟨k, hk⟩ : ∃ k, k = (textS s.rest most).2.1 := ⟨_, rfl⟩
    obtain ⟨er, her⟩ : ∃ er, er = (textS s.rest most).2.2 := ⟨_, rfl⟩
    have hkl : er = 0 → s.at_ + k ≤ s.b.length := by
      intro he0
      have := textS_kbound s.rest most hmo.2
      rw [hbd.2.2.1, ← hk] at this; unfold Cs.left at this; omega
    have hb0 : (s.e != 0) = false := by simp [h0]
    have HK := Lib.hid hk; have HE := Lib.hid her; have H0 := Lib.hid h0
    have hll : s.left ≤ 1099511627776 := by omega
    have hal : s.at_ ≤ 1099511627776 := by omega
    have hbl : s.b.length ≤ 1099511627776 := by omega
    have HLL := Lib.hid hbd.2.2.1
    clear hbd hk her h0 hC
    by_cases he : er = 0
    · have hbe : (er != 0) = false := by simp [he]
      have hkl' := hkl he
      have hkk : s.at_ + k ≤ 1099511627776 := by omega
      have HZ := Lib.hid he; clear he hkl
      go_enter Try.func32, Try.ntmps32
      go_wp2_with (first
        | (go_at_call 48; go_in)
        | (go_at_call 33; refine (err_c _ g s (HA _ _).out).mono ?_; rintro e w1 ⟨rfl, rfl⟩)
        | (go_at_call 55; refine (rest_c _ g s (HA _ _).out).mono ?_; rintro e w1 ⟨A1, c1, rfl, hr1, k1, rfl⟩)
        | (go_at_call 54; refine (textstep_c (B := g) (hx := w.heap.size + 1) (hm := w.heap.size) (l := s.rest) _ most hmo ((by have := Blk.new (w.alloc (.cells #[.int .i64 most] 3)) 9 #[.string ⟨#[]⟩]; simpa using this : Blk _ (w.heap.size + 1) 9 #[.string ⟨#[]⟩]).drewN k1) (((Blk.new w 3 #[.int .i64 most]).alloc _).drewN k1) hr1 hll).mono ?_; rintro e w2 ⟨rfl, hg2, hx2⟩; rw [← HK.out, ← HE.out]; have hCw2 := ((HA _ _).out.drewN k1).other hg2 (by omega); obtain ⟨hc21, hc22, hf21, hf22⟩ := hCw2.cells; have hc2x := hx2.cell 0; simp at hc2x; have HX2 := Lib.hid hx2; have HG2 := Lib.hid hg2; have HC2 := Lib.hid hCw2; clear hx2 hg2 hCw2))
      go_ret
      have en : s.text most = (textS s.rest most).1 := by unfold Cs.text; rw [if_neg (by simp [H0.out])]
      have en' : s.text' most = { s with at_ := s.at_ + k } := by unfold Cs.text'; rw [← HK.out, ← HE.out, HZ.out, Cs.moved_ok H0.out]
      rw [en, en']
      exact ⟨rfl, (HC2.out.setAt k hkl'), only_setCell (only_new (only_drewN (only_alloc (only_alloc (World.grownBy.refl _ _) _) _) k1) HG2.out (Nat.le_succ _)) (p := ⟨g, 1, none⟩) (.inl rfl) _⟩

    · have hbe : (er != 0) = true := by rw [bne_iff_ne]; exact he
      have HZ := Lib.hid he; clear he hkl
      go_enter Try.func32, Try.ntmps32
      go_wp2_with (first
        | (go_at_call 48; go_in)
        | (go_at_call 33; refine (err_c _ g s (HA _ _).out).mono ?_; rintro e w1 ⟨rfl, rfl⟩)
        | (go_at_call 55; refine (rest_c _ g s (HA _ _).out).mono ?_; rintro e w1 ⟨A1, c1, rfl, hr1, k1, rfl⟩)
        | (go_at_call 54; refine (textstep_c (B := g) (hx := w.heap.size + 1) (hm := w.heap.size) (l := s.rest) _ most hmo ((by have := Blk.new (w.alloc (.cells #[.int .i64 most] 3)) 9 #[.string ⟨#[]⟩]; simpa using this : Blk _ (w.heap.size + 1) 9 #[.string ⟨#[]⟩]).drewN k1) (((Blk.new w 3 #[.int .i64 most]).alloc _).drewN k1) hr1 hll).mono ?_; rintro e w2 ⟨rfl, hg2, hx2⟩; rw [← HK.out, ← HE.out]; have hCw2 := ((HA _ _).out.drewN k1).other hg2 (by omega); obtain ⟨hc21, hc22, hf21, hf22⟩ := hCw2.cells; have hc2x := hx2.cell 0; simp at hc2x; have HX2 := Lib.hid hx2; have HG2 := Lib.hid hg2; have HC2 := Lib.hid hCw2; clear hx2 hg2 hCw2))
      go_ret
      have en : s.text most = (textS s.rest most).1 := by unfold Cs.text; rw [if_neg (by simp [H0.out])]
      have en' : s.text' most = { s with e := er } := by unfold Cs.text'; rw [← HK.out, ← HE.out, Cs.moved_bad H0.out k HZ.out]
      rw [en, en']
      exact ⟨rfl, (HC2.out.setErr er), only_setCell (only_new (only_drewN (only_alloc (only_alloc (World.grownBy.refl _ _) _) _) k1) HG2.out (Nat.le_succ _)) (p := ⟨g, 2, none⟩) (.inl rfl) _⟩

  · have hb0 : (s.e != 0) = true := by rw [bne_iff_ne]; exact h0
    have H0 := Lib.hid h0; clear h0 hbd hC
    go_enter Try.func32, Try.ntmps32
    go_wp2_with (first
        | (go_at_call 48; go_in)
        | (go_at_call 33; refine (err_c _ g s (HA _ _).out).mono ?_; rintro e w1 ⟨rfl, rfl⟩))
    go_ret
    have en : s.text most = [] := by unfold Cs.text; rw [if_pos H0.out]
    have en' : s.text' most = s := by unfold Cs.text'; rw [Cs.moved_err H0.out]
    rw [en, en']
    exact ⟨rfl, (HA _ _).out, (only_alloc (only_alloc (World.grownBy.refl _ _) _) _)⟩

end Go.Proofs.Ytejibnkgenonfaa
